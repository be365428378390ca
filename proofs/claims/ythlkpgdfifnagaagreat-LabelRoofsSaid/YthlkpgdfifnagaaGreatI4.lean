import Derived.Test.YthlkpgdfifnagaaGreatR8
namespace Go.Proofs.YthlkpgdfifnagaaGreat
open Go Go.RowKit Go.Sort List
section
variable {l:List Ab} {T:List Ah}
def prL(s:Ab):Ab:=pr2 s.a0 s.a1
theorem Ab3{α:Type}{l:List α}{k:Nat}(h:k<l.length):l.take (k+1)=l.take k++[l[k]]:=by
 rw[take_add_one,List.getElem?_eq_getElem h];rfl
theorem Aqc{α:Type}{l:List α}{x:α}:(l++[x]).Nodup↔l.Nodup/\x ∉ l:=by
 rw[nodup_append];constructor
 ·rintro⟨h1,_,h3⟩;exact⟨h1,fun h=>h3 x h x s_ rfl⟩
 ·rintro⟨h1,h2⟩;exact⟨h1,s_,fun a ha b hb e=>h2 (by rw[mem_singleton] at hb;rw[<- hb,<- e];exact ha)⟩
theorem Bcz{s:Ab}(h:s.a0<=s.a1):prL s=s:=by
 obtain⟨x,y⟩:=s;unfold prL pr2;dsimp only at h ⊢;rw[Int.min_eq_left h,Int.max_eq_right h]
theorem Azs{L:List Ab}(h:∀ s∈L,s.a0<=s.a1):L.map prL=L:=by
 induction L with
 | nil=>rfl
 | cons x r ih=>rw[map_cons,Bcz (h x s_),ih (fun s hs=>h s (by simp[hs]))]
theorem Azt(x y:Ab):Qm x y=some (decide (cmp2 x y<0)):=by
 have h:=Adb x y;unfold Qm;rw[jn_d]
 by_cases c:x.a0<y.a0
 ·rw[if_pos c,decide_eq_true (h.2 (.inl c))]
 ·rw[if_neg c]
  by_cases c2:x.a0=y.a0
  ·rw[if_pos c2];congr 1;exact decide_eq_decide.2 (by rw[h];omega)
  ·rw[if_neg c2,decide_eq_false (fun g=>by have:=h.1 g;omega)]
theorem Ai5(hl:l.length<=1000000)(hs:∀ s∈l.map prL,Qy s):Di l=some (Bc cmp2 (l.map prL)):=by
 obtain⟨t,ht,hR⟩:=Be (B:=Hk l) (fun s=>l.length-s.2.toNat)
  (fun s=>∃ k:Nat,s=((l.take k).map prL,(k:Int))/\k<=l.length)
  (fun t=>t=l.map prL) (by
   rintro s ⟨k,rfl,hk⟩;unfold Hk;dsimp only
   by_cases hlt:k<l.length
   ·left;refine⟨((l.take (k+1)).map prL,((k+1:Nat):Int)),?_,⟨k+1,rfl,oo⟩,by simp;omega⟩;rw[if_pos oo,As hlt,Ae,Ae,Ae,Ae,gd_t (by simp;omega),Az oo,Ab3 hlt,map_append];rfl
   ·right;obtain rfl:k=l.length:=oo;exact⟨_,by rw[if_neg oo],s_⟩)
  ([],0) ⟨0,s_,oo⟩
 have hp:(l.map prL).length<=100000000:=by simp;omega
 have:=Apo (lt:=fun x y:Ab=>decide (cmp2 x y<0)) (B:=Gk) (B2:=Fd (l.map prL)) (p:=l.map prL)
  (fun x y z h1 h2=>by
   simp only[decide_eq_false_iff_not,Adb] at *;omega)
  (fun x y h=>by
   simp only[decide_eq_false_iff_not,decide_eq_true_eq,Adb] at *;omega)
  (fun A y x R hA=>by
   obtain⟨i0,i1⟩:=Anm A y x R;have w1:w64 (((A.length+1:Nat):Int)-1)=(A.length:Int):=by rw[Av oo oo];omega
   unfold Gk;dsimp only;rw[jn_d,if_pos oo,w1,i1,Ae,i0,Ae,Azt,Ae]
   by_cases c:decide (cmp2 x y<0)=true
   ·have e1:(A++y::x::R).set (A.length+1) y=A++y::y::R:=by simp[set_append]
    have e2:(A++y::y::R).set A.length x=A++x::y::R:=by simp[set_append]
    have j0:∃ z,idx (A++y::y::R) (A.length:Int)=some z:=⟨_,(Anm A y y R).1⟩;obtain⟨z,j0⟩:=j0;dsimp only;rw[if_pos c,if_pos c,Ae,Ae,Ae,Mv,e1,j0,Ae,Mv,e2]
   ·dsimp only;rw[if_neg c,if_neg c])
  (fun x R=>by
   unfold Gk;dsimp only;rw[jn_d,if_neg oo];dsimp only;rw[if_neg s_])
  hp
  (fun l k hk=>by
   unfold Fd;dsimp only;rw[if_pos oo,jn_d,show w64 ((k:Int)+1)=((k+1:Nat):Int) from by rw[Av oo oo];omega])
  (fun l=>by
   unfold Fd;dsimp only;rw[if_neg oo])
 obtain⟨r,h1,h2,h3⟩:=this;have e:r=Bc cmp2 (l.map prL):=Acy tot2 (fun x hx=>hs x (h2.mem_iff.1 hx)) (h3.imp fun h=>by simpa using h) (Nj tot2 hs) (h2.trans (Ex _ _).symm);unfold Di;rw[jn_d,ht,Ae,hR];dsimp only;rw[jn_d,h1,Ae,e]
abbrev Q2:=List (Ab × Bool) × List Ab
noncomputable def add2(q:Q2)(s:Ab):Q2:=if (mget q.1 s).getD false=true then q else (mput q.1 s true,q.2++[s])
structure Took(q:Q2)(P:Ab->Prop):Prop where
 ok:Dq q.1
 same:∀ s,(mget q.1 s).getD false=true↔s∈q.2
 nd:q.2.Nodup
 mem:∀ s,s∈q.2↔P s
 len:q.1.length<=q.2.length
theorem Took.nil:Took ([],[]) (fun _=>False):=⟨List.Pairwise.nil,fun s=>by simp[mget],nodup_nil,fun s=>s_,Nat.le_refl _⟩
theorem Took.add{q:Q2}{P:Ab->Prop}(h:Took q P)(s:Ab):Took (add2 q s) (fun x=>P x\/x=s)/\(add2 q s).2.length<=q.2.length+1:=by
 unfold add2
 by_cases c:(mget q.1 s).getD false=true
 ·rw[if_pos c];have hs:=(h.mem s).1 ((h.same s).1 c);refine⟨⟨h.ok,h.same,h.nd,fun x=>(h.mem x).trans ⟨.inl,fun g=>g.elim id fun e=>by rw[e];exact hs⟩,h.len⟩,oo⟩
 ·rw[if_neg c];have hn:s ∉ q.2:=fun g=>c ((h.same s).2 g)
  refine⟨⟨h.ok.put _ _,fun x=>?_,?_,fun x=>?_,?_⟩,s_⟩
  ·dsimp only;rw[Pu h.ok]
   by_cases e:x=s
   ·rw[if_pos e,e];simp
   ·rw[if_neg e,h.same x];simp[e]
  ·dsimp only;rw[Aqc];exact⟨h.nd,hn⟩
  ·dsimp only;rw[mem_append,mem_singleton,h.mem x]
  ·dsimp only;have:=Aae q.1 s;rw[length_append,length_singleton];have:=h.len;omega
def cn3(t:Ah)(k:Nat):Ab:=if k=0 then pr2 t.a0 t.a1 else if k=1 then pr2 t.a1 t.a2 else pr2 t.a2 t.a0
theorem Azu(t:Ah){k:Nat}(hk:k<3):∃ x y,idx [t.a0,t.a1,t.a2] (k:Int)=some x/\idx [t.a0,t.a1,t.a2] (Int.tmod (w64 ((k:Int)+1)) 3)=some y/\pr2 x y=cn3 t k:=by
 have:k=0\/k=1\/k=2:=oo;rcases this with rfl | rfl | rfl
 ·exact⟨t.a0,t.a1,rfl,by rw[Av oo oo];rfl,rfl⟩
 ·exact⟨t.a1,t.a2,rfl,by rw[Av oo oo];rfl,rfl⟩
 ·exact⟨t.a2,t.a0,rfl,by rw[Av oo oo];rfl,rfl⟩
def mod3(t:Ah):Prop:=(0<=t.a0/\t.a0<=1000000)/\(0<=t.a1/\t.a1<=1000000)/\(0<=t.a2/\t.a2<=1000000)
theorem Alg{t:Ah}(h:mod3 t)(k:Nat):(0<=(cn3 t k).a0/\(cn3 t k).a0<=1000000)/\0<=(cn3 t k).a1/\(cn3 t k).a1<=1000000:=by
 unfold mod3 at h;unfold cn3 pr2;split
 ·dsimp only;omega
 ·split
  ·dsimp only;omega
  ·dsimp only;omega
theorem Ad9{n:Nat}{q0:List Ab × List (Ab × Bool)}{t:Ah}(hn:n<T.length)(e0:T[n]=t)(ht:mod3 t){q:Q2}(h1:q.1.length<=1000000000)(h2:q.2.length<=1000000000){k:Nat}(hk:k<3):Er T (q0.1,q0.2,(n:Int)) (q.2,q.1,(k:Int))=some (.inl ((add2 q (cn3 t k)).2,(add2 q (cn3 t k)).1,((k+1:Nat):Int))):=by
 obtain⟨x,y,e1,e2,e3⟩:=Azu t hk;obtain⟨⟨b1,b2⟩,b3,b4⟩:=Alg ht k;unfold Er;dsimp only;have e4:(⟨min x y,max x y⟩:Ab)=cn3 t k:=e3;have e5:min x y=(cn3 t k).a0:=by rw[<- e3];rfl
 have e6:max x y=(cn3 t k).a1:=by rw[<- e3];rfl
 rw[if_pos oo,jn_d,As hn,Ae,e0,e1,Ae,Ae,e2,Ae,gd_t ⟨⟨oo,oo⟩,oo,oo⟩,e4,Ae];unfold add2
 by_cases c:(mget q.1 (cn3 t k)).getD false=true
 ·rw[if_pos c,if_pos c,Az oo]
 ·rw[if_neg c,if_neg c,gd_t ⟨⟨oo,oo⟩,oo,oo⟩,gd_t oo,gd_t oo,Az oo]
noncomputable def add3(q:Q2)(t:Ah):Q2:=add2 (add2 (add2 q (cn3 t 0)) (cn3 t 1)) (cn3 t 2)
theorem Took.addt{q:Q2}{P:Ab->Prop}(h:Took q P)(t:Ah):Took (add3 q t) (fun x=>P x\/∃ k,k<3/\x=cn3 t k)/\(add3 q t).2.length<=q.2.length+3:=by
 obtain⟨h1,l1⟩:=h.add (cn3 t 0);obtain⟨h2,l2⟩:=h1.add (cn3 t 1);obtain⟨h3,l3⟩:=h2.add (cn3 t 2);refine⟨⟨h3.ok,h3.same,h3.nd,fun x=>(h3.mem x).trans ?_,h3.len⟩,by show (add2 (add2 (add2 q (cn3 t 0)) (cn3 t 1)) (cn3 t 2)).2.length<=_;omega⟩;constructor
 ·rintro (((g | g) | g) | g)
  ·exact .inl g
  ·exact .inr ⟨0,oo,g⟩
  ·exact .inr ⟨1,oo,g⟩
  ·exact .inr ⟨2,oo,g⟩
 ·rintro (g | ⟨k,hk,g⟩)
  ·exact .inl (.inl (.inl g))
  ·have:k=0\/k=1\/k=2:=oo;rcases this with rfl | rfl | rfl
   ·exact .inl (.inl (.inr g))
   ·exact .inl (.inr g)
   ·exact .inr g
theorem At4{n:Nat}{q0:List Ab × List (Ab × Bool)}{t:Ah}(hn:n<T.length)(e0:T[n]=t)(ht:mod3 t){q:Q2}{P:Ab->Prop}(h:Took q P)(h2:q.2.length<=100000000):lfix (Er T (q0.1,q0.2,(n:Int))) (q.2,q.1,0)=some ((add3 q t).2,(add3 q t).1):=by
 obtain⟨g1,l1⟩:=h.add (cn3 t 0);obtain⟨g2,l2⟩:=g1.add (cn3 t 1);obtain⟨g3,l3⟩:=g2.add (cn3 t 2);have n0:=h.len;have n1:=g1.len;have n2:=g2.len;rw[Ba,show ((0:Int))=((0:Nat):Int) from rfl,Ad9 hn e0 ht oo oo oo];simp only[Nat.reduceAdd];rw[Ba,Ad9 hn e0 ht oo oo oo];simp only[Nat.reduceAdd];rw[Ba,Ad9 hn e0 ht oo oo oo];simp only[Nat.reduceAdd];rw[Ba];have:Er T (q0.1,q0.2,(n:Int)) ((add2 (add2 (add2 q (cn3 t 0)) (cn3 t 1)) (cn3 t 2)).2,(add2 (add2 (add2 q (cn3 t 0)) (cn3 t 1)) (cn3 t 2)).1,((3:Nat):Int))=some (.inr ((add3 q t).2,(add3 q t).1)):=by
  unfold Er;dsimp only;rw[if_neg oo];rfl
 rw[this]
def Ag4(T:List Ah)(s:Ab):Prop:=∃ t∈T,∃ k,k<3/\s=cn3 t k
theorem Ag4.snoc{t:Ah}{s:Ab}:Ag4 (T++[t]) s↔Ag4 T s\/∃ k,k<3/\s=cn3 t k:=by
 unfold Ag4;simp only[mem_append,mem_singleton,or_and_right,exists_or,exists_eq_left]
noncomputable def addT(T:List Ah):Q2:=T.foldl add3 ([],[])
theorem Alh(t:Ah):addT (T++[t])=add3 (addT T) t:=by unfold addT;rw[foldl_append];rfl
theorem Aqd:∀ (n:Nat) (T:List Ah),T.length=n->Took (addT T) (Ag4 T)/\(addT T).2.length<=3*T.length
 | 0,T,h=>by
  obtain rfl:=length_eq_zero_iff.1 h;refine⟨⟨Took.nil.ok,Took.nil.same,Took.nil.nd,fun s=>?_,Nat.le_refl _⟩,by simp[addT]⟩;simp[addT,Ag4]
 | n+1,T,h=>by
  obtain⟨r,t,rfl⟩:∃ r t,T=r++[t]:=by
   have hne:T≠[]:=fun e=>by rw[e] at h;simp at h
   exact⟨T.dropLast,T.getLast hne,(dropLast_concat_getLast hne).symm⟩
  obtain⟨h1,h2⟩:=Aqd n r (by simpa using h);obtain⟨h3,h4⟩:=h1.addt t;rw[Alh];refine⟨⟨h3.ok,h3.same,h3.nd,fun s=>(h3.mem s).trans Ag4.snoc.symm,h3.len⟩,?_⟩;rw[length_append,length_singleton];omega
theorem Ai6(hT:T.length<=2000000)(hm:∀ t∈T,mod3 t):lfix (Jk T) ([],[],0)=some (addT T).2:=by
 obtain⟨t,t1,t2⟩:=Be (B:=Jk T) (fun s=>T.length-s.2.2.toNat)
  (fun s=>∃ k:Nat,k<=T.length/\s=((addT (T.take k)).2,(addT (T.take k)).1,(k:Int))) (fun t=>t=(addT T).2) (by
   rintro s ⟨k,hk,rfl⟩;unfold Jk;dsimp only
   by_cases hlt:k<T.length
   ·left;obtain⟨h1,h2⟩:=Aqd _ (T.take k) rfl;have hl:(T.take k).length=k:=by rw[length_take];omega
    rw[if_pos oo,jn_d,At4 (q0:=((addT (T.take k)).2,(addT (T.take k)).1)) hlt rfl (hm _ (getElem_mem hlt)) h1 oo,Ae];dsimp only;rw[Az oo];exact⟨_,rfl,⟨k+1,oo,by rw[Ab3 hlt,Alh]⟩,by dsimp only;omega⟩
   ·right;obtain rfl:k=T.length:=oo;rw[if_neg oo];exact⟨_,rfl,by rw[take_length]⟩)
  ([],[],0) ⟨0,oo,rfl⟩
 rw[t1,t2]
theorem At5(hT:T.length<=300000)(hm:∀ t∈T,mod3 t):∃ S,Ki T=some S/\S.Nodup/\(∀ s,s∈S↔Ag4 T s)/\S.length<=3*T.length/\S.Pairwise (fun x y=>¬ cmp2 y x<0):=by
 obtain⟨h1,h2⟩:=Aqd _ T rfl;have sm:∀ s∈(addT T).2,Qy s:=fun s hs=>by
  obtain⟨t,ht,k,_,rfl⟩:=(h1.mem s).1 hs;obtain⟨⟨b1,b2⟩,b3,b4⟩:=Alg (hm t ht) k;exact⟨⟨oo,oo⟩,oo,oo⟩
 have pl:(addT T).2.map prL=(addT T).2:=Azs fun s hs=>by
  obtain⟨t,ht,k,_,rfl⟩:=(h1.mem s).1 hs;unfold cn3 pr2;split
  ·dsimp only;omega
  ·split
   ·dsimp only;omega
   ·dsimp only;omega
 refine⟨Bc cmp2 (addT T).2,?_,((Ex _ _).nodup_iff).2 h1.nd,fun s=>Nk.trans (h1.mem s),by rw[(Ex _ _).length_eq];exact h2,Nj tot2 sm⟩
 ·unfold Ki;rw[jn_d,Ai6 oo hm,Ae];dsimp only;rw[Ai5 oo (by rw[pl];exact sm),pl,Ae]
end
end Go.Proofs.YthlkpgdfifnagaaGreat
namespace Go.Proofs.YthlkpgdfifnagaaGreat
open Go Go.RowKit List
def L16(m:Nat):List Int:=nI (dig 65536 m)
def Z16(z:Int):Aj:=⟨decide (z<0),L16 z.natAbs⟩
theorem Azv{l:List Nat}{k:Nat}:(nI l).take k=nI (l.take k):=by simp[nI]
theorem Ali:∀ (l:List Nat),nrm (l++[0])=nrm l
 | []=>rfl
 | x::r=>by simp only[cons_append,nrm];rw[Ali r]
theorem Aoc:∀ (l:List Nat) {x:Nat},x≠0->nrm (l++[x])=l++[x]
 | [],x,h=>by simp[nrm,h]
 | y::r,x,h=>by
  simp only[cons_append,nrm];rw[Aoc r h];cases r <;> rfl
theorem Afa(l:List Nat)(h9:l.length<=1000000000):Bp (nI l)=some (nI (nrm l)):=by
 obtain⟨t,ht,k,rfl,hk,hn⟩:=Be (B:=Ps (nI l)) (fun s=>s.toNat)
  (fun s=>∃ k:Nat,s=(k:Int)/\k<=l.length/\nrm (l.take k)=nrm l)
  (fun t=>∃ k:Nat,t=(k:Int)/\k<=l.length/\l.take k=nrm l) (by
   rintro s ⟨k,rfl,hk,hn⟩;unfold Ps;simp only[jn_d]
   by_cases h0:k=0
   ·right;subst h0;refine⟨((0:Nat):Int),by rw[if_neg oo];rfl,0,rfl,oo,?_⟩;rw[<- hn];rfl
   ·have h1:k-1<l.length:=oo;rw[if_pos oo,show ((k:Int)-1)=((k-1:Nat):Int) from by omega,Ri oo,Du h1,Ae];have e:l.take k=l.take (k-1)++[l[k-1]]:=by
     obtain⟨q,rfl⟩:=Nat.exists_eq_succ_of_ne_zero h0;simp only[Nat.succ_eq_add_one,Nat.add_sub_cancel] at h1 ⊢;rw[take_add_one,List.getElem?_eq_getElem h1];rfl
    by_cases hz:l[k-1]=0
    ·left;refine⟨((k-1:Nat):Int),by rw[if_pos (by simp[hz])],⟨k-1,rfl,oo,?_⟩,oo⟩;rw[<- hn,e,hz,Ali]
    ·right;refine⟨(k:Int),by rw[if_neg (by simp;omega)],k,rfl,hk,?_⟩;rw[<- hn,e,Aoc _ hz])
  (l.length:Int) ⟨l.length,rfl,oo,by rw[take_length]⟩
 unfold Bp;simp only[jn_d,Cj];rw[ht,Ae,gd_t oo,Bca,Int.toNat_natCast,Azv,hn]
theorem Aqe(a:Nat):Int.tmod (a:Int) 65536=((a % 65536:Nat):Int):=by rw[Int.tmod_eq_emod_of_nonneg oo];omega
theorem Aqf(a:Nat):Int.tdiv (a:Int) 65536=((a / 65536:Nat):Int):=by rw[Int.tdiv_eq_ediv_of_nonneg oo];omega
theorem Fo{m : Nat}: ∀ {k : Nat}, m<65536 ^ k -> (dig 65536 m).length <= k := by
  intro k
  induction k generalizing m with
  | zero => intro h;obtain rfl : m = 0 := by simpa using h
            simp[Rn]
  | succ k ih=>
    intro h
    by_cases h0 : m = 0
    · subst h0;simp[Rn]
    · rw[Sg oo h0, length_cons];have := ih (m := m / 65536) (Nat.div_lt_of_lt_mul (by rw[Nat.pow_succ, Nat.mul_comm] at h;exact h));omega
theorem Aod{z:Int}(h1:-9223372036854775808<=z)(h2:z<=9223372036854775807):Ic z=some (Z16 z):=by
 have key:∀ m:Nat,m<18446744073709551616->lfix Jt ((m:Int),([]:List Int))=some (L16 m):=by
  intro m hm;have h4:(dig 65536 m).length<=4:=Fo oo;obtain⟨t,ht,hR⟩:=Be (B:=Jt) (fun s=>s.1.toNat)
   (fun s=>∃ (u:Nat) (o:List Nat),s=((u:Int),nI o)/\dig 65536 m=o++dig 65536 u/\u<18446744073709551616)
   (fun t=>t=L16 m) (by
    rintro s ⟨u,o,rfl,hd,hu⟩;unfold Jt
    by_cases h0:u=0
    ·right;subst h0;exact⟨_,by simp only[];rw[if_neg oo],by rw[Rn,append_nil] at hd;unfold L16;rw[hd]⟩
    ·left;have ho:o.length<=4:=by have:=congrArg List.length hd;rw[length_append] at this;omega
     refine⟨(((u / 65536:Nat):Int),nI (o++[u % 65536])),?_,⟨u / 65536,_,rfl,?_,oo⟩,by simp;omega⟩
     ·simp only[Cj];rw[if_pos oo,gd_t oo,Aqf,Aqe,Ri oo,Qb oo];simp[nI]
     ·rw[hd,Sg oo h0,append_assoc];rfl)
   ((m:Int),nI []) ⟨m,[],rfl,rfl,hm⟩
  rw[<- hR];exact ht
 unfold Ic;simp only[jn_d]
 by_cases h:z<0
 ·rw[if_pos h,show wu64 (-(wu64 z))=((z.natAbs:Nat):Int) from by rw[Vx,Vx];omega,key _ oo,Ae];rfl
 ·rw[if_neg h,show wu64 z=((z.natAbs:Nat):Int) from by rw[Vx];omega,key _ oo,Ae];rfl
theorem Azw(l r:List Nat)(hl:∀ x∈l,x<65536)(hr:∀ x∈r,x<65536)(hb:l.length+r.length<=1000000):
  Co (nI l) (nI r)=some (L16 (val 65536 l*val 65536 r)):=by
 have e:w64 ((((nI l).length:Nat):Int)+(((nI r).length:Nat):Int))=((l.length+r.length:Nat):Int):=by rw[Cj,Cj,Av oo oo];omega
 obtain⟨t,ht,out,rfl,hd⟩:=Be (B:=Gv (nI l) (nI r)) (fun s=>l.length-s.2.toNat)
  (fun s=>∃ (out:List Nat) (i:Nat),s=(nI out,(i:Int))/\out.length=l.length+r.length/\i<=l.length/\(∀ x∈out,x<65536)/\(∀ (q:Nat) (h:q<out.length),i+r.length<=q->out[q]=0)/\val 65536 out=val 65536 (l.take i)*val 65536 r)
  (fun t=>∃ out,t=nI out/\out.length<=1000000000/\nrm out=dig 65536 (val 65536 l*val 65536 r)) (by
   rintro s ⟨out0,i,rfl,hC1,hC2,hC3,hC4,hC5⟩
   by_cases hi:i<l.length
   ·left;obtain⟨t,ht,out,cy,rfl,hD1,hD2,hD4,hD5,hD6⟩:=Be (B:=Gu (nI r) (nI l) (nI out0,(i:Int))) (fun s=>r.length-s.2.2.toNat)
     (fun s=>∃ (out:List Nat) (cy j:Nat),s=(nI out,(cy:Int),(j:Int))/\out.length=l.length+r.length/\cy<65536/\j<=r.length/\(∀ x∈out,x<65536)/\(∀ (q:Nat) (h:q<out.length),i+r.length<=q->out[q]=0)/\val 65536 out+cy*65536 ^ (i+j)=val 65536 out0+l[i] * val 65536 (r.take j)*65536 ^ i)
     (fun t=>∃ (out:List Nat) (cy:Nat),t=(nI out,(cy:Int))/\out.length=l.length+r.length/\cy<65536/\(∀ x∈out,x<65536)/\(∀ (q:Nat) (h:q<out.length),i+r.length<=q->out[q]=0)/\val 65536 out+cy*65536 ^ (i+r.length)=val 65536 out0+l[i] * val 65536 (r.take r.length)*65536 ^ i) (by
      rintro s ⟨out,cy,j,rfl,hD1,hD2,hD3,hD4,hD5,hD6⟩
      by_cases hj:j<r.length
      ·left;have hk:i+j<out.length:=oo;have h1:=hl _ (getElem_mem hi);have h2:=hr _ (getElem_mem hj);have h3:=hD4 _ (getElem_mem hk);have hmm:=Aop h1 h2;have e1:w64 ((i:Int)+(j:Int))=((i+j:Nat):Int):=by rw[Av oo oo];omega
       have e2:w64 (w64 (w64 ((l[i]:Int)*(r[j]:Int))+(out[i+j]:Int))+(cy:Int))=((l[i] * r[j] + out[i+j] + cy:Nat):Int):=by
        have e3:w64 ((l[i]:Int)*(r[j]:Int))=((l[i] * r[j]:Nat):Int):=by rw[<- Int.natCast_mul];exact Ri oo
        rw[e3,<- Int.natCast_add,Ri oo,<- Int.natCast_add,Ri oo]
       have e4:w64 (((l[i] * r[j] + out[i+j] + cy) / 65536:Nat):Int)=(((l[i] * r[j] + out[i+j] + cy) / 65536:Nat):Int):=Ri oo;refine⟨(nI (out.set (i+j) ((l[i] * r[j] + out[i+j] + cy) % 65536)),(((l[i] * r[j] + out[i+j] + cy) / 65536:Nat):Int),((j+1:Nat):Int)),?_,⟨_,_,_,rfl,Aoq hi hj rfl rfl h1 h2 hD1 hD2 hD3 hD4 hD5 hD6 hk⟩,by simp;omega⟩;unfold Gu;simp only[e1];rw[if_pos (by rw[Cj];omega),Du hi,Ae,Du hj,Ae,Du hk,Ae,Ae,e2,Aqe,Aqf,e4,Xg,Az oo]
      ·right;obtain rfl:j=r.length:=oo;refine⟨(nI out,(cy:Int)),?_,out,cy,rfl,hD1,hD2,hD4,hD5,hD6⟩;unfold Gu;simp only[];rw[if_neg (by rw[Cj];omega)])
     (nI out0,((0:Nat):Int),((0:Nat):Int)) ⟨out0,0,0,rfl,hC1,oo,oo,hC3,fun q hq hiq=>hC4 q hq oo,by simp[val]⟩
    have hk:i+r.length<out.length:=oo;refine⟨(nI (out.set (i+r.length) (cy % 65536)),((i+1:Nat):Int)),?_,⟨_,_,rfl,Aor hi rfl rfl hD1 hD2 hD4 hD5 hD6 hC5 rfl⟩,by simp;omega⟩;unfold Gv;simp only[jn_d];have ht':lfix (Gu (nI r) (nI l) (nI out0,(i:Int))) (nI out0,0,0)=some (nI out,(cy:Int)):=ht;rw[if_pos (by rw[Cj];omega),ht',Ae,Cj,show w64 ((i:Int)+(r.length:Int))=((i+r.length:Nat):Int) from by rw[Av oo oo];omega,Du hk,Ae];simp only[];rw[Xg,Az oo,Nat.mod_eq_of_lt hD2]
   ·right;refine⟨nI out0,?_,out0,rfl,oo,Aqm (i:=i) oo rfl hC1 hC3 hC5⟩;unfold Gv;simp only[];rw[if_neg (by rw[Cj];omega)])
  (nI (List.replicate (l.length+r.length) 0),((0:Nat):Int)) ⟨_,0,rfl,s_,oo,s_,s_,by simp[val,Zt]⟩
 unfold Co;simp only[e,jn_d,Int.toNat_natCast,Aai];have ht':lfix (Gv (nI l) (nI r)) (nI (List.replicate (l.length+r.length) 0),0)=some (nI out):=ht;rw[gd_t ⟨oo,oo⟩,ht',Ae,Afa _ hd.1,Ae,hd.2];rfl
theorem Awm(a b:Nat)(ha:(dig 65536 a).length<=1000000):Dz (L16 a) (L16 b)=some (cmpN a b):=by
 unfold Dz L16;rw[Cj,Cj]
 by_cases hlen:(dig 65536 a).length=(dig 65536 b).length
 ·obtain⟨t,ht,hR⟩:=Be (B:=Ly (nI (dig 65536 a)) (nI (dig 65536 b))) (fun s=>(s+1).toNat)
   (fun s=>∃ k:Nat,s=(k:Int)-1/\k<=(dig 65536 a).length/\∀ (j:Nat) (h:j<(dig 65536 a).length) (h':j<(dig 65536 b).length),k<=j->(dig 65536 a)[j]=(dig 65536 b)[j])
   (fun t=>(t = .inl ()/\cmpN a b=0)\/t = .inr (cmpN a b)) (by
    rintro s ⟨k,rfl,hk,heq⟩;unfold Ly
    by_cases h0:k=0
    ·right;subst h0;refine⟨_,by rw[if_neg oo],.inl ⟨rfl,Axg oo hlen (fun j h h'=>heq j h h' oo)⟩⟩
    ·have h1:k-1<(dig 65536 a).length:=oo;have h2:k-1<(dig 65536 b).length:=oo;have hat:=Axf (b:=65536) oo hlen h1 h2 (fun j h h' hj=>heq j h h' oo);rw[if_pos oo,show ((k:Int)-1)=((k-1:Nat):Int) from by omega,Du h1,Ae,Du h2,Ae]
     by_cases he:(dig 65536 a)[k-1]=(dig 65536 b)[k-1]
     ·left;refine⟨((k-1:Nat):Int)-1,by rw[if_pos (by rw[he]),Av oo oo],⟨k-1,rfl,oo,fun j h h' hj=>?_⟩,oo⟩;rcases Nat.lt_or_ge (k-1) j with hq | hq
      ·exact heq j h h' oo
      ·obtain rfl:j=k-1:=oo;exact he
     ·right;rw[if_neg oo,Ae,Ae]
      by_cases hlt:(dig 65536 a)[k-1]<(dig 65536 b)[k-1]
      ·exact⟨_,by rw[if_pos oo],.inr (by rw[hat.1 hlt])⟩
      ·exact⟨_,by rw[if_neg oo],.inr (by rw[hat.2 oo])⟩)
   (((dig 65536 a).length:Int)-1) ⟨_,rfl,Nat.le_refl _,fun j h h' hj=>oo⟩
  rw[if_pos oo,jn_d,Av oo oo,ht,Ae];rcases hR with⟨rfl,h0⟩ | rfl
  ·simp only[h0]
  ·rfl
 ·rw[if_neg oo]
  by_cases hlt:(dig 65536 a).length<(dig 65536 b).length
  ·rw[if_pos oo,(Aia (b:=65536) oo rfl rfl).1 hlt]
  ·rw[if_neg oo,(Aia (b:=65536) oo rfl rfl).2 oo]
theorem Bb0:([1]:List Int)=L16 1:=by unfold L16;rw[Ah9 oo];rfl
theorem At6(l r o:List Nat)(cy i:Nat)(hl:∀ x∈l,x<65536)(hr:∀ x∈r,x<65536)(hcy:cy<=1)(hi:i<=1000001)(ho:o.length=i):
  Ie (nI r) (nI l) (nI o,(cy:Int),(i:Int))=if i<l.length\/i<r.length\/0<cy then some (.inl (nI (o++[(cy+l.getD i 0+r.getD i 0) % 65536]),(((cy+l.getD i 0+r.getD i 0) / 65536:Nat):Int),((i+1:Nat):Int))) else some (.inr (nI o)):=by
 have h1:=Add hl i;have h2:=Add hr i;have fin:∀ s:Nat,s<=131071->(nI o++[Int.tmod (s:Int) 65536],w64 (Int.tdiv (s:Int) 65536),w64 ((i:Int)+1))=(nI (o++[s % 65536]),((s / 65536:Nat):Int),((i+1:Nat):Int)):=by
  intro s hs;rw[Aqe,Aqf,Ri oo,Az oo];simp[nI]
 unfold Ie;simp only[jn_d,Cj]
 by_cases hn:i<l.length
 ·rw[if_pos (show (i:Int)<(l.length:Int) by omega),if_pos trivial,if_pos (show (i:Int)<(l.length:Int) by omega),Du hn,Ae,if_pos (show i<l.length\/i<r.length\/0<cy from .inl hn)];rw[show w64 ((cy:Int)+(l[i]:Int))=((cy+l.getD i 0:Nat):Int) from by rw[Xh hn] at *;rw[Av oo oo];omega]
  by_cases hm:i<r.length
  ·rw[if_pos (show (i:Int)<(r.length:Int) by omega),Du hm,Ae,gd_t oo];rw[show w64 (((cy+l.getD i 0:Nat):Int)+(r[i]:Int))=((cy+l.getD i 0+r.getD i 0:Nat):Int) from by rw[Xh hm] at *;rw[Av oo oo];omega];rw[fin _ oo]
  ·rw[if_neg (show ¬ (i:Int)<(r.length:Int) by omega),gd_t oo,fin _ oo,Sf hm];rfl
 ·rw[if_neg (show ¬ (i:Int)<(l.length:Int) by omega)]
  by_cases hm:i<r.length
  ·rw[if_pos (show (i:Int)<(r.length:Int) by omega),if_pos trivial,if_neg (show ¬ (i:Int)<(l.length:Int) by omega),if_pos (show (i:Int)<(r.length:Int) by omega),Du hm,Ae,gd_t oo,if_pos (show i<l.length\/i<r.length\/0<cy from .inr (.inl hm)),Sf hn,Nat.add_zero];rw[show w64 ((cy:Int)+(r[i]:Int))=((cy+r.getD i 0:Nat):Int) from by rw[Xh hm] at *;rw[Av oo oo];omega];rw[fin _ oo]
  ·rw[if_neg (show ¬ (i:Int)<(r.length:Int) by omega)]
   by_cases hc:0<cy
   ·rw[if_pos (by simpa using hc),if_neg (show ¬ (i:Int)<(l.length:Int) by omega),if_neg (show ¬ (i:Int)<(r.length:Int) by omega),gd_t oo,fin _ oo,if_pos (show i<l.length\/i<r.length\/0<cy from .inr (.inr hc)),Sf hn,Sf hm];rfl
   ·rw[if_neg (by simpa using hc),if_neg oo]
theorem Bc0(l r:List Nat)(hl:∀ x∈l,x<65536)(hr:∀ x∈r,x<65536)(h1:l.length<=1000000)(h2:r.length<=1000000):
  Gz (nI l) (nI r)=some (L16 (val 65536 l+val 65536 r)):=by
 obtain⟨t,ht,out,rfl,hd⟩:=Be (B:=Ie (nI r) (nI l)) (fun s=>2*(max l.length r.length-s.2.2.toNat)+s.2.1.toNat)
  (fun s=>∃ (o:List Nat) (cy i:Nat),s=(nI o,(cy:Int),(i:Int))/\o.length=i/\cy<=1/\i<=max l.length r.length+1/\(i=max l.length r.length+1->cy=0)/\(∀ x∈o,x<65536)/\val 65536 o+cy*65536 ^ i=val 65536 (l.take i)+val 65536 (r.take i))
  (fun t=>∃ out,t=nI out/\out.length<=1000000000/\nrm out=dig 65536 (val 65536 l+val 65536 r)) (by
   rintro s ⟨o,cy,i,rfl,hC1,hC2,hC3,hC0,hC4,hC5⟩;have g1:=Add hl i;have g2:=Add hr i;rw[At6 l r o cy i hl hr hC2 oo hC1]
   by_cases hc:i<l.length\/i<r.length\/0<cy
   ·left;rw[if_pos hc];refine⟨_,rfl,⟨_,_,_,rfl,by simp[hC1],oo,oo,fun he=>?_,?_,?_⟩,?_⟩
    ·rw[Sf (show ¬ i<l.length by omega),Sf (show ¬ i<r.length by omega)];omega
    ·intro x hx;rcases mem_append.1 hx with hx | hx
     ·exact hC4 x hx
     ·simp at hx;omega
    ·rw[Xz,hC1,Uk,Uk];have e:val 65536 [(cy+l.getD i 0+r.getD i 0) % 65536]=(cy+l.getD i 0+r.getD i 0) % 65536:=by simp[val]
     rw[e];have e2:=Nat.div_add_mod (cy+l.getD i 0+r.getD i 0) 65536;have e3:=congrArg (· * 65536 ^ i) e2;simp only[Nat.add_mul] at e3;have e4:65536 ^ (i+1)=65536*65536 ^ i:=by rw[Nat.pow_succ,Nat.mul_comm]
     rw[e4];generalize 65536 ^ i=P at *;generalize (cy+l.getD i 0+r.getD i 0) % 65536=M at *;generalize (cy+l.getD i 0+r.getD i 0) / 65536=D at *;generalize l.getD i 0=a at *;generalize r.getD i 0=b at *;have e5:D*(65536*P)=65536*D*P:=by grind
     have e6:P*M=M*P:=Nat.mul_comm _ _;have e7:P*a=a*P:=Nat.mul_comm _ _;have e8:P*b=b*P:=Nat.mul_comm _ _;omega
    ·simp only[Int.toNat_natCast]
     by_cases hb:i<l.length\/i<r.length
     ·omega
     ·rw[Sf (show ¬ i<l.length by omega),Sf (show ¬ i<r.length by omega)];omega
   ·right;rw[if_neg hc];refine⟨_,rfl,o,rfl,oo,?_⟩;have:cy=0:=oo;subst this;rw[Xy (b:=65536) oo o hC4];rw[take_of_length_le oo,take_of_length_le oo] at hC5;rw[show val 65536 o=val 65536 l+val 65536 r by omega])
  (nI [],((0:Nat):Int),((0:Nat):Int)) ⟨[],0,0,rfl,rfl,oo,oo,oo,s_,by simp[val]⟩
 unfold Gz;have ht':lfix (Ie (nI r) (nI l)) ([],0,0)=some (nI out):=ht;simp only[jn_d];rw[ht',Ae,Afa _ hd.1,Ae,hd.2];rfl
theorem At7(l r o:List Nat)(bw i:Nat)(hi:i<l.length)(hl:∀ x∈l,x<65536)(hr:∀ x∈r,x<65536)(hb:bw<=1)(h9:l.length<=1000000)(ho:o.length=i):
  ∃ d b':Nat,Fp (nI l) (nI r) (nI o,(bw:Int),(i:Int))=some (.inl (nI (o++[d]),(b':Int),((i+1:Nat):Int)))/\d<65536/\b'<=1/\d+bw+r.getD i 0=l.getD i 0+65536*b':=by
 have h1:=Add hl i;have h2:=Add hr i;unfold Fp;simp only[jn_d,Cj];rw[if_pos (show (i:Int)<(l.length:Int) by omega),Du hi,Ae];rw[Xh hi] at *;have fin:∀ t:Int,t=(l[i]:Int)-bw-(r.getD i 0:Int)->∃ d b':Nat,(if t<0 then gd (((nI o).length+1)*8<=140737488355328) (some (Sum.inl (β:=List Int) (nI o++[w64 (t+65536)],(1:Int),w64 ((i:Int)+1)))) else gd (((nI o).length+1)*8<=140737488355328) (some (.inl (nI o++[t],(0:Int),w64 ((i:Int)+1)))))=some (.inl (nI (o++[d]),(b':Int),((i+1:Nat):Int)))/\d<65536/\b'<=1/\d+bw+r.getD i 0=l[i] + 65536*b':=by
  intro t ht;rw[gd_t (by rw[Cj];omega),gd_t (by rw[Cj];omega),Az oo]
  by_cases h0:t<0
  ·refine⟨(t+65536).toNat,1,?_,oo,oo,oo⟩;rw[if_pos h0,Av oo oo];simp[nI,Int.toNat_of_nonneg (show 0<=t+65536 by omega)]
  ·refine⟨t.toNat,0,?_,oo,oo,oo⟩;rw[if_neg h0];simp[nI,Int.toNat_of_nonneg (show 0<=t by omega)]
 by_cases hm:i<r.length
 ·rw[if_pos (show (i:Int)<(r.length:Int) by omega),Du hm,Ae];have:=fin (w64 (w64 ((l[i]:Int)-(bw:Int))-(r[i]:Int))) (by rw[Xh hm] at *;rw[Av (x:=(l[i]:Int)-(bw:Int)) oo oo,Av oo oo]);simpa only[Cj] using this
 ·rw[if_neg (show ¬ (i:Int)<(r.length:Int) by omega)];have:=fin (w64 ((l[i]:Int)-(bw:Int))) (by rw[Sf hm,Av oo oo];omega);simpa only[Cj] using this
theorem Bc1(l r:List Nat)(hl:∀ x∈l,x<65536)(hr:∀ x∈r,x<65536)(h1:l.length<=1000000)(h2:r.length<=l.length)(hle:val 65536 r<=val 65536 l):
  Ec (nI l) (nI r)=some (L16 (val 65536 l-val 65536 r)):=by
 obtain⟨t,ht,out,rfl,hd⟩:=Be (B:=Fp (nI l) (nI r)) (fun s=>l.length-s.2.2.toNat)
  (fun s=>∃ (o:List Nat) (bw i:Nat),s=(nI o,(bw:Int),(i:Int))/\o.length=i/\bw<=1/\i<=l.length/\(∀ x∈o,x<65536)/\val 65536 o+val 65536 (r.take i)=val 65536 (l.take i)+bw*65536 ^ i)
  (fun t=>∃ out,t=nI out/\out.length<=1000000000/\nrm out=dig 65536 (val 65536 l-val 65536 r)) (by
   rintro s ⟨o,bw,i,rfl,hC1,hC2,hC3,hC4,hC5⟩
   by_cases hi:i<l.length
   ·left;obtain⟨d,b',hB,hd1,hb1,he⟩:=At7 l r o bw i hi hl hr hC2 h1 hC1;refine⟨_,hB,⟨_,_,_,rfl,by simp[hC1],hb1,oo,?_,?_⟩,by simp;omega⟩
    ·intro x hx;rcases mem_append.1 hx with hx | hx
     ·exact hC4 x hx
     ·simp at hx;omega
    ·rw[Xz,hC1,Uk,Uk];have e:val 65536 [d]=d:=by simp[val]
     rw[e];have e3:=congrArg (· * 65536 ^ i) he;simp only[Nat.add_mul] at e3;have e4:65536 ^ (i+1)=65536*65536 ^ i:=by rw[Nat.pow_succ,Nat.mul_comm]
     rw[e4];generalize 65536 ^ i=P at *;generalize l.getD i 0=a at *;generalize r.getD i 0=b at *;have e5:b' * (65536*P)=65536*b' * P:=by grind
     have e6:P*d=d*P:=Nat.mul_comm _ _;have e7:P*a=a*P:=Nat.mul_comm _ _;have e8:P*b=b*P:=Nat.mul_comm _ _;omega
   ·right;have hil:i=l.length:=oo;refine⟨nI o,?_,o,rfl,oo,?_⟩
    ·unfold Fp;simp only[Cj];rw[if_neg oo]
    ·rw[take_of_length_le oo,take_of_length_le oo] at hC5;rw[Xy (b:=65536) oo o hC4];have hlt:=Agm o hC4;rw[hC1] at hlt;have:bw=0\/bw=1:=oo;rcases this with rfl | rfl
     ·rw[show val 65536 o=val 65536 l-val 65536 r by omega]
     ·omega)
  (nI [],((0:Nat):Int),((0:Nat):Int)) ⟨[],0,0,rfl,rfl,oo,oo,s_,by simp[val]⟩
 unfold Ec;have ht':lfix (Fp (nI l) (nI r)) ([],0,0)=some (nI out):=ht;simp only[jn_d];rw[ht',Ae,Afa _ hd.1,Ae,hd.2];rfl
theorem Ah6{a:Nat}:(L16 a).length=0↔a=0:=by
 unfold L16;rw[Cj,length_eq_zero_iff,Xc oo]
theorem Agj{a:Nat}:∀ x∈dig 65536 a,x<65536:=Od oo a
theorem Awn{a b:Nat}(ha:(dig 65536 a).length<=1000000)(hb:(dig 65536 b).length<=1000000):Gz (L16 a) (L16 b)=some (L16 (a+b)):=by
 have:=Bc0 _ _ (Agj (a:=a)) (Agj (a:=b)) ha hb
 rwa [De oo,De oo] at this
theorem Sz{a b:Nat}(h:a<=b):(dig 65536 a).length<=(dig 65536 b).length:=by
 rcases Nat.lt_or_ge (dig 65536 b).length (dig 65536 a).length with h1 | h1
 ·have:=Aa4 (b:=65536) oo h1;omega
 ·exact h1
theorem Amu{a b:Nat}(ha:(dig 65536 a).length<=1000000)(h:b<=a):Ec (L16 a) (L16 b)=some (L16 (a-b)):=by
 have:=Bc1 _ _ (Agj (a:=a)) (Agj (a:=b)) ha (Sz h) (by rw[De oo,De oo];exact h)
 rwa [De oo,De oo] at this
theorem Acz{a b:Nat}(h:(dig 65536 a).length+(dig 65536 b).length<=1000000):Co (L16 a) (L16 b)=some (L16 (a*b)):=by
 have:=Azw _ _ (Agj (a:=a)) (Agj (a:=b)) h
 rwa [De oo,De oo] at this
theorem Adp{z:Int}:(Z16 z).L=L16 z.natAbs:=rfl
theorem Nu{z:Int}:(Z16 z).Neg=decide (z<0):=rfl
theorem Ai7{b:Bool}{l:List Int}{z:Int}(h1:b=decide (z<0))(h2:l=L16 z.natAbs):(some ⟨b,l⟩:Option Aj)=some (Z16 z):=by subst h1;subst h2;rfl
theorem Beu{x y:Int}(hx:(dig 65536 x.natAbs).length<=1000000)(hy:(dig 65536 y.natAbs).length<=1000000):Kw (Z16 x) (Z16 y)=some (Z16 (x+y)):=by
 unfold Kw;simp only[Adp]
 by_cases hs':x<0↔y<0
 ·rw[if_pos (by rw[Nu,Nu];by_cases h:x<0 <;> simp[h] <;> omega),Awn hx hy,Ae];refine Ai7 ?_ ?_
  ·rw[Nu];by_cases h:x<0 <;> simp[h] <;> omega
  ·congr 1;omega
 ·rw[if_neg (by rw[Nu,Nu];by_cases h:x<0 <;> simp[h] <;> omega),Awm _ _ hx,Ae]
  by_cases h1:x.natAbs<y.natAbs
  ·rw[show cmpN x.natAbs y.natAbs = -1 from if_pos h1,if_neg dD,if_neg dD,Amu hy oo,Ae];refine Ai7 ?_ ?_
   ·rw[Nu];by_cases h:y<0 <;> simp[h] <;> omega
   ·congr 1;omega
  ·by_cases h2:x.natAbs=y.natAbs
   ·rw[show cmpN x.natAbs y.natAbs=0 from (if_neg h1).trans (if_pos h2),if_pos rfl];have:x+y=0:=oo;rw[this];rfl
   ·rw[show cmpN x.natAbs y.natAbs=1 from (if_neg h1).trans (if_neg h2),if_neg dD,if_pos dD,Amu hx oo,Ae];refine Ai7 ?_ ?_
    ·rw[Nu];by_cases h:x<0 <;> simp[h] <;> omega
    ·congr 1;omega
theorem Awo{z y:Int}:(!(decide (z<0) == decide (y<0)) && !decide (z.natAbs*y.natAbs=0))=decide (z*y<0):=by
 by_cases hz0:z=0
 ·subst hz0;simp
 by_cases hy0:y=0
 ·subst hy0;simp
 have h1:z.natAbs*y.natAbs≠0:=Nat.mul_ne_zero oo oo;rw[decide_eq_false h1];rcases Int.lt_or_le z 0 with hz | hz
 ·rcases Int.lt_or_le y 0 with hy | hy
  ·have:=Int.mul_pos_of_neg_of_neg hz hy;rw[decide_eq_true hz,decide_eq_true hy,decide_eq_false (show ¬ z*y<0 by omega)];rfl
  ·have:=Int.mul_neg_of_neg_of_pos hz (show 0<y by omega);rw[decide_eq_true hz,decide_eq_false (show ¬ y<0 by omega),decide_eq_true this];rfl
 ·rcases Int.lt_or_le y 0 with hy | hy
  ·have:=Int.mul_neg_of_pos_of_neg (show 0<z by omega) hy;rw[decide_eq_true hy,decide_eq_false (show ¬ z<0 by omega),decide_eq_true this];rfl
  ·have:=Int.mul_pos (show 0<z by omega) (show 0<y by omega);rw[decide_eq_false (show ¬ z<0 by omega),decide_eq_false (show ¬ y<0 by omega),decide_eq_false (show ¬ z*y<0 by omega)];rfl
set_option maxRecDepth 100000 in
theorem Aoe{x y:Int}(h:(dig 65536 x.natAbs).length+(dig 65536 y.natAbs).length<=1000000):Dd (Z16 x) (Z16 y)=some (Z16 (x*y)):=by
 unfold Dd;simp only[Adp,jn_d];rw[Acz h,Ae];have hsg:=Awo (z:=x) (y:=y);have e2:=Ah6 (a:=x.natAbs*y.natAbs)
 by_cases hs':x<0↔y<0
 ·rw[if_pos (by rw[Nu,Nu];by_cases h:x<0 <;> simp[h] <;> omega)];refine Ai7 ?_ (by rw[Int.natAbs_mul]);rw[<- hsg];have e:(decide (x<0) == decide (y<0))=true:=by by_cases h:x<0 <;> simp[h] <;> omega
  rw[e];rfl
 ·rw[if_neg (by rw[Nu,Nu];by_cases h:x<0 <;> simp[h] <;> omega)];refine Ai7 ?_ (by rw[Int.natAbs_mul]);rw[<- hsg];have e:(decide (x<0) == decide (y<0))=false:=by by_cases h:x<0 <;> simp[h] <;> omega
  rw[e]
  by_cases h0:x.natAbs*y.natAbs=0
  ·have:=e2.2 h0;rw[decide_eq_true h0,decide_eq_false oo];rfl
  ·have:(L16 (x.natAbs*y.natAbs)).length≠0:=fun e=>h0 (e2.1 e)
   rw[decide_eq_false h0,decide_eq_true oo];rfl
theorem Awp(a b:Nat):Int.tdiv (a:Int) (b:Int)=((a / b:Nat):Int):=(Int.ofNat_tdiv a b).symm
theorem Bev(a b:Nat):Int.tmod (a:Int) (b:Int)=((a % b:Nat):Int):=(Int.ofNat_tmod a b).symm
theorem Uc{b:Nat}(l:List Nat)(k:Nat)(h:k<l.length):val b (l.drop k)=l[k] + b*val b (l.drop (k+1)):=by
 rw[drop_eq_getElem_cons h];rfl
theorem Aof{B x H V:Nat}(hV:0<V):(x+B*H) / V=(H % V*B+x) / V+B*(H / V)/\(x+B*H) % V=(H % V*B+x) % V:=by
 have e:x+B*H=(H % V*B+x)+V*(B*(H / V)):=by
  have:=Nat.div_add_mod H V
  calc x+B*H=x+B*(V*(H / V)+H % V):=by rw[this]
   _=_:=by rw[Nat.mul_add,<- Nat.mul_assoc,Nat.mul_comm B V,Nat.mul_assoc,Nat.mul_comm B (H % V)];omega
 rw[e];exact⟨by rw[Nat.add_mul_div_left _ _ hV],by rw[Nat.add_mul_mod_self_left]⟩
theorem Amv{B x r V:Nat}(hx:x<B)(hr:r<V):r*B+x<V*B:=by
 have:(r+1)*B<=V*B:=Nat.mul_le_mul_right _ hr;rw[Nat.succ_mul] at this;omega
theorem Asj{r x:Nat}(hr:r<65536)(hx:x<65536):w64 (w64 ((r:Int)*65536)+(x:Int))=((r*65536+x:Nat):Int):=by
 rw[show ((r:Nat):Int)*65536=((r*65536:Nat):Int) by omega,Ri oo,<- Int.natCast_add,Ri oo]
theorem Asl(l:List Nat)(d:Nat)(hl:∀ x∈l,x<65536)(hd:0<d)(hd2:d<=65536)(h1:l.length<=1000000):
  Em (nI l) (d:Int)=some (L16 (val 65536 l / d),((val 65536 l % d:Nat):Int)):=by
 obtain⟨t,ht,o,rfl,ho1,ho3,ho2⟩:=Be (B:=Nz (nI l) (d:Int)) (fun s=>(s.2.2+1).toNat)
  (fun s=>∃ (o:List Nat) (k:Nat),s=(nI o,((val 65536 (l.drop k) % d:Nat):Int),(k:Int)-1)/\o.length=l.length/\k<=l.length/\(∀ x∈o,x<65536)/\val 65536 (o.drop k)=val 65536 (l.drop k) / d)
  (fun t=>∃ o:List Nat,t=(nI o,((val 65536 l % d:Nat):Int))/\(∀ x∈o,x<65536)/\o.length<=1000000/\val 65536 o=val 65536 l / d) (by
   rintro s ⟨o,k,rfl,hC1,hC2,hC3,hC4⟩;unfold Nz
   by_cases hk:k=0
   ·right;subst hk;exact⟨_,by simp only[];rw[if_neg oo],o,by rw[drop_zero],hC3,oo,by simpa using hC4⟩
   ·left;have h1':k-1<l.length:=oo;have h2':k-1<o.length:=oo;have hx:=hl _ (getElem_mem h1');have hr:val 65536 (l.drop k) % d<d:=Nat.mod_lt _ hd;have e:val 65536 (l.drop (k-1))=l[k-1] + 65536*val 65536 (l.drop k):=by rw[Uc l (k-1) h1',show k-1+1=k by omega]
    obtain⟨e1,e2⟩:=Aof (B:=65536) (x:=l[k-1]) (H:=val 65536 (l.drop k)) hd;have hlt:=Amv hx hr;have hq:(val 65536 (l.drop k) % d*65536+l[k-1]) / d<65536:=Nat.div_lt_of_lt_mul oo;refine⟨(nI (o.set (k-1) ((val 65536 (l.drop k) % d*65536+l[k-1]) / d)),((val 65536 (l.drop (k-1)) % d:Nat):Int),((k-1:Nat):Int)-1),?_,⟨_,k-1,rfl,by simp[hC1],oo,?_,?_⟩,by simp;omega⟩
    ·simp only[];rw[if_pos oo,show ((k:Int)-1)=((k-1:Nat):Int) from by omega,Du h1',Ae,gd_t oo,Du h2',Ae,gd_t oo];have e3:=Asj (r:=val 65536 (l.drop k) % d) (x:=l[k-1]) (Nat.lt_of_lt_of_le hr hd2) hx;have e4:w64 (((k-1:Nat):Int)-1)=((k-1:Nat):Int)-1:=by
      clear e e1 e2 e3 hlt hq hr hx hC4 hC3;exact Av oo oo
     rw[e3,Awp,Bev,Ri (Nat.le_trans (Nat.le_of_lt hq) dD),Xg,e,e2,e4]
    ·intro x hx';rcases mem_or_eq_of_mem_set hx' with h | rfl
     ·exact hC3 x h
     ·exact hq
    ·rw[Uc _ _ (by simpa using h2'),getElem_set_self,show k-1+1=k by omega,drop_set_of_lt oo,hC4,e,e1])
  (nI (List.replicate l.length 0),0,(l.length:Int)-1) ⟨List.replicate l.length 0,l.length,by simp[val],s_,Nat.le_refl _,s_,by simp[val]⟩
 unfold Em;simp only[jn_d,Cj,Int.toNat_natCast,Aai];rw[gd_t ⟨oo,oo⟩,Av oo oo,ht,Ae];simp only[];rw[Afa _ oo,Ae,Xy oo o ho1,ho2];rfl
theorem Ai8:∀ {m:Nat},m≠0->65536 ^ ((dig 65536 m).length-1)<=m:=by
 intro m
 induction m using Nat.strongRecOn with
 | _ m ih=>
  intro h0;rw[Sg oo h0,length_cons,Nat.add_sub_cancel]
  by_cases h1:m / 65536=0
  ·rw[h1,Rn];simp;omega
  ·have h2:=ih (m / 65536) oo h1;have h3:(dig 65536 (m / 65536)).length≠0:=fun e=>h1 ((Xc oo).1 (length_eq_zero_iff.1 e))
   obtain⟨q,hq⟩:=Nat.exists_eq_succ_of_ne_zero h3;rw[hq] at h2 ⊢;rw[Nat.succ_sub_one] at h2;rw[Nat.succ_eq_add_one,Nat.pow_succ];generalize 65536 ^ q=z at *;omega
theorem Aea(m:Nat):m<65536 ^ (dig 65536 m).length:=by
 have:=Agm (b:=65536) (dig 65536 m) (Od oo m)
 rwa [De oo] at this
theorem Adq(l:List Nat)(k:Nat)(hk:k<=l.length):val 65536 l=val 65536 (l.take k)+65536 ^ k*val 65536 (l.drop k):=by
 have:=Xz (b:=65536) (l.take k) (l.drop k)
 rwa [take_append_drop,length_take,Nat.min_eq_left hk] at this
theorem Awq{l:List Nat}(hl:∀ x∈l,x<65536)(k:Nat)(hk:k<=l.length):val 65536 (l.drop k)=val 65536 l / 65536 ^ k:=by
 have h1:=Adq l k hk;have h2:=Agm (b:=65536) (l.take k) (fun x hx=>hl x (mem_of_mem_take hx));rw[length_take,Nat.min_eq_left hk] at h2;rw[h1,Nat.add_mul_div_left _ _ (Nat.pow_pos oo),Nat.div_eq_of_lt h2,Nat.zero_add]
theorem Xu{m k:Nat}(hk:k<=(dig 65536 m).length):val 65536 ((dig 65536 m).drop k)=m / 65536 ^ k:=by
 rw[Awq (Od oo m) k hk,De oo]
theorem Amw{m:Nat}(h0:m≠0):∃ h:(dig 65536 m).length-1<(dig 65536 m).length,(dig 65536 m)[(dig 65536 m).length-1]=m / 65536 ^ ((dig 65536 m).length-1)/\0<m / 65536 ^ ((dig 65536 m).length-1):=by
 have h3:(dig 65536 m).length≠0:=fun e=>h0 ((Xc oo).1 (length_eq_zero_iff.1 e))
 have h1:=Xu (m:=m) (k:=(dig 65536 m).length-1) oo;refine⟨oo,?_,Nat.div_pos (Ai8 h0) (Nat.pow_pos oo)⟩;rw[<- h1,Uc _ _ oo,drop_eq_nil_of_le oo];simp[val]
theorem Agk{d:Nat}(h0:0<d)(h:d<65536):L16 d=[(d:Int)]:=by
 unfold L16;rw[Sg oo oo,Nat.mod_eq_of_lt h,Nat.div_eq_of_lt h,Rn];rfl
theorem Awr{R V B vt m1:Nat}(hvt:0<vt)(hV:vt*B ^ m1<=V)(hB:0<B):R / V<=R / B ^ m1 / vt:=by
 rw[Nat.div_div_eq_div_mul];have hp:0<B ^ m1:=Nat.pow_pos hB;exact Nat.div_le_div_left (by rw[Nat.mul_comm];exact hV) (Nat.mul_pos hp hvt)
theorem Yr{a:Nat}:(L16 a).length=(dig 65536 a).length:=Cj
theorem Amx{l:List Nat}(hl:∀ x∈l,x<65536)(h:l.length<=1000000000):Bp (nI l)=some (L16 (val 65536 l)):=by
 rw[Afa l h,Xy oo l hl];rfl
theorem Aog{R V:Nat}:R-V*(R / V)=R % V:=by have:=Nat.div_add_mod R V;omega
theorem Bc2{g:Nat}(h:0<g)(h9:g<=65535):w64 ((g:Int)-1)=((g-1:Nat):Int):=by rw[Av oo oo];omega
theorem Azx{g:Nat}(h:0<g):((g-1:Nat):Int).toNat<(g:Int).toNat:=oo
theorem At8{R V g:Nat}(hg9:g<=65535)(hV:0<V)(hg:R / V<=g)(hl:(dig 65536 (V*g)).length<=1000000):
  lfix (Hl (L16 R) (L16 V)) ((g:Int),L16 (V*g))=some (((R / V:Nat):Int),L16 (V*(R / V))):=by
 obtain⟨t,ht,rfl⟩:=Be (B:=Hl (L16 R) (L16 V)) (fun s=>s.1.toNat)
  (fun s=>∃ g':Nat,s=((g':Int),L16 (V*g'))/\R / V<=g'/\g'<=g)
  (fun t=>t=(((R / V:Nat):Int),L16 (V*(R / V)))) (by
   rintro s ⟨g',rfl,h1,h2⟩;have hlen:(dig 65536 (V*g')).length<=1000000:=Nat.le_trans (Sz (Nat.mul_le_mul_left V h2)) hl;unfold Hl;simp only[];rw[Awm _ _ hlen,Ae]
   by_cases hc:R<V*g'
   ·left;have hlt:R / V<g':=Nat.div_lt_of_lt_mul hc;have he:V*g'-V=V*(g'-1):=by rw[Nat.mul_sub,Nat.mul_one]
    have hpos:0<g':=Nat.lt_of_le_of_lt (Nat.zero_le _) hlt;have hge:V<=V*g':=Nat.le_mul_of_pos_right V hpos;refine⟨(((g'-1:Nat):Int),L16 (V*(g'-1))),?_,⟨g'-1,rfl,Nat.le_sub_one_of_lt hlt,Nat.le_trans (Nat.sub_le _ _) h2⟩,Azx hpos⟩;rw[if_pos (by unfold cmpN;rw[if_neg oo,if_neg oo];decide),Amu hlen hge,Ae,he];rw[Bc2 hpos (Nat.le_trans h2 hg9)]
   ·right;have hle:g'<=R / V:=(Nat.le_div_iff_mul_le hV).2 (by rw[Nat.mul_comm];omega);obtain rfl:g'=R / V:=Nat.le_antisymm hle h1;exact⟨_,by rw[if_neg (by unfold cmpN;split <;> (try split) <;> omega)],rfl⟩)
  ((g:Int),L16 (V*g)) ⟨g,rfl,hg,Nat.le_refl _⟩
 exact ht
theorem At9{R V:Nat}(hV:V≠0)(hR:R<V*65536)(h9:(dig 65536 V).length<=100000):∃ g:Nat,R / V<=g/\g<=65535/\∀ {ρ:Type} (K:Int->Option ρ),
  (if ((((L16 V).length:Nat):Int))<=((((L16 R).length:Nat):Int)) then (bnd (idx (L16 R) (w64 (((((L16 R).length:Nat):Int))-1))) fun x259=>
   jn (fun (s44:Int)=>
   bnd (idx (L16 V) (w64 (((((L16 V).length:Nat):Int))-1))) fun x286=>
   gd (x286≠0)<|
   if 65536<=(w64 (Int.tdiv s44 x286)) then (K 65535)
   else (K (w64 (Int.tdiv s44 x286))))
   (fun j44=>if ((((L16 V).length:Nat):Int))<((((L16 R).length:Nat):Int)) then (bnd (idx (L16 R) (w64 (((((L16 R).length:Nat):Int))-2))) fun x272=>
   j44 (w64 ((w64 (x259*65536))+x272)))
   else (j44 x259)))
   else (K 0))=K (g:Int):=by
 simp only[Yr,jn_d];have hq:R / V<=65535:=by
  have:=Nat.div_lt_of_lt_mul hR;omega
 by_cases h:(dig 65536 V).length<=(dig 65536 R).length
 ·obtain⟨hi,ht1,ht2⟩:=Amw hV;have hR0:R≠0:=fun e=>by rw[e,Rn] at h;simp at h;exact hV ((Xc oo).1 h)
  have hlenR:(dig 65536 R).length<=(dig 65536 V).length+1:=Fo (by
   rw[Nat.pow_succ];exact Nat.lt_trans hR (Nat.mul_lt_mul_of_pos_right (Aea V) oo))
  generalize hm:(dig 65536 V).length-1=m1 at *;have hvt:=Od (b:=65536) oo V _ (getElem_mem hi);have hVlo:V / 65536 ^ m1*65536 ^ m1<=V:=Nat.div_mul_le_self _ _;have hg:=Awr (R:=R) (B:=65536) ht2 hVlo oo;rw[ht1] at hvt;have key:∀ s44:Nat,s44=R / 65536 ^ m1->s44<4294967296->∀ {ρ:Type} (K:Int->Option ρ),(bnd (idx (L16 V) (w64 ((((dig 65536 V).length:Nat):Int)-1))) fun x286=>
    gd (x286≠0) <| if 65536<=(w64 (Int.tdiv (s44:Int) x286)) then (K 65535) else (K (w64 (Int.tdiv (s44:Int) x286))))=K ((min (R / 65536 ^ m1 / (V / 65536 ^ m1)) 65535:Nat):Int):=by
   intro s44 hs hs2 ρ K;have e:w64 ((((dig 65536 V).length:Nat):Int)-1)=((m1:Nat):Int):=by rw[Av oo oo];omega
   rw[e,show idx (L16 V) ((m1:Nat):Int)=some ((V / 65536 ^ m1:Nat):Int) from by rw[<- ht1];exact Du hi,Ae,gd_t oo,Awp,<- hs];have h4:s44 / (V / 65536 ^ m1)<=s44:=Nat.div_le_self _ _;generalize s44 / (V / 65536 ^ m1)=z at *;rw[Ri oo]
   by_cases hz:65536<=z
   ·rw[if_pos oo,show min z 65535=65535 by omega];rfl
   ·rw[if_neg oo,show min z 65535=z by omega]
  refine⟨min (R / 65536 ^ m1 / (V / 65536 ^ m1)) 65535,oo,oo,fun K=>?_⟩;obtain⟨hj,hr1,hr2⟩:=Amw hR0;have hrt:=Od (b:=65536) oo R _ (getElem_mem hj);rw[if_pos oo,show w64 ((((dig 65536 R).length:Nat):Int)-1)=(((dig 65536 R).length-1:Nat):Int) from by rw[Av oo oo];omega,
   show idx (L16 R) (((dig 65536 R).length-1:Nat):Int)=some (((dig 65536 R)[(dig 65536 R).length-1]:Nat):Int) from Du hj,Ae]
  by_cases h2:(dig 65536 V).length<(dig 65536 R).length
  ·have hl2:(dig 65536 R).length-2<(dig 65536 R).length:=oo;have hrt2:=Od (b:=65536) oo R _ (getElem_mem hl2);rw[if_pos oo,show w64 ((((dig 65536 R).length:Nat):Int)-2)=(((dig 65536 R).length-2:Nat):Int) from by rw[Av oo oo];omega,
    show idx (L16 R) (((dig 65536 R).length-2:Nat):Int)=some (((dig 65536 R)[(dig 65536 R).length-2]:Nat):Int) from Du hl2,Ae,Asj hrt hrt2]
   refine key _ ?_ oo K;have hd:=Xu (m:=R) (k:=m1) oo;have e1:m1=(dig 65536 R).length-2:=oo;rw[<- hd,Uc _ _ (by omega:m1<_)];have hd2:=Xu (m:=R) (k:=m1+1) oo;rw[hd2,hr1];rw[show (dig 65536 R).length-1=m1+1 by omega];simp only[<- e1];omega
  ·rw[if_neg oo];refine key _ ?_ oo K;rw[hr1,show (dig 65536 R).length-1=m1 by omega]
 ·refine⟨0,?_,oo,fun K=>by rw[if_neg oo];rfl⟩;have:R<V:=by
   rcases Nat.lt_or_ge R V with h' | h'
   ·exact h'
   ·exact absurd (Sz h') h
  rw[Nat.div_eq_of_lt this];exact Nat.le_refl _
theorem Aqg{a f k:Nat}(ha:a<65536 ^ k)(hf:f<=65536):a*f<65536 ^ (k+1):=by
 rw[Nat.pow_succ];exact Nat.lt_of_le_of_lt (Nat.mul_le_mul_left a hf) (Nat.mul_lt_mul_of_pos_right ha oo)
theorem Aeb{a f:Nat}(hf:f<=65536):(dig 65536 (a*f)).length<=(dig 65536 a).length+1:=Fo (Aqg (Aea a) hf)
theorem Bew{τ ρ:Type}{K:τ->Option ρ}{X:(τ->Option ρ)->Option ρ}{v:τ}(h:∀ j,X j=j v):jn K X=K v:=h K
theorem Adr{g:Nat}(h:g<65536):(dig 65536 g).length<=1:=Fo oo
theorem Aws{g:Nat}(h:g<65536):Bp [(g:Int)]=some (L16 g):=by
 have:=Amx (l:=[g]) (fun x hx=>by rw[mem_singleton.1 hx];exact h) s_;simpa[nI,val] using this
theorem Awt{U V k:Nat}{q:List Nat}(hV:V≠0)(h9:(dig 65536 V).length<=100000)(hk:0<k)(hkq:k<=q.length)(hq9:q.length<=200000)(hU:k-1<(dig 65536 U).length):
  Do (L16 U) (L16 V) (nI q,L16 (U / 65536 ^ k % V),(k:Int)-1)=some (.inl (nI (q.set (k-1) ((U / 65536 ^ k % V*65536+(dig 65536 U)[k-1]) / V)),L16 ((U / 65536 ^ k % V*65536+(dig 65536 U)[k-1]) % V),((k-1:Nat):Int)-1)):=by
 have hu:=Od (b:=65536) oo U _ (getElem_mem hU);have hr:U / 65536 ^ k % V<V:=Nat.mod_lt _ (Nat.pos_of_ne_zero hV);have hR:=Amv hu hr;have hlr:(dig 65536 (U / 65536 ^ k % V)).length<=100000:=Nat.le_trans (Sz (Nat.le_of_lt hr)) h9;generalize hu':(dig 65536 U)[k-1]=u at *;generalize hr':U / 65536 ^ k % V=r0 at *;have hlR:(dig 65536 (r0*65536+u)).length<=100001:=by
  have h1:=Sz (Nat.le_of_lt hR);have h2:=Aeb (a:=V) (f:=65536) (Nat.le_refl _);exact Nat.le_trans h1 (Nat.le_trans h2 (Nat.succ_le_succ h9))
 obtain⟨g,hg1,hg2,hg3⟩:=At9 (R:=r0*65536+u) hV hR h9;unfold Do;simp only[];rw[if_pos oo,show ((k:Int)-1)=((k-1:Nat):Int) from by omega,show idx (L16 U) ((k-1:Nat):Int)=some ((u:Nat):Int) from by rw[<- hu'];exact Du hU,Ae,
  gd_t (by rw[Yr];simp only[length_singleton];omega)]
 have et:Bp ([((u:Nat):Int)]++L16 r0)=some (L16 (r0*65536+u)):=by
  have:=Amx (l:=u::dig 65536 r0) (fun x hx=>by
   rcases mem_cons.1 hx with rfl | hx
   ·exact hu
   ·exact Od oo r0 x hx) (by simp only[length_cons];omega)
  rw[show val 65536 (u::dig 65536 r0)=r0*65536+u from by show u+65536*val 65536 (dig 65536 r0)=_;rw[De oo];omega] at this;exact this
 rw[et,Ae,Bew (fun j=>hg3 j)];have hVg:(dig 65536 (V*g)).length<=100002:=by
  have h2:=Aeb (a:=V) (f:=g) oo;exact Nat.le_trans h2 (Nat.le_trans (Nat.succ_le_succ h9) dD)
 rw[Aws oo,Ae,Acz (by have:=Adr (g:=g) oo;omega),Ae,jn_d,At8 hg2 (Nat.pos_of_ne_zero hV) hg1 oo,Ae];simp only[];rw[Amu oo (by rw[Nat.mul_comm];exact Nat.div_mul_le_self _ _),Ae,show idx (nI q) ((k-1:Nat):Int)=some ((q[k-1]:Nat):Int) from Du oo,Ae,Xg,Aog,
  show w64 (((k-1:Nat):Int)-1)=((k-1:Nat):Int)-1 from Av oo oo]
theorem Awu{U k:Nat}(hk:0<k)(hU:k-1<(dig 65536 U).length):U / 65536 ^ (k-1)=(dig 65536 U)[k-1] + 65536*(U / 65536 ^ k):=by
 have h1:=Xu (m:=U) (k:=k-1) oo;have h2:=Xu (m:=U) (k:=k) oo;rw[Uc _ _ hU,show k-1+1=k by omega,h2] at h1;exact h1.symm
theorem Awv{U V nq:Nat}(hV:V≠0)(h9:(dig 65536 V).length<=100000)(hq9:nq<=200000)(hU:nq<=(dig 65536 U).length)(h0:U / 65536 ^ nq<V):
  ∃ q,lfix (Do (L16 U) (L16 V)) (nI (List.replicate nq 0),L16 (U / 65536 ^ nq),(nq:Int)-1)=some (nI q,L16 (U % V))/\(∀ x∈q,x<65536)/\q.length<=200000/\val 65536 q=U / V:=by
 obtain⟨t,ht,q,rfl,h1,h2,h3⟩:=Be (B:=Do (L16 U) (L16 V)) (fun s=>(s.2.2+1).toNat)
  (fun s=>∃ (q:List Nat) (k:Nat),s=(nI q,L16 (U / 65536 ^ k % V),(k:Int)-1)/\q.length=nq/\k<=nq/\(∀ x∈q,x<65536)/\val 65536 (q.drop k)=U / 65536 ^ k / V)
  (fun t=>∃ q,t=(nI q,L16 (U % V))/\(∀ x∈q,x<65536)/\q.length<=200000/\val 65536 q=U / V) (by
   rintro s ⟨q,k,rfl,hC1,hC2,hC3,hC4⟩
   by_cases hk:k=0
   ·right;subst hk;refine⟨(nI q,L16 (U % V)),?_,q,rfl,hC3,oo,by simpa using hC4⟩;unfold Do;simp only[];rw[if_neg oo,Nat.pow_zero,Nat.div_one]
   ·left;have hk':0<k:=Nat.pos_of_ne_zero hk;have hUk:k-1<(dig 65536 U).length:=oo;obtain⟨e1,e2⟩:=Aof (B:=65536) (x:=(dig 65536 U)[k-1]) (H:=U / 65536 ^ k) (Nat.pos_of_ne_zero hV);rw[<- Awu hk' hUk] at e1 e2;have hlt:(U / 65536 ^ k % V*65536+(dig 65536 U)[k-1]) / V<65536:=Nat.div_lt_of_lt_mul (Amv (Od oo U _ (getElem_mem hUk)) (Nat.mod_lt _ (Nat.pos_of_ne_zero hV)));refine⟨_,Awt hV h9 hk' oo oo hUk,⟨_,k-1,by rw[e2],by simp[hC1],oo,fun x hx=>?_,?_⟩,by simp;omega⟩
    ·rcases mem_or_eq_of_mem_set hx with h | rfl
     ·exact hC3 x h
     ·exact hlt
    ·rw[Uc _ _ (by simp;omega),getElem_set_self,show k-1+1=k by omega,drop_set_of_lt oo,hC4,e1])
  (nI (List.replicate nq 0),L16 (U / 65536 ^ nq),(nq:Int)-1) ⟨List.replicate nq 0,nq,by rw[Nat.mod_eq_of_lt h0],s_,Nat.le_refl _,s_,by rw[Nat.div_eq_of_lt h0];simp[val]⟩
 exact⟨q,ht,h1,h2,h3⟩
theorem Afb{a b:Nat}(hb:b≠0)(ha9:(dig 65536 a).length<=90000)(hb9:(dig 65536 b).length<=90000):Ez (L16 a) (L16 b)=some (L16 (a / b),L16 (a % b)):=by
 unfold Ez;rw[Awm _ _ oo,Ae]
 by_cases hlt:a<b
 ·rw[if_pos (by unfold cmpN;rw[if_pos hlt];decide),Nat.div_eq_of_lt hlt,Nat.mod_eq_of_lt hlt];rfl
 rw[if_neg (by unfold cmpN;rw[if_neg hlt];split <;> omega),Yr];obtain⟨hi,ht1,ht2⟩:=Amw hb
 by_cases h1:(dig 65536 b).length=1
 ·rw[if_pos oo];have hb1:b<65536:=by have:=Aea b;rw[h1] at this;simpa using this
  rw[Agk oo hb1,show idx [(b:Int)] 0=some (b:Int) from rfl,Ae];have:=Asl (dig 65536 a) b (Od oo a) oo oo oo;rw[De oo] at this;have hm:a % b<b:=Nat.mod_lt _ oo;rw[show Em (L16 a) (b:Int)=_ from this,Ae];simp only[];rw[Aod oo oo,Ae];rfl
 ·have hpos:(dig 65536 b).length≠0:=fun e=>hb ((Xc oo).1 (length_eq_zero_iff.1 e))
  rw[if_neg oo];have htop:=Od (b:=65536) oo b _ (getElem_mem hi);rw[ht1] at htop;have htl:=Nat.div_mul_le_self b (65536 ^ ((dig 65536 b).length-1));have hbt:b<(b / 65536 ^ ((dig 65536 b).length-1)+1)*65536 ^ ((dig 65536 b).length-1):=by
   have:=Nat.lt_div_mul_add (a:=b) (b:=65536 ^ ((dig 65536 b).length-1)) (Nat.pow_pos oo);rw[Nat.add_mul,Nat.one_mul];exact this
  rw[show w64 ((((dig 65536 b).length:Nat):Int)-1)=(((dig 65536 b).length-1:Nat):Int) from by rw[Av oo oo];omega,
   show idx (L16 b) (((dig 65536 b).length-1:Nat):Int)=some ((b / 65536 ^ ((dig 65536 b).length-1):Nat):Int) from by rw[<- ht1];exact Du hi,Ae]
  generalize hm1:(dig 65536 b).length-1=m1 at *;generalize htp:b / 65536 ^ m1=tp at *;have ew:w64 ((tp:Int)+1)=((tp+1:Nat):Int):=Az oo;rw[ew,gd_t oo,show Int.tdiv 65536 ((tp+1:Nat):Int)=((65536 / (tp+1):Nat):Int) from Awp 65536 (tp+1)];have hf1:0<65536 / (tp+1):=Nat.div_pos oo oo;have hf2:65536 / (tp+1)<=32768:=by
   have:=Nat.div_le_div_left (c:=2) (a:=65536) (show 2<=tp+1 by omega) oo;omega
  have hf3:65536 / (tp+1)*(tp+1)<=65536:=Nat.div_mul_le_self _ _;generalize hf:65536 / (tp+1)=f at *;rw[Ri oo,<- Agk hf1 oo];have hlf:=Adr (g:=f) oo;rw[Acz oo,Ae,Acz oo,Ae];have hUV:b*f<=a*f:=Nat.mul_le_mul_right f oo;have hVf:b*f≠0:=Nat.mul_ne_zero hb oo;have hlU:(dig 65536 (a*f)).length<=90001:=by
   have h2:=Aeb (a:=a) (f:=f) oo;exact Nat.le_trans h2 (Nat.succ_le_succ ha9)
  have hlVU:=Sz hUV;have hlV0:(dig 65536 (b*f)).length≠0:=fun e=>hVf ((Xc oo).1 (length_eq_zero_iff.1 e))
  have hlo:=Ai8 hVf;generalize hV:b*f=V at *;generalize hU:a*f=U at *;simp only[Yr];have e2:w64 (w64 ((((dig 65536 U).length:Nat):Int)-(((dig 65536 V).length:Nat):Int))+1)=(((dig 65536 U).length-(dig 65536 V).length+1:Nat):Int):=by
   rw[Av (x:=(((dig 65536 U).length:Nat):Int)-(((dig 65536 V).length:Nat):Int)) oo oo,Av oo oo];omega
  have e3:w64 ((((dig 65536 U).length:Nat):Int)-(((dig 65536 V).length:Nat):Int))=(((dig 65536 U).length-(dig 65536 V).length+1:Nat):Int)-1:=by
   rw[Av oo oo];omega
  generalize hnq:(dig 65536 U).length-(dig 65536 V).length+1=nq at *;have hsub:subl (L16 U) ((nq:Nat):Int) (((dig 65536 U).length:Nat):Int)=nI ((dig 65536 U).drop nq):=by
   unfold subl;rw[Int.toNat_natCast,Int.toNat_natCast,take_of_length_le (by rw[Yr];exact Nat.le_refl _)];simp[L16,nI]
  have hdr:val 65536 ((dig 65536 U).drop nq)=U / 65536 ^ nq:=Xu oo;have h0:U / 65536 ^ nq<V:=by
   have h5:=Agm (b:=65536) ((dig 65536 U).drop nq) (fun x hx=>Od oo U x (mem_of_mem_drop hx));rw[hdr,length_drop,show (dig 65536 U).length-nq=(dig 65536 V).length-1 by omega] at h5;exact Nat.lt_of_lt_of_le h5 hlo
  rw[e2,e3,gd_t ⟨oo,oo⟩,gd_t ⟨oo,oo⟩,hsub,gd_t (by rw[Cj,length_drop];simp only[length_nil];omega),nil_append,Amx (fun x hx=>Od oo U x (mem_of_mem_drop hx)) (by rw[length_drop];omega),Ae,hdr];obtain⟨q,hq1,hq2,hq3,hq4⟩:=Awv hVf oo oo (show nq<=(dig 65536 U).length by omega) h0;rw[jn_d,Int.toNat_natCast,Aai,hq1,Ae];simp only[];rw[Agk hf1 oo,show idx [(f:Int)] 0=some (f:Int) from rfl,Ae];have hs:=Asl (dig 65536 (U % V)) f (Od oo _) hf1 oo (Nat.le_trans (Sz (Nat.mod_le U V)) oo);rw[De oo] at hs;rw[show Em (L16 (U % V)) (f:Int)=_ from hs,Ae,Amx hq2 oo,Ae,hq4];have ed:U / V=a / b:=by rw[<- hU,<- hV];exact Nat.mul_div_mul_right _ _ hf1
  have em:U % V / f=a % b:=by rw[<- hU,<- hV,Nat.mul_mod_mul_right,Nat.mul_div_cancel _ hf1]
  rw[ed,em]
theorem Bex{a b:Nat}(ha:(dig 65536 a).length<=90000)(hb:(dig 65536 b).length<=90000):Se (L16 a) (L16 b)=some (L16 (Nat.gcd a b)):=by
 unfold Se;simp only[jn_d];obtain⟨t,ht,rfl⟩:=Be (B:=Rg) (fun s=>s.2.length*65536+(val 65536 (s.2.map Int.toNat)))
  (fun s=>∃ x y:Nat,s=(L16 x,L16 y)/\Nat.gcd x y=Nat.gcd a b/\(dig 65536 x).length<=90000/\(dig 65536 y).length<=90000)
  (fun t=>t=L16 (Nat.gcd a b)) (by
   rintro s ⟨x,y,rfl,hg,hx,hy⟩;unfold Rg;simp only[Yr];have hval:∀ m,val 65536 ((L16 m).map Int.toNat)=m:=fun m=>by
    unfold L16 nI;rw[map_map,show (Int.toNat ∘ fun x:Nat=>(x:Int))=id from funext fun x=>s_,map_id,De oo]
   by_cases h0:y=0
   ·right;subst h0;refine⟨_,by rw[if_neg (by rw[Rn];simp)],?_⟩;rw[Nat.gcd_zero_right] at hg;rw[hg]
   ·left;have hy0:(dig 65536 y).length≠0:=fun e=>h0 ((Xc oo).1 (length_eq_zero_iff.1 e))
    have hm:x % y<y:=Nat.mod_lt _ (Nat.pos_of_ne_zero h0);have hml:=Sz (Nat.le_of_lt hm);refine⟨(L16 y,L16 (x % y)),by rw[if_pos oo,Afb h0 hx hy,Ae],⟨y,x % y,rfl,?_,hy,oo⟩,?_⟩
    ·rw[<- hg,Nat.gcd_comm x y,Nat.gcd_rec y x,Nat.gcd_comm]
    ·simp only[Yr,hval];omega)
  (L16 a,L16 b) ⟨a,b,rfl,rfl,ha,hb⟩
 rw[ht,Ae]
def QR(x:Rat):Al:=⟨Z16 x.num,L16 x.den⟩
theorem Ah7(m:Nat):(⟨false,L16 m⟩:Aj)=Z16 (m:Int):=by
 unfold Z16;rw[decide_eq_false oo,Int.natAbs_natCast]
theorem Ac0{m:Nat}:decide (0<(((L16 m).length:Nat):Int))=decide (m≠0):=by
 have:=Ah6 (a:=m)
 by_cases h:m=0
 ·rw[decide_eq_false (by have:=this.2 h;omega),decide_eq_false (by simp[h])]
 ·rw[decide_eq_true (by have h2:(L16 m).length≠0:=fun e=>h (this.1 e);omega),decide_eq_true h]
theorem Ag5{n:Int}{d:Nat}(hd:d≠0):∃ (m:Int) (e:Nat),n=(Nat.gcd n.natAbs d:Nat)*m/\d=Nat.gcd n.natAbs d*e/\(mkRat n d).num=m/\(mkRat n d).den=e/\0<Nat.gcd n.natAbs d:=by
 have hg:0<Nat.gcd n.natAbs d:=Nat.gcd_pos_of_pos_right _ (Nat.pos_of_ne_zero hd);obtain⟨m,hm⟩:=Int.ofNat_dvd_left.2 (Nat.gcd_dvd_left n.natAbs d);obtain⟨e,he⟩:=Nat.gcd_dvd_right n.natAbs d;refine⟨m,e,hm,he,?_,?_,hg⟩
 ·rw[Rat.num_mkRat,if_neg hd,Nat.gcd_comm];generalize Nat.gcd n.natAbs d=g at *;rw[hm,Int.mul_ediv_cancel_left _ oo]
 ·rw[Rat.den_mkRat,if_neg hd,Nat.gcd_comm];generalize Nat.gcd n.natAbs d=g at *;rw[he,Nat.mul_div_cancel_left _ hg]
theorem Aqh{n:Int}{d:Nat}(hd:d≠0)(h1:(dig 65536 n.natAbs).length<=90000)(h2:(dig 65536 d).length<=90000):Dj (Z16 n) ⟨false,L16 d⟩=some (QR (mkRat n d)):=by
 obtain⟨m,e,hm,he,hn1,hd1,hg⟩:=Ag5 (n:=n) hd;have hgl:(dig 65536 (Nat.gcd n.natAbs d)).length<=90000:=Nat.le_trans (Sz (Nat.gcd_le_right _ (Nat.pos_of_ne_zero hd))) h2;unfold Dj;simp only[Adp,jn_d];rw[Bex h1 h2,Ae,Afb oo h1 hgl,Ae,Afb oo h2 hgl,Ae];simp only[];unfold QR;rw[hn1,hd1];generalize Nat.gcd n.natAbs d=g at *;have e1:n.natAbs / g=m.natAbs:=by rw[hm,Int.natAbs_mul,Int.natAbs_natCast,Nat.mul_div_cancel_left _ hg]
 have e2:d / g=e:=by rw[he,Nat.mul_div_cancel_left _ hg]
 rw[e1,e2,Nu,Ac0];unfold Z16
 by_cases hneg:n<0
 ·have hmn:m<0:=by
   rcases Int.lt_or_le m 0 with h | h
   ·exact h
   ·have:=Int.mul_nonneg (Int.natCast_nonneg g) h;omega
  rw[if_pos (by simpa using hneg),decide_eq_true (show m.natAbs≠0 by omega),decide_eq_true hmn]
 ·have hmn:¬ m<0:=fun h=>by
   have:=Int.mul_neg_of_pos_of_neg (show (0:Int)<(g:Int) by omega) h;omega
  rw[if_neg (by simpa using hneg),decide_eq_false hmn]
def Sml(k:Nat)(x:Rat):Prop:=x.num.natAbs<65536 ^ k/\x.den<65536 ^ k
theorem Sml.n{k:Nat}{x:Rat}(h:Sml k x):(dig 65536 x.num.natAbs).length<=k:=Fo h.1
theorem Sml.d{k:Nat}{x:Rat}(h:Sml k x):(dig 65536 x.den).length<=k:=Fo h.2
theorem Aoh{n:Int}{d:Nat}(hd:d≠0):(mkRat n d).num.natAbs<=n.natAbs/\(mkRat n d).den<=d:=by
 obtain⟨m,e,hm,he,hn1,hd1,hg⟩:=Ag5 (n:=n) hd;rw[hn1,hd1];generalize Nat.gcd n.natAbs d=g at *;refine⟨?_,?_⟩
 ·rw[hm,Int.natAbs_mul,Int.natAbs_natCast];exact Nat.le_mul_of_pos_left _ hg
 ·rw[he];exact Nat.le_mul_of_pos_left _ hg
theorem Ky{a b i j:Nat}(ha:a<65536 ^ i)(hb:b<65536 ^ j):a*b<65536 ^ (i+j):=by
 rw[Nat.pow_add];rcases Nat.eq_zero_or_pos b with rfl | h
 ·rw[Nat.mul_zero];exact Nat.mul_pos (Nat.pow_pos oo) (Nat.pow_pos oo)
 ·exact Nat.lt_of_lt_of_le (Nat.mul_lt_mul_of_pos_right ha h) (Nat.mul_le_mul_left _ (Nat.le_of_lt hb))
theorem den0(x:Rat):x.den≠0:=x.den_nz
theorem Sml.mkRat{k:Nat}{n:Int}{d:Nat}(hd:d≠0)(h1:n.natAbs<65536 ^ k)(h2:d<65536 ^ k):Sml k (mkRat n d):=⟨Nat.lt_of_le_of_lt (Aoh hd).1 h1,Nat.lt_of_le_of_lt (Aoh hd).2 h2⟩
theorem Aqi{x y:Rat}{i j:Nat}(hx:Sml i x)(hy:Sml j y):(x.num*y.den+y.num*x.den).natAbs<65536 ^ (i+j+1):=by
 have h1:=Ky hx.1 hy.2;have h2:=Ky hy.1 hx.2;rw[Nat.add_comm j i] at h2;have h3:=Int.natAbs_add_le (x.num*y.den) (y.num*x.den);rw[Int.natAbs_mul,Int.natAbs_mul,Int.natAbs_natCast,Int.natAbs_natCast] at h3;rw[Nat.pow_succ];generalize 65536 ^ (i+j)=p at *;omega
theorem Sml.neg{x:Rat}{i:Nat}(hx:Sml i x):Sml i (-x):=by
 unfold Sml;rw[Rat.neg_num,Rat.neg_den,Int.natAbs_neg];exact hx
theorem Sml.int{z:Int}{k:Nat}(h:z.natAbs<65536 ^ k)(hk:0<k):Sml k (z:Rat):=⟨h,Nat.one_lt_pow oo oo⟩
theorem Ac1{z:Int}(h1:-9223372036854775808<=z)(h2:z<=9223372036854775807):Ck z=some (QR (z:Rat)):=by
 unfold Ck;rw[Aod h1 h2,Ae,Bb0];rfl
theorem Bb1{x y:Rat}{i j:Nat}(hx:Sml i x)(hy:Sml j y)(h:i+j<=80000):Cl (QR x) (QR y)=some (QR (x+y)):=by
 unfold Cl QR;simp only[Ah7];have a1:=hx.n;have a2:=hx.d;have a3:=hy.n;have a4:=hy.d;have b1:(dig 65536 (x.num*(y.den:Int)).natAbs).length<=i+j:=Fo (by rw[Int.natAbs_mul,Int.natAbs_natCast];exact Ky hx.1 hy.2);have b2:(dig 65536 (y.num*(x.den:Int)).natAbs).length<=j+i:=Fo (by rw[Int.natAbs_mul,Int.natAbs_natCast];exact Ky hy.1 hx.2);have b3:(dig 65536 (x.den*y.den)).length<=i+j:=Fo (Ky hx.2 hy.2);have b4:(dig 65536 (x.num*y.den+y.num*x.den).natAbs).length<=i+j+1:=Fo (Aqi hx hy);rw[Aoe (by rw[Int.natAbs_natCast];omega),Ae,Aoe (by rw[Int.natAbs_natCast];omega),Ae,Beu oo oo,Ae,Acz oo,Ae,Aqh (Nat.mul_ne_zero (den0 x) (den0 y)) oo oo,Ae,<- Rat.add_def'];rfl
theorem Asm{z:Int}:Fq (Z16 z)=some (Z16 (-z)):=by
 unfold Fq;simp only[jn_d,Nu,Adp,Ac0];unfold Z16;rw[Int.natAbs_neg]
 by_cases h:z<0
 ·rw[if_pos (by simpa using h),decide_eq_false oo]
 ·rw[if_neg (by simpa using h)];congr 2
  by_cases h0:z=0
  ·subst h0;rfl
  ·rw[Ac0,decide_eq_true (show z.natAbs≠0 by omega),decide_eq_true (show -z<0 by omega)]
theorem Asn{x:Rat}:Hm (QR x)=some (QR (-x)):=by
 unfold Hm QR;rw[Asm,Ae,Rat.neg_num,Rat.neg_den]
theorem Bb2{x y:Rat}{i j:Nat}(hx:Sml i x)(hy:Sml j y)(h:i+j<=80000):Cw (QR x) (QR y)=some (QR (x-y)):=by
 unfold Cw;rw[Asn,Ae,Bb1 hx hy.neg h,Ae,Rat.sub_eq_add_neg]
theorem Bey{x y:Rat}{i j:Nat}(hx:Sml i x)(hy:Sml j y)(h:i+j<=80000):Dl (QR x) (QR y)=some (QR (x*y)):=by
 unfold Dl QR;simp only[];have a1:=hx.n;have a2:=hx.d;have a3:=hy.n;have a4:=hy.d;have b1:(dig 65536 (x.num*y.num).natAbs).length<=i+j:=Fo (by rw[Int.natAbs_mul];exact Ky hx.1 hy.1);have b3:(dig 65536 (x.den*y.den)).length<=i+j:=Fo (Ky hx.2 hy.2);rw[Aoe oo,Ae,Acz oo,Ae,Aqh (Nat.mul_ne_zero (den0 x) (den0 y)) oo oo,Ae,<- Rat.mul_def'];rfl
theorem Bc3{z:Int}:Gm (Z16 z)=some z.sign:=by
 unfold Gm;have:=Ah6 (a:=z.natAbs);rw[Adp,Nu]
 by_cases h0:z=0
 ·subst h0;rfl
 ·rw[if_neg (fun e=>h0 (by have:=this.1 oo;omega))]
  by_cases h:z<0
  ·rw[if_pos (by simpa using h),Int.sign_eq_neg_one_of_neg h]
  ·rw[if_neg (by simpa using h),Int.sign_eq_one_of_pos oo]
theorem Bez{x y:Rat}{i j:Nat}(hx:Sml i x)(hy:Sml j y)(h:i+j<=80000):Hn (QR x) (QR y)=some (x-y).num.sign:=by
 unfold Hn;rw[Bb2 hx hy h,Ae];show bnd (Gm (Z16 (x-y).num)) _=_;rw[Bc3,Ae]
end Go.Proofs.YthlkpgdfifnagaaGreat
