/- Sorting by insertion, the stack's sides, the copy of the vertices: what the reference's mesh needs with lines and without. -/
import Derived.Test.YtjfndjmabhbicaaGreatU20
import Derived.Test.YtjfndjmabhbicaaGreatE3
namespace Go.Proofs.YtjfndjmabhbicaaGreat
open Go Go.RowKit
section
variable {α:Type} {lt:α->α->Bool}
theorem Arx (htr:∀ x y z,lt y x=false->lt z y=false->lt z x=false) (has:∀ x y,lt x y=true->lt y x=false) {B:List α × Int->Option (Sum (List α × Int) (List α))}
  (hB:∀ (A:List α) (y x:α) (R:List α),A.length<=100000000->B (A++y::x::R,((A.length+1:Nat):Int))=if lt x y=true then some (.inl (A++x::y::R,((A.length:Nat):Int))) else some (.inr (A++y::x::R)))
  (hB0:∀ (x:α) (R:List α),B (x::R,0)=some (.inr (x::R))) :
  ∀ (n:Nat) (A C D:List α) (x:α),A.length=n->n<=100000000->((A++C).Pairwise fun x y=>lt y x=false)->(∀ c∈C,lt x c=true)->∃ A' C',A' ++ C'=A++C/\lfix B (A++x::(C++D),(A.length:Int))=some (A' ++ x::(C' ++ D))/\(A' ++ x::C').Pairwise fun x y=>lt y x=false:=by
 intro n
 induction n with
 | zero=>
  intro A C D x hA _ hs hc
  have:A=[]:=List.eq_nil_of_length_eq_zero hA
  subst this
  refine ⟨[],C,rfl,?_,?_⟩
  ·rw[List.nil_append,Bk,show ((([]:List α).length:Nat):Int)=0 from rfl,hB0]
  ·exact List.pairwise_cons.2 ⟨fun c hc'=>has _ _ (hc c hc'),hs⟩
 | succ n ih=>
  intro A C D x hA hn hs hc
  obtain ⟨A',y,rfl⟩:∃ A' y,A=A' ++ [y]:=⟨A.dropLast,A.getLast (fun e=>by rw[e] at hA;simp at hA),(List.dropLast_concat_getLast _).symm⟩
  have hA':A'.length=n:=by simpa using hA
  have e1:(A' ++ [y])++x::(C++D)=A' ++ y::x::(C++D):=by simp
  have e2:(((A' ++ [y]).length:Nat):Int)=((A'.length+1:Nat):Int):=by simp
  rw[e1,e2,Bk,hB _ _ _ _ (by omega)]
  by_cases c:lt x y=true
  ·rw[if_pos c]
   dsimp only
   obtain ⟨A2,C2,g1,g2,g3⟩:=ih A' (y::C) D x hA' (by omega) (by simpa using hs) (fun z hz=>by rcases List.mem_cons.1 hz with rfl | hz;exact c;exact hc z hz)
   exact ⟨A2,C2,by rw[g1];simp,g2,g3⟩
  ·rw[if_neg c]
   have c':lt x y=false:=by simpa using c
   refine ⟨A' ++ [y],C,rfl,by simp,?_⟩
   rw[List.pairwise_append] at hs ⊢
   obtain ⟨h1,h2,h3⟩:=hs
   refine ⟨h1,List.pairwise_cons.2 ⟨fun z hz=>has _ _ (hc z hz),h2⟩,fun z hz w hw=>?_⟩
   rcases List.mem_cons.1 hw with rfl | hw
   ·rw[List.pairwise_append] at h1
    rcases List.mem_append.1 hz with hz | hz
    ·exact htr _ _ _ (h1.2.2 z hz y (by simp)) c'
    ·rw[List.mem_singleton] at hz
     subst hz
     exact c'
   ·exact h3 z hz w hw
theorem Ajj (htr:∀ x y z,lt y x=false->lt z y=false->lt z x=false) (has:∀ x y,lt x y=true->lt y x=false) {B:List α × Int->Option (Sum (List α × Int) (List α))} {B2:List α × Int->Option (Sum (List α × Int) (List α))} {p:List α}
  (hB:∀ (A:List α) (y x:α) (R:List α),A.length<=100000000->B (A++y::x::R,((A.length+1:Nat):Int))=if lt x y=true then some (.inl (A++x::y::R,((A.length:Nat):Int))) else some (.inr (A++y::x::R)))
  (hB0:∀ (x:α) (R:List α),B (x::R,0)=some (.inr (x::R))) (hp:p.length<=100000000)
  (h2:∀ (l:List α) (k:Nat),k < p.length->B2 (l,(k:Int))=bnd (lfix B (l,(k:Int))) fun t=>some (.inl (t,((k+1:Nat):Int)))) (h3:∀ l:List α,B2 (l,(p.length:Int))=some (.inr l)) :
  ∃ r,lfix B2 (p,0)=some r/\r.Perm p/\r.Pairwise fun x y=>lt y x=false:=by
 refine Bl (B:=B2) (fun s=>p.length-s.2.toNat) (fun s=>∃ S D:List α,s=(S++D,(S.length:Int))/\(S++D).Perm p/\S.Pairwise fun x y=>lt y x=false) _ (fun s hs=>?_) _ ⟨[],p,rfl,List.Perm.refl _,List.Pairwise.nil⟩
 obtain ⟨S,D,rfl,h4,h5⟩:=hs
 have hlen:=h4.length_eq
 rw[List.length_append] at hlen
 rcases D with _ | ⟨x,D⟩
 ·right
  have:S.length=p.length:=by simpa using hlen
  rw[this,h3]
  exact ⟨_,rfl,h4,by simpa using h5⟩
 ·left
  rw[List.length_cons] at hlen
  rw[h2 _ _ (by omega)]
  obtain ⟨A',C',g1,g2,g3⟩:=Arx htr has hB hB0 S.length S [] D x rfl (by omega) (by simpa using h5) (fun c hc=>(by cases hc))
  rw[List.append_nil] at g1
  rw[List.nil_append] at g2
  rw[g2,Ad]
  have hl:A'.length+C'.length=S.length:=by rw[<- List.length_append,g1]
  have e:(A' ++ x::(C' ++ D))=(A' ++ x::C')++D:=by simp
  refine ⟨_,rfl,⟨A' ++ x::C',D,by rw[e,List.length_append,List.length_cons,<- hl];congr 2,?_,g3⟩,by dsimp only;omega⟩
  rw[<- e]
  refine List.Perm.trans ?_ h4
  rw[<- g1]
  have:(A' ++ x::(C' ++ D)).Perm (x::(A' ++ (C' ++ D))):=List.perm_middle
  refine this.trans ?_
  have:((A' ++ C')++x::D).Perm (x::((A' ++ C')++D)):=List.perm_middle
  rw[<- List.append_assoc]
  exact this.symm
end
theorem Aht {α:Type} (A:List α) (y x:α) (R:List α):idx (A++y::x::R) ((A.length:Nat):Int)=some y/\idx (A++y::x::R) ((A.length+1:Nat):Int)=some x:=by
 constructor
 ·rw[Bb (by simp)];simp
 ·rw[Bb (by simp)];simp
theorem Au2 (x y:Ae):Nm x y=some (decide (cmp3 x y < 0)):=by
 obtain ⟨x0,x1,x2⟩:=x
 obtain ⟨y0,y1,y2⟩:=y
 have step:∀ (a b c a' b' c':Int) (i:Int) (h:Int),w64 (i+1)=h->∀ p q,i < 3->idx [a,b,c] i=some p->idx [a',b',c'] i=some q->Ho ⟨a,b,c⟩ ⟨a',b',c'⟩ i=if p=q then some (.inl h) else some (.inr (.inr (decide (p < q)))):=by
  intro a b c a' b' c' i h hh p q hi hp hq
  unfold Ho
  dsimp only
  rw[if_pos hi,hp,Ad,hq,Ad,Ad,Ad,hh]
 have w1:w64 (0+1)=1:=Ay (by omega) (by omega)
 have w2:w64 (1+1)=2:=Ay (by omega) (by omega)
 have w3:w64 (2+1)=3:=Ay (by omega) (by omega)
 have s0:=step x0 x1 x2 y0 y1 y2 0 1 w1 x0 y0 (by omega) rfl rfl
 have s1:=step x0 x1 x2 y0 y1 y2 1 2 w2 x1 y1 (by omega) rfl rfl
 have s2:=step x0 x1 x2 y0 y1 y2 2 3 w3 x2 y2 (by omega) rfl rfl
 have s3:Ho ⟨x0,x1,x2⟩ ⟨y0,y1,y2⟩ 3=some (.inr (.inl ())):=by unfold Ho;rw[if_neg (by omega)]
 unfold Nm
 rw[jn_d,Bk,s0]
 have key:∀ P:Prop,∀ Q:Prop,[Decidable P]->[Decidable Q]->(P↔Q)->some (decide P)=some (decide Q):=fun P Q _ _ h=>by rw[decide_eq_decide.2 h]
 have hc:=Yl ⟨x0,x1,x2⟩ ⟨y0,y1,y2⟩
 dsimp only at hc
 by_cases h0:x0=y0
 ·rw[if_pos h0]
  dsimp only
  rw[Bk,s1]
  by_cases h1:x1=y1
  ·rw[if_pos h1]
   dsimp only
   rw[Bk,s2]
   by_cases h2:x2=y2
   ·rw[if_pos h2]
    dsimp only
    rw[Bk,s3,Ad]
    dsimp only
    rw[decide_eq_false (fun g=>by have:=hc.1 g;omega)]
   ·rw[if_neg h2,Ad]
    dsimp only
    exact key _ _ (by rw[hc];omega)
  ·rw[if_neg h1,Ad]
   dsimp only
   exact key _ _ (by rw[hc];omega)
 ·rw[if_neg h0,Ad]
  dsimp only
  exact key _ _ (by rw[hc];omega)
theorem Alg (p:List Ae) (hp:p.length<=100000000):∃ r,Lg p=some r/\r.Perm p/\r.Pairwise fun x y=>¬ cmp3 y x < 0:=by
 have:=Ajj (lt:=fun x y:Ae=>decide (cmp3 x y < 0)) (B:=Hz) (B2:=Ia p) (p:=p)
  (fun x y z h1 h2=>by
   simp only[decide_eq_false_iff_not,Yl] at *
   omega)
  (fun x y h=>by
   simp only[decide_eq_false_iff_not,decide_eq_true_eq,Yl] at *
   omega)
  (fun A y x R hA=>by
   obtain ⟨i0,i1⟩:=Aht A y x R
   have w1:w64 (((A.length+1:Nat):Int)-1)=((A.length:Nat):Int):=by rw[Ay (by omega) (by omega)];omega
   unfold Hz
   dsimp only
   rw[jn_d,if_pos (by omega),w1,i1,Ad,i0,Ad,Au2,Ad]
   by_cases c:decide (cmp3 x y < 0)=true
   ·have e1:(A++y::x::R).set (A.length+1) y=A++y::y::R:=by simp[List.set_append]
    have e2:(A++y::y::R).set A.length x=A++x::y::R:=by simp[List.set_append]
    have j0:∃ z,idx (A++y::y::R) ((A.length:Nat):Int)=some z:=⟨_,(Aht A y y R).1⟩
    obtain ⟨z,j0⟩:=j0
    dsimp only
    rw[if_pos c,if_pos c,Ad,Ad,Ad,Vd,e1,j0,Ad,Vd,e2]
   ·dsimp only
    rw[if_neg c,if_neg c])
  (fun x R=>by
   unfold Hz
   dsimp only
   rw[jn_d,if_neg (by omega)]
   dsimp only
   rw[if_neg (by simp)])
  hp
  (fun l k hk=>by
   unfold Ia
   dsimp only
   rw[if_pos (by omega),jn_d,show w64 ((k:Int)+1)=((k+1:Nat):Int) from by rw[Ay (by omega) (by omega)];omega])
  (fun l=>by
   unfold Ia
   dsimp only
   rw[if_neg (by omega)])
 obtain ⟨r,h1,h2,h3⟩:=this
 refine ⟨r,?_,h2,h3.imp fun h=>by simpa using h⟩
 unfold Lg
 rw[jn_d,h1,Ad]
variable {v:List Ab}
theorem Ax3 {n:Nat} (hn:n<=1024) {t:Ae} (h0:inN n t.a0) (h1:inN n t.a1) (h2:inN n t.a2) {s:(List Aa) × (List (Aa × Bool)) × (List Ae)} {op:List Aa} {dn:List (Aa × Bool)} (hop:op.length<=10000000) (hdn:dn.length<=10000000) (hpl:∀ (m:List (Aa × Bool)) (x:Aa),(mput m x true).length<=m.length+1) :
  lfix (Cq t s) (op,dn,0)=some (op++[⟨t.a1,t.a0⟩,⟨t.a2,t.a1⟩,⟨t.a0,t.a2⟩],mput (mput (mput dn ⟨t.a0,t.a1⟩ true) ⟨t.a1,t.a2⟩ true) ⟨t.a2,t.a0⟩ true,s.2.2++[t]):=by
 unfold inN at h0 h1 h2
 have step:∀ (op:List Aa) (dn:List (Aa × Bool)) (i j:Int) (p q:Int),op.length<=20000000->dn.length<=20000000->0<=i->i < 3->Int.tmod (w64 (i+1)) 3=j->idx [t.a0,t.a1,t.a2] i=some p->idx [t.a0,t.a1,t.a2] j=some q->(0<=p/\p < 1024)->(0<=q/\q < 1024) ->
   Cq t s (op,dn,i)=some (.inl (op++[⟨q,p⟩],mput dn ⟨p,q⟩ true,i+1)):=fun op dn i j p q ho hd hi hi3 hj hp hq hpr hqr=>by
  unfold Cq
  dsimp only
  rw[if_pos hi3,hp,Ad,hj,hq,Ad,gd_t ⟨⟨by omega,by omega⟩,by omega,by omega⟩,gd_t (by omega),gd_t (by omega),Ay (by omega) (by omega)]
 have last:∀ (op:List Aa) (dn:List (Aa × Bool)),Cq t s (op,dn,3)=some (.inr (op,dn,s.2.2++[t])):=fun op dn=>by
  unfold Cq
  dsimp only
  rw[if_neg (by omega)]
 have l1:=hpl dn ⟨t.a0,t.a1⟩
 have l2:=hpl (mput dn ⟨t.a0,t.a1⟩ true) ⟨t.a1,t.a2⟩
 have m0:Int.tmod (w64 (0+1)) 3=1:=by rw[Ay (by omega) (by omega)];rfl
 have m1:Int.tmod (w64 (1+1)) 3=2:=by rw[Ay (by omega) (by omega)];rfl
 have m2:Int.tmod (w64 (2+1)) 3=0:=by rw[Ay (by omega) (by omega)];rfl
 rw[Bk,step op dn 0 1 t.a0 t.a1 (by omega) (by omega) (by omega) (by omega) m0 rfl rfl (by omega) (by omega)]
 dsimp only
 rw[Bk,show (0:Int)+1=1 from rfl,step _ _ 1 2 t.a1 t.a2 (by simp;omega) (by omega) (by omega) (by omega) m1 rfl rfl (by omega) (by omega)]
 dsimp only
 rw[Bk,show (1:Int)+1=2 from rfl,step _ _ 2 0 t.a2 t.a0 (by simp;omega) (by omega) (by omega) (by omega) m2 rfl rfl (by omega) (by omega)]
 dsimp only
 rw[Bk,show (2:Int)+1=3 from rfl,last]
 simp
def dnM (m:List (Aa × Bool)) (p q:Int):Prop:=(mget m ⟨p,q⟩).getD false=true
theorem Adm {m:List (Aa × Bool)} (hm:Dx m) (x y p q:Int):dnM (mput m ⟨x,y⟩ true) p q↔dnM m p q\/(p=x/\q=y):=by
 unfold dnM
 rw[Po hm]
 by_cases h:(⟨p,q⟩:Aa)=⟨x,y⟩
 ·rw[if_pos h]
  simp only[Aa.mk.injEq] at h
  simp[h]
 ·rw[if_neg h]
  simp only[Aa.mk.injEq] at h
  exact ⟨.inl,fun g=>g.elim id fun g=>absurd g h⟩
theorem Xh (m:List (Aa × Bool)) (x:Aa):(mput m x true).length<=m.length+1:=by
 unfold mput
 have:(mdel m x).length<=m.length:=List.length_filter_le _ _
 simp only[List.length_cons,List.length_append,List.length_nil]
 omega
theorem Ary (hv:Bu v) (hn:v.length<=1024) (h0:0 < v.length):∃ f,inN v.length f/\∀ k,inN v.length k->k=f\/befP (plV v f) (plV v k):=by
 obtain ⟨l,hl,hr⟩:=Ad8 hv hn
 have hlen:=hr.len
 have g0:0 < l.length:=by omega
 refine ⟨l[0],hr.val.1 (List.getElem_mem g0),fun k hk=>?_⟩
 obtain ⟨j,hj,rfl⟩:=List.getElem_of_mem (hr.val.2 hk)
 by_cases e:j=0
 ·subst e;exact .inl rfl
 ·exact .inr (hr.lt g0 hj (by omega))
theorem Ajk (hv:Bu v) (h3:3<=v.length):(∀ k,2<=k->inN v.length k->crs (plV v 0) (plV v 1) (plV v k)=0)↔Xf v:=by
 have i0:inN v.length 0:=⟨by omega,by omega⟩
 have i1:inN v.length 1:=⟨by omega,by omega⟩
 constructor
 ·intro h i j k hi hj hk
  have on:∀ d,inN v.length d->crs (plV v 0) (plV v 1) (plV v d)=0:=fun d hd=>by
   by_cases e0:d=0
   ·subst e0;exact Bp _ _
   ·by_cases e1:d=1
    ·subst e1;exact Bi _ _
    ·exact h d (by have:=hd.1;omega) hd
  exact Aea (Lb hv i0 i1 (by omega)) (on i hi) (on j hj) (on k hk)
 ·intro h k _ hk
  exact h 0 1 k i0 i1 hk
theorem Arz (v:List Ab) (hn:v.length<=1024):lfix (Iw v) (([]:List Ab),0)=some v:=by
 have:=Bl (B:=Iw v) (fun s=>v.length-s.2.toNat) (fun s=>∃ k:Nat,k<=v.length/\s=(v.take k,(k:Int))) (fun t=>t=v) (fun s hs=>by
  obtain ⟨k,hk,rfl⟩:=hs
  unfold Iw
  dsimp only
  by_cases hk2:k < v.length
  ·left
   rw[if_pos (by omega),Bb hk2,Ad,gd_t (by rw[List.length_take];omega),show w64 ((k:Int)+1)=((k+1:Nat):Int) from by rw[Ay (by omega) (by omega)];omega]
   exact ⟨_,rfl,⟨k+1,hk2,by rw[List.take_succ_eq_append_getElem hk2]⟩,by dsimp only;omega⟩
  ·right
   rw[if_neg (by omega)]
   have:k=v.length:=by omega
   subst this
   exact ⟨_,rfl,by rw[List.take_length]⟩) (([]:List Ab),0) ⟨0,by omega,by simp⟩
 obtain ⟨t,ht,rfl⟩:=this
 exact ht
theorem Af7 {v:List Ab} (lines:List Aa) (h:Nw v≠0):Cb v lines=some (⟨[],[],[]⟩,Nw v):=by
 unfold Cb Jn
 rw[Wu,Ad,if_neg h,Ad,if_neg h]
section
variable {v:List Ab} {m:Mp} {L l:List Aa}
theorem Mesh.seen_side (hv:Bu v) (h:Mesh v L m) {x y z:Int} (hk:apM m x y=some z):Seen v L x y/\Seen v L y x:=by
 obtain ⟨vx,vy,_,_⟩:=h.tri.ccw _ _ _ hk
 have hf:=Mesh.free hv h.tri hk
 have one:Seen v L x y:=fun s hs g=>by
  have hsd:apM m s.a0 s.a1≠none\/apM m s.a1 s.a0≠none:=h.side s hs
  rcases g.cr with g | g
  ·exact Ab4 h.tri h.cov vx vy hf (.inl (by rw[hk];simp)) g hsd
  ·exact Ab4 h.tri h.cov vx vy hf (.inl (by rw[hk];simp)) g hsd.symm
 exact ⟨one,fun s hs g=>one s hs (Gq.symm (Gq.rev (Gq.symm g)))⟩
theorem Mesh.topS (hv:Bu v) (h:Mesh v L m) {a b k:Int} (hk:apM m a b=some k):TopS v (See2 v L a b) a b k:=by
 obtain ⟨_,_,vk,T⟩:=h.tri.ccw _ _ _ hk
 exact ⟨vk,T,⟨(h.seen_side hv (h.tri.rot2 hk)).2,(h.seen_side hv (h.tri.rot _ _ _ hk)).1⟩,fun d hd hp hs hne=>h.best hv hk hd hp hne hs.1 hs.2⟩
theorem Alh (hM:Tri (plV v) (inN v.length) (apM m)) {a b c:Int} (h:apM m a b=some c):∃ t,Lh ⟨a,b,c⟩=some t/\Wp m t/\Ft t a b/\(∀ p q,Ft t p q↔Ft ⟨a,b,c⟩ p q):=by
 have hn:=Wi (P:=plV v) (a:=a) (b:=b) (c:=c) (by have:=(hM.ccw _ _ _ h).2.2.2;omega)
 have stop:∀ x y z:Int,¬ y < x->¬ z < x->Fq (x,y,z)=some (.inr (x,y,z)):=fun x y z h1 h2=>by
  unfold Fq
  dsimp only
  rw[jn_d,if_neg h1,decide_eq_false h2]
  dsimp only
  rw[if_neg (by simp)]
 have more:∀ x y z:Int,y < x\/z < x->Fq (x,y,z)=some (.inl (y,z,x)):=fun x y z h1=>by
  unfold Fq
  dsimp only
  rw[jn_d]
  by_cases c:y < x
  ·rw[if_pos c]
   dsimp only
   rw[if_pos rfl]
  ·rw[if_neg c,decide_eq_true (h1.resolve_left c)]
   dsimp only
   rw[if_pos rfl]
 unfold Lh
 rw[jn_d]
 dsimp only
 by_cases h1:b < a\/c < a
 ·rw[Bk,more _ _ _ h1]
  dsimp only
  by_cases h2:c < b\/a < b
  ·rw[Bk,more _ _ _ h2]
   dsimp only
   rw[Bk,stop _ _ _ (by omega) (by omega),Ad]
   refine ⟨_,rfl,⟨by dsimp only;omega,by dsimp only;omega,hM.rot2 h⟩,.inr (.inl ⟨rfl,rfl⟩),fun p q=>?_⟩
   unfold Ft
   dsimp only
   omega
  ·rw[Bk,stop _ _ _ (by omega) (by omega),Ad]
   refine ⟨_,rfl,⟨by dsimp only;omega,by dsimp only;omega,hM.rot _ _ _ h⟩,.inr (.inr ⟨rfl,rfl⟩),fun p q=>?_⟩
   unfold Ft
   dsimp only
   omega
 ·rw[Bk,stop _ _ _ (by omega) (by omega),Ad]
  exact ⟨_,rfl,⟨by dsimp only;omega,by dsimp only;omega,h⟩,.inl ⟨rfl,rfl⟩,fun p q=>Iff.rfl⟩
theorem Adf (hv:Bu v) (hn:v.length<=1024) (hL:L.length<=1000000) (hLs:Lines v L) (hM:Mesh v L m) {p0 q0:Int} (h0:okM v m p0 q0) (hs:∃ e,apM m p0 q0=some e) :
  ∃ out,lfix (Fs v L) ([⟨p0,q0⟩],([]:List (Aa × Bool)),([]:List Ae))=some out/\out.Nodup/\out.length<=1048576/\∀ t,t∈out↔Wp m t:=by
 have hok:∀ s∈L,okL v s:=fun s hs=>(hLs.ok s hs).1
 have hsq:=Zi hn
 refine Bl (B:=Fs v L) (fun s=>4*(v.length*v.length-s.2.2.length)+s.1.length)
  (fun s=>TrM v m p0 q0 s.1 (dnM s.2.1) s.2.2/\Dx s.2.1/\s.2.1.length+s.1.length<=1+6*s.2.2.length) _ (fun s hst=>?_) _ ⟨TrM.init h0 (fun p q h=>by simp[dnM,Asc] at h),List.Pairwise.nil,by simp⟩
 obtain ⟨op,dn,out⟩:=s
 obtain ⟨h1,h2,h3⟩:=hst
 dsimp only at h1 h2 h3
 have hb:=h1.bound hM.tri
 have hl:=h1.len
 unfold Fs
 dsimp only
 by_cases hop:op=[]
 ·right
  subst hop
  rw[if_neg (by simp)]
  exact ⟨_,rfl,h1.nd,by omega,h1.full hv hM hs⟩
 ·left
  obtain ⟨r,s,rfl⟩:∃ r s,op=r++[s]:=⟨op.dropLast,op.getLast hop,(List.dropLast_concat_getLast hop).symm⟩
  obtain ⟨s1,s2,s3⟩:=h1.opn s (by simp)
  have hln:(r++[s]).length=r.length+1:=by simp
  have w1:w64 ((((r++[s]).length:Nat):Int)-1)=((r.length:Nat):Int):=by rw[hln,Ay (by omega) (by omega)];omega
  have i1:idx (r++[s]) ((r.length:Nat):Int)=some s:=by rw[Bb (by simp)];simp
  have tk:List.take (Int.toNat ((r.length:Nat):Int)) (r++[s])=r:=by simp
  have hr1:=Mv hn s1 s2
  rw[if_pos (by omega),w1,i1,Ad,gd_t ⟨by omega,by omega⟩,gd_t hr1,Ad,tk]
  by_cases c1:(mget dn s).getD false=true
  ·rw[if_pos c1]
   exact ⟨_,rfl,⟨h1.skip c1,h2,by dsimp only;omega⟩,by dsimp only;omega⟩
  ·rw[if_neg c1]
   obtain ⟨c,e1,e2⟩:=Aqo hv hn hL hok s1 s2
   rw[e1,Ad]
   have hput:=Xh dn s
   by_cases c2:c < 0
   ·have hno:noT v s.a0 s.a1:=by
     rcases e2 with ⟨_,g⟩ | g
     ·rcases s3 with g' | ⟨e,he⟩
      ·exact g'
      ·have ht:=hM.topS hv he
       have:=g e ht.1 ht.2.2.1
       have:=ht.2.1
       omega
     ·have:=g.1.1;omega
    rw[if_pos c2,gd_t hr1,gd_t (by omega)]
    exact ⟨_,rfl,⟨h1.none (fun p q=>Adm h2 s.a0 s.a1 p q) hno,h2.put _ _,by dsimp only;omega⟩,by dsimp only;omega⟩
   ·have ht:TopS v (See2 v L s.a0 s.a1) s.a0 s.a1 c:=by
     rcases e2 with ⟨g,_⟩ | g
     ·omega
     ·exact g
    have hd:apM m s.a0 s.a1=some c:=by
     rcases s3 with g | ⟨e,he⟩
     ·have:=g c ht.1;have:=ht.2.1;omega
     ·rw[<- (hM.topS hv he).unique ht];exact he
    obtain ⟨t,t1,t2,t3,t4⟩:=Alh hM.tri hd
    have tin:inN v.length t.a0/\inN v.length t.a1/\inN v.length t.a2:=by
     obtain ⟨q1,q2,q3,_⟩:=hM.tri.ccw _ _ _ t2.2.2
     exact ⟨q1,q2,q3⟩
    have hnew:=h1.more (dn':=dnM (mput (mput (mput dn ⟨t.a0,t.a1⟩ true) ⟨t.a1,t.a2⟩ true) ⟨t.a2,t.a0⟩ true)) c1 t2 t3 (fun p q=>by
      rw[Adm ((h2.put _ _).put _ _),Adm (h2.put _ _),Adm h2]
      unfold Ft
      constructor
      ·rintro (((g | g) | g) | g)
       ·exact .inl g
       ·exact .inr (.inl g)
       ·exact .inr (.inr (.inl g))
       ·exact .inr (.inr (.inr g))
      ·rintro (g | g | g | g)
       ·exact .inl (.inl (.inl g))
       ·exact .inl (.inl (.inr g))
       ·exact .inl (.inr g)
       ·exact .inr g) (fun p q hpq=>by
      obtain ⟨e,he⟩:=t2.side hM.tri hpq
      obtain ⟨q1,q2,_⟩:=hM.tri.ccw _ _ _ he
      refine ⟨q2,q1,?_⟩
      rcases hx:apM m q p with _ | x
      ·refine .inl fun d hd=>?_
       have:=hM.cov _ _ _ he hx d hd
       rw[Ax];omega
      ·exact .inr ⟨x,rfl⟩)
    have hb2:=hnew.bound hM.tri
    rw[List.length_append,List.length_singleton] at hb2
    have q1:=Xh dn ⟨t.a0,t.a1⟩
    have q2:=Xh (mput dn ⟨t.a0,t.a1⟩ true) ⟨t.a1,t.a2⟩
    have q3:=Xh (mput (mput dn ⟨t.a0,t.a1⟩ true) ⟨t.a1,t.a2⟩ true) ⟨t.a2,t.a0⟩
    rw[if_neg c2,t1,Ad,gd_t (by omega),Ax3 hn tin.1 tin.2.1 tin.2.2 (by omega) (by omega) Xh,Ad]
    refine ⟨_,rfl,⟨hnew,((h2.put _ _).put _ _).put _ _,?_⟩,?_⟩
    ·dsimp only
     simp only[List.length_append,List.length_cons,List.length_nil]
     rw[hln] at h3
     omega
    ·dsimp only
     simp only[List.length_append,List.length_cons,List.length_nil]
     omega
theorem Apd (hv:Bu v) (hM:Mesh v L m) {f b:Int} (hf:inN v.length f) (low:∀ k,inN v.length k->k=f\/befP (plV v f) (plV v k)) (hb:inN v.length b) (hbf:b≠f) (hh:∀ k,inN v.length k->k≠f->behind v f b k):∃ e,apM m f b=some e:=by
 have left:∀ d,inN v.length d->0<=crs (plV v f) (plV v b) (plV v d):=fun d hd=>by
  by_cases e:d=f
  ·rw[e,Bp];exact Int.le_refl _
  ·rcases hh d hd e with g | g <;> omega
 have hfree:Free v f b:=fun z hz n1 n2 g=>by
  obtain ⟨g0,g⟩:=g
  have h1:=(low z hz).resolve_left n1
  rcases hh z hz n1 with k | ⟨_,k⟩
  ·omega
  ·have h2:=(Ii (Lb hv hz hb n2)).resolve_left k
   exact g ⟨fun _=>h2,fun _=>h1⟩
 rcases Ahq hv hM.tri hf hb (fun e=>hbf e.symm) hfree (Aa2 hv hM.map hM.tri hM.cov hM.ne hf hb) with (g | g) | ⟨x,y,g,g1,g2⟩
 ·exact Option.ne_none_iff_exists'.1 g
 ·exfalso
  obtain ⟨e,he⟩:=Option.ne_none_iff_exists'.1 g
  obtain ⟨_,_,ve,T⟩:=hM.tri.ccw _ _ _ he
  have:=left e ve
  rw[Ax] at T;omega
 ·exfalso
  obtain ⟨vx,_,_,_⟩:=hM.tri.ccw _ _ _ g
  have:=left x vx
  omega
structure Qo (v:List Ab) (m:Mp) (T:List Ae):Prop where
 ord:T.Pairwise fun x y=>¬ cmp3 y x < 0
 nd:T.Nodup
 mem:∀ t,t∈T↔Wp m t
theorem Qo.unique {T T':List Ae} (h:Qo v m T) (h':Qo v m T'):T=T' :=
 Ut tot3 (fun _ _=>trivial) h.ord h'.ord ((List.perm_ext_iff_of_nodup h.nd h'.nd).2 fun t=>(h.mem t).trans (h'.mem t).symm)
theorem Ar0 (hm:MapN v.length m):Qo v m (Au cmp3 (m.flatMap triF)):=by
 have memt:∀ t:Ae,t∈m.flatMap triF↔Wp m t:=fun t=>by
  rw[List.mem_flatMap]
  constructor
  ·rintro ⟨⟨⟨a,b⟩,c⟩,hq,ht⟩
   unfold triF at ht
   split at ht
   ·rename_i hlt
    rw[List.mem_singleton] at ht
    subst ht
    exact ⟨hlt.1,hlt.2,Mf hm.ok hq⟩
   ·cases ht
  ·rintro ⟨h1,h2,h3⟩
   refine ⟨(⟨t.a0,t.a1⟩,t.a2),Ed h3,?_⟩
   unfold triF
   rw[if_pos ⟨h1,h2⟩]
   exact List.mem_singleton.2 rfl
 refine ⟨Jb tot3 (fun _ _=>trivial),(Cz _ _).nodup_iff.2 ?_,fun t=>by rw[Ga,memt]⟩
 have:∀ l:Mp,Dx l->(l.flatMap triF).Nodup:=by
  intro l
  induction l with
  | nil=>intro _;exact List.Pairwise.nil
  | cons q r ih=>
   intro hl
   obtain ⟨h1,h2⟩:=List.pairwise_cons.1 hl
   rw[List.flatMap_cons,List.nodup_append]
   refine ⟨?_,ih h2,fun x hx y hy e=>?_⟩
   ·unfold triF
    split
    ·simp
    ·exact List.Pairwise.nil
   ·subst e
    obtain ⟨q',hq',hy⟩:=List.mem_flatMap.1 hy
    have key:∀ q:Aa × Int,x∈triF q->q.1=⟨x.a0,x.a1⟩:=fun q hq=>by
     unfold triF at hq
     split at hq
     ·rw[List.mem_singleton] at hq
      subst hq
      rfl
     ·cases hq
    exact h1 q' hq' (by rw[key _ hx,key _ hy])
 exact this m hm.ok
theorem Au3 (x y:Aa):Nn x y=some (decide (cmp2 x y < 0)):=by
 have h:=Yk x y
 unfold Nn
 rw[jn_d]
 by_cases c:x.a0 < y.a0
 ·rw[if_pos c,decide_eq_true (h.2 (.inl c))]
 ·rw[if_neg c]
  by_cases c2:x.a0=y.a0
  ·rw[if_pos c2]
   congr 1
   exact decide_eq_decide.2 (by rw[h];omega)
  ·rw[if_neg c2,decide_eq_false (fun g=>by have:=h.1 g;omega)]
theorem Aeb (hl:l.length<=1000000) (hs:∀ s∈l.map prL,Km s):Kg l=some (Au cmp2 (l.map prL)):=by
 obtain ⟨t,ht,hR⟩:=Bl (B:=Kj l) (fun s=>l.length-s.2.toNat)
  (fun s=>∃ k:Nat,s=((l.take k).map prL,(k:Int))/\k<=l.length)
  (fun t=>t=l.map prL) (by
   rintro s ⟨k,rfl,hk⟩
   unfold Kj
   dsimp only
   by_cases hlt:k < l.length
   ·left
    refine ⟨((l.take (k+1)).map prL,((k+1:Nat):Int)),?_,⟨k+1,rfl,by omega⟩,by simp;omega⟩
    rw[if_pos (by omega),Bb hlt,Ad,Ad,Ad,Ad,gd_t (by simp;omega),Be (by omega),Br hlt,List.map_append]
    rfl
   ·right
    obtain rfl:k=l.length:=by omega
    exact ⟨_,by rw[if_neg (by omega)],by simp⟩)
  ([],0) ⟨0,by simp,by omega⟩
 have hp:(l.map prL).length<=100000000:=by simp;omega
 have:=Ajj (lt:=fun x y:Aa=>decide (cmp2 x y < 0)) (B:=Gh) (B2:=Ha (l.map prL)) (p:=l.map prL)
  (fun x y z h1 h2=>by
   simp only[decide_eq_false_iff_not,Yk] at *
   omega)
  (fun x y h=>by
   simp only[decide_eq_false_iff_not,decide_eq_true_eq,Yk] at *
   omega)
  (fun A y x R hA=>by
   obtain ⟨i0,i1⟩:=Aht A y x R
   have w1:w64 (((A.length+1:Nat):Int)-1)=((A.length:Nat):Int):=by rw[Ay (by omega) (by omega)];omega
   unfold Gh
   dsimp only
   rw[jn_d,if_pos (by omega),w1,i1,Ad,i0,Ad,Au3,Ad]
   by_cases c:decide (cmp2 x y < 0)=true
   ·have e1:(A++y::x::R).set (A.length+1) y=A++y::y::R:=by simp[List.set_append]
    have e2:(A++y::y::R).set A.length x=A++x::y::R:=by simp[List.set_append]
    have j0:∃ z,idx (A++y::y::R) ((A.length:Nat):Int)=some z:=⟨_,(Aht A y y R).1⟩
    obtain ⟨z,j0⟩:=j0
    dsimp only
    rw[if_pos c,if_pos c,Ad,Ad,Ad,Vd,e1,j0,Ad,Vd,e2]
   ·dsimp only
    rw[if_neg c,if_neg c])
  (fun x R=>by
   unfold Gh
   dsimp only
   rw[jn_d,if_neg (by omega)]
   dsimp only
   rw[if_neg (by simp)])
  hp
  (fun l k hk=>by
   unfold Ha
   dsimp only
   rw[if_pos (by omega),jn_d,show w64 ((k:Int)+1)=((k+1:Nat):Int) from by rw[Ay (by omega) (by omega)];omega])
  (fun l=>by
   unfold Ha
   dsimp only
   rw[if_neg (by omega)])
 obtain ⟨r,h1,h2,h3⟩:=this
 have e:r=Au cmp2 (l.map prL):=Ut tot2 (fun x hx=>hs x (h2.mem_iff.1 hx)) (h3.imp fun h=>by simpa using h) (Jb tot2 hs) (h2.trans (Cz _ _).symm)
 unfold Kg
 rw[jn_d,ht,Ad,hR]
 dsimp only
 rw[jn_d,h1,Ad,e]
theorem Aec (hv:Bu v) (hn:v.length<=1024) (hL:L.length<=1000000) (hLs:Lines v L) (hfl:¬ Xf v) (hM:Mesh v L m):∃ T,Cm v L=some T/\Qo v m T:=by
 unfold Cm
 rw[jn_d]
 have c:¬ v.length < 3:=fun c=>hfl fun i j k hi hj hk=>by
  unfold inN at hi hj hk
  have:i=j\/j=k\/i=k:=by omega
  rcases this with rfl | rfl | rfl
  ·exact Va _ _
  ·exact Bi _ _
  ·exact Bp _ _
 rw[if_neg (by omega)]
 obtain ⟨x,f1,f2⟩:=Anm hv hn
 rw[f1,Ad]
 dsimp only
 have hx:¬ x=true:=fun g=>hfl ((Ajk hv (by omega)).1 (f2.1 g))
 rw[if_neg hx]
 obtain ⟨f,hf,low⟩:=Ary hv hn (by omega)
 obtain ⟨b,b1,b2,b3,b4⟩:=Ao3 hv hn hf low (by omega)
 obtain ⟨e,he⟩:=Apd hv hM hf low b2 b3 b4
 obtain ⟨out,o1,o2,o3,o4⟩:=Adf hv hn hL hLs hM ⟨hf,b2,.inr ⟨e,he⟩⟩ ⟨e,he⟩
 obtain ⟨r,r1,r2,r3⟩:=Alg out (by omega)
 rw[Asi hn hf low,Ad,b1,Ad,jn_d,o1,Ad]
 dsimp only
 rw[r1,Ad]
 exact ⟨r,rfl,r3,(r2.nodup_iff).2 o2,fun t=>by rw[r2.mem_iff];exact o4 t⟩
theorem Sx (hv:Bu v) (hn:v.length<=1024) (hfl:Xf v):Cm v L=some []:=by
 unfold Cm
 rw[jn_d]
 by_cases c:v.length < 3
 ·rw[if_pos (by omega)]
  dsimp only
  rw[if_pos rfl]
 ·rw[if_neg (by omega)]
  obtain ⟨x,f1,f2⟩:=Anm hv hn
  rw[f1,Ad]
  dsimp only
  rw[if_pos (f2.2 ((Ajk hv (by omega)).2 hfl))]
theorem Wq (h:Nw v=0) (hl:l.length<=1000000) (h1:Nz v l=0) :
  ∃ T,Lm v l=some (⟨v,T,Au cmp2 (l.map prL)⟩,0)/\Cb v l=some (⟨v,T,Au cmp2 (l.map prL)⟩,0)/\Cm v (Au cmp2 (l.map prL))=some T/\((Xf v/\T=[])\/(¬ Xf v/\∃ m,Mesh v (Au cmp2 (l.map prL)) m/\Qo v m T)):=by
 obtain ⟨hn,_,hv⟩:=Qh h
 have hE:Lin1 v l/\Lin2 v l:=by
  unfold Nz at h1
  by_cases c1:Lin1 v l
  ·rw[if_pos c1] at h1
   by_cases c2:Lin2 v l
   ·exact ⟨c1,c2⟩
   ·rw[if_neg c2] at h1;cases h1
  ·rw[if_neg c1] at h1;cases h1
 have hLs:=Afz hv hE.1 hE.2
 have sm:∀ s∈l.map prL,Km s:=fun s hs=>by
  obtain ⟨⟨k1,k2,_⟩,_⟩:=hLs.ok s (Ga.2 hs)
  exact Ym hn k1 k2
 have hlen:(Au cmp2 (l.map prL)).length<=1000000:=by rw[(Cz _ _).length_eq];simp;omega
 obtain ⟨T,t1,t2⟩:=Adb h hl hE.1 hE.2
 have go:Cm v (Au cmp2 (l.map prL))=some T->Cb v l=some (⟨v,T,Au cmp2 (l.map prL)⟩,0):=fun g=>by
  unfold Cb
  rw[Aa1 hl,if_pos h,h1,Ad,if_pos rfl,jn_d,Arz v hn,Ad,Aeb hl sm]
  dsimp only
  rw[Ad,g,Ad]
 rcases t2 with ⟨f,rfl⟩ | ⟨f,m,hM,rfl⟩
 ·exact ⟨_,t1,go (Sx hv hn f),Sx hv hn f,.inl ⟨f,rfl⟩⟩
 ·obtain ⟨T',e1,e2⟩:=Aec hv hn hlen hLs f hM
  have hT:=Ar0 (v:=v) hM.map
  rw[e2.unique hT] at e1
  exact ⟨_,t1,go e1,e1,.inr ⟨f,m,hM,hT⟩⟩
theorem Aed (hl:l.length<=1000000) (h:Nw v=0) (h1:Nz v l≠0):Cb v l=some (⟨[],[],[]⟩,Nz v l):=by
 unfold Cb
 rw[Aa1 hl,if_pos h,Ad,if_neg h1]
end
end Go.Proofs.YtjfndjmabhbicaaGreat
