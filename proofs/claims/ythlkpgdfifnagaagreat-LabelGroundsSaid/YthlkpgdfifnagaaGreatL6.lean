import Derived.Test.YthlkpgdfifnagaaGreatK10
namespace Go.Proofs.YthlkpgdfifnagaaGreat
open Go Go.RowKit List
variable {P:Int->Ab} {S:Int->Prop} {ap:Ap} {p:Int} {n:Nat}
theorem Aut{V:Int->Prop}(h:∀ i j,ap i j=none):Tri P V ap :=
 ⟨fun i j k hk=>(by rw[h] at hk;cases hk),fun i j k hk=>(by rw[h] at hk;cases hk),fun i j k hk=>(by rw[h] at hk;cases hk),fun s a b m hk=>(by rw[h] at hk;cases hk)⟩
def Ao9(u:Nat->Int)(m:Nat)(x y:Int):Prop:=∃ i,i+1<m/\x=u i/\y=u (i+1)
theorem Aj6{u:Nat->Int}{m:Nat}(he:∀ i j,ap i j=none)(hS:∀ i,S i↔∃ k,k<m/\i=u k)(col:∀ a b c,S a->S b->S c->crs (P a) (P b) (P c)=0)(inc:∀ i,i+1<m->0<crs (P (u i)) (P (u (i+1))) (P p))(sv:∀ i,S i->inN n i)(vp:inN n p)(np:¬ S p)(before:∀ i,S i->befP (P i) (P p))(behind:∀ i,inN n i->¬ S i->i≠p->befP (P p) (P i)):Adds P (inN n) S ap (Ao9 u m) p:=by
 have su:∀ k,k<m->S (u k):=fun k hk=>(hS _).2 ⟨k,hk,rfl⟩
 have hg:∀ a b,S a->S b->0<m->crs (P a) (P b) (P p)=crs (P (u 0)) (P b) (P p)-crs (P (u 0)) (P a) (P p):=fun a b ha hb hm=>by
  have e:=Aah (P (u 0)) (P a) (P b) (P p);rw[col _ _ _ (su 0 hm) ha hb] at e;have e2:crs (P b) (P (u 0)) (P p) = -crs (P (u 0)) (P b) (P p):=Cu _ _ _;omega
 have mono:∀ i j,i<j->j<m->crs (P (u 0)) (P (u i)) (P p)<crs (P (u 0)) (P (u j)) (P p):=by
  intro i j hij
  induction j with
  | zero=>omega
  | succ j ih=>
   intro hj;have h1:=inc j hj;rw[hg _ _ (su j oo) (su (j+1) hj) oo] at h1
   by_cases e:i=j
   ·subst e;omega
   ·have:=ih oo oo;omega
 refine⟨Aut he,fun i j k hk=>(by rw[he] at hk;cases hk),sv,vp,np,before,behind,?_,?_,?_,fun x y _=>he x y,?_,fun i j k hk=>(by rw[he] at hk;cases hk)⟩
 ·rintro x y ⟨i,hi,rfl,rfl⟩;refine⟨su i oo,su (i+1) hi,?_,fun d hd=>by rw[col _ _ _ (su i oo) (su (i+1) hi) hd];exact Int.le_refl _⟩;exact (Aa4 (P:=P) (c:=p) (by have:=inc i hi;omega)).1
 ·rintro x y ⟨⟨i,hi,rfl,rfl⟩,hp⟩ d hd n1 n2 _;obtain⟨j,hj,rfl⟩:=(hS d).1 hd;have e1:crs (P (u (i+1))) (P p) (P (u j))=crs (P (u j)) (P (u (i+1))) (P p):=Cf _ _ _;have e2:crs (P p) (P (u i)) (P (u j))=crs (P (u i)) (P (u j)) (P p):=by rw[<- Cf,<- Cf]
  rw[e1,e2,hg _ _ hd (su (i+1) hi) oo,hg _ _ (su i oo) hd oo];have nij:j≠i:=fun e=>n1 (by rw[e])
  have nij':j≠i+1:=fun e=>n2 (by rw[e])
  rcases Nat.lt_or_ge j i with c | c
  ·have:=mono j i c oo;right;omega
  ·have:=mono (i+1) j oo hj;left;omega
 ·rintro x y ⟨⟨i,hi,rfl,rfl⟩,hp⟩;constructor
  ·by_cases c:i+2<m
   ·exact .inl ⟨u (i+2),⟨i+1,c,rfl,rfl⟩,inc (i+1) c⟩
   ·right;intro d hd;obtain⟨j,hj,rfl⟩:=(hS d).1 hd;have e1:crs (P (u (i+1))) (P p) (P (u j))=crs (P (u j)) (P (u (i+1))) (P p):=Cf _ _ _;rw[e1,hg _ _ hd (su (i+1) hi) oo]
    by_cases e:j=i+1
    ·subst e;omega
    ·have:=mono j (i+1) oo hi;omega
  ·by_cases c:0<i
   ·left;obtain⟨i',rfl⟩:∃ i',i=i' + 1:=⟨i-1,oo⟩;exact⟨u i',⟨i',oo,rfl,rfl⟩,inc i' oo⟩
   ·right;intro d hd;obtain⟨j,hj,rfl⟩:=(hS d).1 hd;have e2:crs (P p) (P (u i)) (P (u j))=crs (P (u i)) (P (u j)) (P p):=by rw[<- Cf,<- Cf]
    rw[e2,hg _ _ (su i oo) hd oo]
    by_cases e:j=i
    ·subst e;omega
    ·have:=mono i j oo hj;omega
 ·rintro x y ⟨⟨i,hi,rfl,rfl⟩,hp⟩;exact .inr ⟨he,fun d hd=>by rw[col _ _ _ (su i oo) (su (i+1) hi) hd];exact Int.le_refl _⟩
theorem Auu{a b c q:Ab}(h1:befP a b)(h2:befP b c)(h0:crs a b c=0)(hq:0<crs a b q):0<crs b c q:=by
 have e1:crs b c q*(b.X-a.X)=crs a b q*(c.X-b.X)-(q.X-b.X)*crs a b c:=by unfold crs;grind
 have e2:crs b c q*(b.Y-a.Y)=crs a b q*(c.Y-b.Y)-(q.Y-b.Y)*crs a b c:=by unfold crs;grind
 have e3:(b.X-a.X)*(c.Y-b.Y)-(b.Y-a.Y)*(c.X-b.X)=crs a b c:=by unfold crs;grind
 rw[h0,Int.mul_zero,Int.sub_zero] at e1 e2;rw[h0] at e3
 by_cases g:a.X<b.X
 ·-- then c lies further to the right
  have hc:b.X<c.X:=by
   rcases Int.lt_or_le b.X c.X with k | k
   ·exact k
   ·have hx:c.X=b.X:=by unfold befP at h2;omega
    have hy:b.Y<c.Y:=by unfold befP at h2;omega
    have z:c.X-b.X=0:=oo;rw[z,Int.mul_zero] at e3;have:=Int.mul_pos (show 0<b.X-a.X by omega) (show 0<c.Y-b.Y by omega);omega
  have:=Int.mul_pos hq (show 0<c.X-b.X by omega);exact Uc (x:=b.X-a.X) (by rw[Int.mul_comm];omega) oo
 ·have hx:a.X=b.X:=by unfold befP at h1;omega
  have hy:a.Y<b.Y:=by unfold befP at h1;omega
  have hc:b.X=c.X:=by
   have z:b.X-a.X=0:=oo;rw[z,Int.zero_mul] at e3;have:(b.Y-a.Y)*(c.X-b.X)=0:=oo;rcases Int.mul_eq_zero.1 this with k | k <;> omega
  have hy2:b.Y<c.Y:=by unfold befP at h2;omega
  have:=Int.mul_pos hq (show 0<c.Y-b.Y by omega);exact Uc (x:=b.Y-a.Y) (by rw[Int.mul_comm];omega) oo
theorem Af4{a b u w z:Ab}(hab:¬ De a b)(h1:crs a b u=0)(h2:crs a b w=0)(h3:crs a b z=0):crs u w z=0:=by
 have e1:(b.X-a.X)*crs u w z=(w.X-u.X)*(crs a b z-crs a b u)-(z.X-u.X)*(crs a b w-crs a b u):=by unfold crs;grind
 have e2:(b.Y-a.Y)*crs u w z=(w.Y-u.Y)*(crs a b z-crs a b u)-(z.Y-u.Y)*(crs a b w-crs a b u):=by unfold crs;grind
 rw[h1,h2,h3] at e1 e2;simp only[Int.sub_self,Int.mul_zero] at e1 e2;rcases Int.mul_eq_zero.1 e1 with g | g
 ·rcases Int.mul_eq_zero.1 e2 with g' | g'
  ·exact absurd ⟨oo,oo⟩ hab
  ·exact g'
 ·exact g
end Go.Proofs.YthlkpgdfifnagaaGreat
namespace Go.Proofs.YthlkpgdfifnagaaGreat
open Go Go.RowKit Go.Shelf Go.Sort List
theorem Kj{α:Type}(cf:α->α->Int)(l:List α):(Bi cf l).Perm l:=mergeSort_perm _ _
theorem Ta{α:Type}{p:α->Prop}{cf:α->α->Int}(hT:Aat p cf){l:List α}(hp:∀ x∈l,p x):(Bi cf l).Pairwise fun x y=>¬ cf y x<0:=by
 obtain⟨l',rfl⟩:∃ l':List {x // p x},l=l'.map Subtype.val:=⟨l.attach.map fun x=>⟨x.1,hp x.1 x.2⟩,by simp only[map_map,Function.comp_def];exact (attach_map_subtype_val _).symm⟩;rw[Afa,pairwise_map];have:=pairwise_mergeSort (le:=fun x y:{x // p x}=>!(ltOf fun x y:{x // p x}=>cf x.1 y.1) y x)
  (fun a b c h1 h2=>by
   simp only[Bool.not_eq_true',Wj] at *;intro h3
   by_cases h4:cf b.1 a.1<0
   ·exact h1 h4
   ·by_cases h5:cf c.1 b.1<0
    ·exact h2 h5
    ·by_cases h6:cf a.1 b.1<0
     ·exact h2 (hT.trans _ _ _ c.2 a.2 b.2 h3 h6)
     ·have:=hT.tot _ _ a.2 b.2 h6 h4;rw[this] at h3;exact h2 h3)
  (fun a b=>by
   by_cases h1:cf b.1 a.1<0
   ·have:¬ cf a.1 b.1<0:=fun h2=>hT.irr _ a.2 (hT.trans _ _ _ a.2 b.2 a.2 h2 h1)
    rw[Bool.or_eq_true];right;rw[Bool.not_eq_true'];exact Wj.2 this
   ·rw[Bool.or_eq_true];left;rw[Bool.not_eq_true'];exact Wj.2 h1) l'
 exact this.imp fun h=>by simpa[Wj] using h
theorem Agz{α:Type}{p:α->Prop}{cf:α->α->Int}(hT:Aat p cf){l l':List α}(hp:∀ x∈l,p x)(hl:l.Pairwise fun x y=>¬ cf y x<0)(hl':l'.Pairwise fun x y=>¬ cf y x<0)(h:l.Perm l'):l=l' :=
 List.Perm.eq_of_pairwise (fun a b ha hb h1 h2=>hT.tot a b (hp a ha) (hp b (h.mem_iff.2 hb)) h2 h1) hl hl' h
theorem Xg{α:Type}{p:α->Prop}{cf:α->α->Int}(hT:Aat p cf){l l':List α}(hp:∀ x∈l,p x)(h:l.Perm l'):Bi cf l=Bi cf l':=by
 have hp':∀ x∈l',p x:=fun x hx=>hp x (h.mem_iff.2 hx)
 refine Agz hT (fun x hx=>hp x ((Kj cf l).mem_iff.1 hx)) (Ta hT hp) (Ta hT hp') (((Kj cf l).trans h).trans (Kj cf l').symm)
theorem Oa{α:Type}{cf:α->α->Int}{l:List α}{x:α}:x∈Bi cf l↔x∈l:=(Kj cf l).mem_iff
theorem Ag0{κ υ:Type}{m:List (κ × υ)}(hm:Do m){q:κ × υ}(hq:q∈m):m.Perm (q::mdel m q.1):=by
 induction m with
 | nil=>cases hq
 | cons a r ih=>
  obtain⟨h1,h2⟩:=pairwise_cons.1 hm;unfold mdel;rcases mem_cons.1 hq with rfl | hq
  ·rw[filter_cons_of_neg (by simp),filter_eq_self.2 (fun p hp=>by simp only[decide_eq_true_eq];exact fun e=>h1 p hp e.symm)]
  ·rw[filter_cons_of_pos (by simp only[decide_eq_true_eq];exact h1 q hq)];exact ((ih h2 hq).cons a).trans (List.Perm.swap _ _ _)
theorem Ag1{κ υ β ρ:Type}{BN:List β->Option (Sum (List β) (List β))}{BS:List β->κ × υ->Option (Sum (List β) (List β))}{m:List (κ × υ)}(hm:Do m)(f:κ × υ->List β)(hf:∀ q,(f q).length<=1)(hN:∀ s,BN s=some (.inr s))(hS:∀ s,∀ q∈m,s.length<m.length->BS s q=some (.inl (s++f q))){k:List β->Option ρ}{r:ρ}(hk:∀ l,l.Perm (m.flatMap f)->k l=some r):Al6 BN BS m [] k=some r:=by
 have key:∀ (n:Nat) (l:List (κ × υ)) (s:List β),l.length=n->Do l->(∀ q∈l,q∈m)->s.length+l.length<=m.length->(∀ q:List (κ × υ),q.Perm l->k (s++q.flatMap f)=some r)->MR (mkN BN k) (mkS BS k) l s r:=by
  intro n
  induction n with
  | zero=>
   intro l s hn _ _ _ hk;have:l=[]:=eq_nil_of_length_eq_zero hn;subst this;refine .nil ?_;have:=hk [] (List.Perm.refl _);rw[flatMap_nil,append_nil] at this;unfold mkN;rw[hN];simp only[this]
  | succ n ih=>
   intro l s hn hl hs hlen hk;have hb:∀ q∈l,mkS BS k s q=some (.inl (s++f q)):=fun q hq=>by
    unfold mkS mkN;simp only[hS s q (hs q hq) oo]
   refine .cons (fun e=>by subst e;simp at hn) (fun q hq=>by rw[hb q hq];rfl) (fun q hq t' e=>by rw[hb q hq] at e;cases e) (fun q hq s' e=>?_);rw[hb q hq] at e;cases e
   have hp:=Ag0 hl hq;have hlen2:=hp.length_eq;rw[length_cons] at hlen2;refine ih (mdel l q.1) (s++f q) oo (hl.del _) (fun x hx=>hs x (Om.1 hx).1) (by rw[length_append];have:=hf q;omega) (fun w hw=>?_);rw[append_assoc,<- flatMap_cons];exact hk _ ((hw.cons q).trans hp.symm)
 refine Atg (key m.length m [] rfl hm (fun _ h=>h) (by simp) fun q hq=>?_);rw[nil_append];exact hk _ (List.Perm.flatMap_right f hq)
abbrev Mp:=List (Ac × Int)
structure MapN(n:Nat)(m:Mp):Prop where
 ok:Do m
 key:∀ q∈m,inN n q.1.a0/\inN n q.1.a1/\inN n q.2
theorem MapN.len{n:Nat}{m:Mp}(h:MapN n m):m.length<=n*n:=by
 have h1:(m.map fun q=>(q.1.a0.toNat*n+q.1.a1.toNat)).Nodup:=by
  unfold List.Nodup;rw[pairwise_map];refine List.Pairwise.imp_of_mem ?_ h.ok;intro a b ha hb hne e;obtain⟨⟨a1,a2⟩,⟨a3,a4⟩,_⟩:=h.key a ha;obtain⟨⟨b1,b2⟩,⟨b3,b4⟩,_⟩:=h.key b hb;have e1:a.1.a1.toNat=b.1.a1.toNat:=by
   have:=congrArg (· % n) e;simp only[Nat.mul_add_mod_self_right] at this
   rwa [Nat.mod_eq_of_lt oo,Nat.mod_eq_of_lt oo] at this
  have e2:a.1.a0.toNat=b.1.a0.toNat:=by
   rw[e1] at e;have e':a.1.a0.toNat*n=b.1.a0.toNat*n:=oo;exact Nat.eq_of_mul_eq_mul_right oo e'
  apply hne;obtain⟨⟨x,y⟩,c⟩:=a;obtain⟨⟨x',y'⟩,c'⟩:=b;simp only at *;rw[show x=x' by omega,show y=y' by omega]
 have:=Bz (m:=List.range (n*n)) h1 fun x hx=>by
  obtain⟨q,hq,rfl⟩:=mem_map.1 hx;obtain⟨⟨a1,a2⟩,⟨a3,a4⟩,_⟩:=h.key q hq;rw[mem_range];have h3:q.1.a0.toNat+1<=n:=oo;have:=Nat.mul_le_mul_right n h3;rw[Nat.add_mul] at this;omega
 rwa [length_map,length_range] at this
def rev2(k:Ac):Ac:=⟨k.a1,k.a0⟩
noncomputable def rimF(m:Mp)(q:Ac × Int):List Ac:=if (mget m (rev2 q.1)).isSome=true then [] else [rev2 q.1]
noncomputable def Yl(m:Mp)(q:Ac × Int):List Ac:=if q.1.a0<q.1.a1\/(mget m (rev2 q.1)).isSome=false then [⟨min q.1.a0 q.1.a1,max q.1.a0 q.1.a1⟩] else []
def triF(q:Ac × Int):List Aj:=if q.1.a0<q.1.a1/\q.1.a0<q.2 then [⟨q.1.a0,q.1.a1,q.2⟩] else []
theorem Auv{n:Nat}(hn:n<=1024){k:Ac}(h1:inN n k.a0)(h2:inN n k.a1):Sr k:=by
 unfold inN at h1 h2;exact⟨⟨oo,oo⟩,oo,oo⟩
theorem Ut{n:Nat}(hn:n<=1024){i j:Int}(h1:inN n i)(h2:inN n j):(-9223372036854775808<=i/\i<=9223372036854775807)/\-9223372036854775808<=j/\j<=9223372036854775807:=by
 unfold inN at h1 h2;exact⟨⟨oo,oo⟩,oo,oo⟩
theorem Aho{n:Nat}(hn:n<=1024):n*n<=1048576:=Nat.mul_le_mul hn hn
theorem Oz{α β:Type}{f:α->List β}(hf:∀ q,(f q).length<=1):∀ l:List α,(l.flatMap f).length<=l.length
 | []=>by simp
 | a::r=>by
  rw[flatMap_cons,length_append,length_cons];have:=hf a;have:=Oz hf r;omega
theorem Bei{n:Nat}(hn:n<=1024){b:Am}(hm:MapN n b.apex):Hy b=some (b,Bi cmp2 (b.apex.flatMap (rimF b.apex))):=by
 have hl:=hm.len;have hsq:=Aho hn;have hf:∀ q,(rimF b.apex q).length<=1:=fun q=>by unfold rimF;split <;> simp
 have hsm:∀ x∈b.apex.flatMap (rimF b.apex),Sr x:=fun x hx=>by
  obtain⟨q,hq,hx⟩:=mem_flatMap.1 hx;unfold rimF at hx;split at hx
  ·cases hx
  ·rw[mem_singleton] at hx;subst hx;exact Auv hn (hm.key q hq).2.1 (hm.key q hq).1
 unfold Hy;rw[jn_d];refine Ag1 hm.ok (rimF b.apex) hf (fun s=>rfl) (fun s q hq hs=>?_) (fun l hp=>?_)
 ·obtain⟨k1,k2,k3⟩:=hm.key q hq;unfold Rn;rw[gd_t (Ut hn k2 k1),Ae];unfold rimF rev2
  by_cases c:(mget b.apex (⟨q.1.a1,q.1.a0⟩:Ac)).isSome=true
  ·rw[if_pos c,if_pos c,append_nil]
  ·rw[if_neg c,if_neg c,gd_t oo]
 ·have hlen:=hp.length_eq;have hfl:=Oz hf b.apex;dsimp only;rw[gd_t ⟨oo,fun x hx=>hsm x (hp.mem_iff.1 hx)⟩,Xg tot2 (fun x hx=>hsm x (hp.mem_iff.1 hx)) hp]
theorem Ay0{n:Nat}(hn:n<=1024){b:Am}(hm:MapN n b.apex):Hz b=some (b,Bi cmp2 (b.apex.flatMap (Yl b.apex))):=by
 have hl:=hm.len;have hsq:=Aho hn;have hf:∀ q,(Yl b.apex q).length<=1:=fun q=>by unfold Yl;split <;> simp
 have hsm:∀ x∈b.apex.flatMap (Yl b.apex),Sr x:=fun x hx=>by
  obtain⟨q,hq,hx⟩:=mem_flatMap.1 hx;obtain⟨k1,k2,k3⟩:=hm.key q hq;unfold Yl at hx;split at hx
  ·rw[mem_singleton] at hx;subst hx;unfold inN at k1 k2;exact⟨⟨by simp only;omega,by simp only;omega⟩,by simp only;omega,by simp only;omega⟩
  ·cases hx
 unfold Hz;rw[jn_d];refine Ag1 hm.ok (Yl b.apex) hf (fun s=>rfl) (fun s q hq hs=>?_) (fun l hp=>?_)
 ·obtain⟨k1,k2,k3⟩:=hm.key q hq;unfold Pr;rw[gd_t (Ut hn k2 k1),Ae,jn_d];unfold Yl rev2
  by_cases c:q.1.a0<q.1.a1
  ·rw[if_pos c,if_pos (.inl c)];dsimp only;rw[if_pos rfl];unfold Qs;rw[Ae,gd_t oo]
  ·rw[if_neg c]
   by_cases d:(mget b.apex (⟨q.1.a1,q.1.a0⟩:Ac)).isSome=true
   ·rw[d,if_neg (by simp;omega),append_nil];rfl
   ·rw[Bool.not_eq_true] at d;rw[d,if_pos (.inr rfl)];dsimp only;rw[Bool.not_false,if_pos rfl];unfold Qs;rw[Ae,gd_t oo]
 ·have hlen:=hp.length_eq;have hfl:=Oz hf b.apex;dsimp only;rw[gd_t ⟨oo,fun x hx=>hsm x (hp.mem_iff.1 hx)⟩,Xg tot2 (fun x hx=>hsm x (hp.mem_iff.1 hx)) hp]
theorem Af5{n:Nat}(hn:n<=1024){b:Am}(hm:MapN n b.apex):Ep b=some (b,Bi cmp3 (b.apex.flatMap triF)):=by
 have hl:=hm.len;have hsq:=Aho hn;have hf:∀ q,(triF q).length<=1:=fun q=>by unfold triF;split <;> simp
 unfold Ep;rw[jn_d];refine Ag1 hm.ok triF hf (fun s=>rfl) (fun s q hq hs=>?_) (fun l hp=>?_)
 ·unfold Lg;rw[jn_d];unfold triF
  by_cases c:q.1.a0<q.1.a1
  ·rw[if_pos c]
   by_cases d:q.1.a0<q.2
   ·rw[decide_eq_true d,if_pos ⟨c,d⟩];dsimp only;rw[if_pos rfl,gd_t oo]
   ·rw[decide_eq_false d,if_neg (by simp[d]),append_nil];rfl
  ·rw[if_neg c,if_neg (by simp[c]),append_nil];rfl
 ·have hlen:=hp.length_eq;have hfl:=Oz hf b.apex;dsimp only;rw[gd_t ⟨oo,fun x _=>trivial⟩,Xg tot3 (fun x _=>trivial) hp]
theorem Aq5{κ υ β ρ:Type}{BN:List β->Option (Sum (List β) (List β))}{BS:List β->κ × υ->Option (Sum (List β) (List β))}{m:List (κ × υ)}(hm:Do m)(s0:List β)(f:κ × υ->List β)(hf:∀ q,(f q).length<=1)(hN:∀ s,BN s=some (.inr s))(hS:∀ s,∀ q∈m,s.length<s0.length+m.length->BS s q=some (.inl (s++f q))){k:List β->Option ρ}{r:ρ}(hk:∀ l,l.Perm (m.flatMap f)->k (s0++l)=some r):Al6 BN BS m s0 k=some r:=by
 have key:∀ (n:Nat) (l:List (κ × υ)) (s:List β),l.length=n->Do l->(∀ q∈l,q∈m)->s.length+l.length<=s0.length+m.length->(∀ q:List (κ × υ),q.Perm l->k (s++q.flatMap f)=some r)->MR (mkN BN k) (mkS BS k) l s r:=by
  intro n
  induction n with
  | zero=>
   intro l s hn _ _ _ hk;have:l=[]:=eq_nil_of_length_eq_zero hn;subst this;refine .nil ?_;have:=hk [] (List.Perm.refl _);rw[flatMap_nil,append_nil] at this;unfold mkN;rw[hN];simp only[this]
  | succ n ih=>
   intro l s hn hl hs hlen hk;have hb:∀ q∈l,mkS BS k s q=some (.inl (s++f q)):=fun q hq=>by
    unfold mkS mkN;simp only[hS s q (hs q hq) oo]
   refine .cons (fun e=>by subst e;simp at hn) (fun q hq=>by rw[hb q hq];rfl) (fun q hq t' e=>by rw[hb q hq] at e;cases e) (fun q hq s' e=>?_);rw[hb q hq] at e;cases e
   have hp:=Ag0 hl hq;have hlen2:=hp.length_eq;rw[length_cons] at hlen2;refine ih (mdel l q.1) (s++f q) oo (hl.del _) (fun x hx=>hs x (Om.1 hx).1) (by rw[length_append];have:=hf q;omega) (fun w hw=>?_);rw[append_assoc,<- flatMap_cons];exact hk _ ((hw.cons q).trans hp.symm)
 refine Atg (key m.length m s0 rfl hm (fun _ h=>h) oo fun q hq=>?_);exact hk _ (List.Perm.flatMap_right f hq)
abbrev FitF:=Aa->Int × Bool × Int
noncomputable def Tb(g:List Int)(F:FitF)(b:List (Int × Ay))(p:Aa):List (Int × Ay):=
 if p.Id∈g\/(F p).2.1=false then b else
 match mget b (F p).1 with
 | none=>mput b (F p).1 ⟨p,(F p).2.2⟩
 | some o=>if (F p).2.2<o.far\/(F p).2.2=o.far/\X.lowB p o.p=true then mput b (F p).1 ⟨p,(F p).2.2⟩ else b
noncomputable def Zi(g:List Int)(F:FitF)(C:List Aa):List (Int × Ay):=C.foldl (Tb g F) []
def btr(f:Int)(p:Aa)(o:Ay):Prop:=f<o.far\/f=o.far/\X.lowB p o.p=true
theorem Bbb(f:Int)(p:Aa):¬ btr f p ⟨p,f⟩:=by
 rintro (h | ⟨_,h⟩)
 ·exact Int.lt_irrefl _ h
 ·rw[X.lowB_irrefl] at h;cases h
theorem Auw{f f':Int}{p q:Aa}{o:Ay}(h:btr f p ⟨q,f'⟩)(h':btr f' q o):btr f p o:=by
 unfold btr at *;dsimp only at h;rcases h with h | ⟨h,g⟩ <;> rcases h' with h' | ⟨h',g'⟩
 ·exact .inl oo
 ·exact .inl oo
 ·exact .inl oo
 ·exact .inr ⟨oo,X.lowB_trans g g'⟩
structure Zt(g:List Int)(F:FitF)(C:List Aa)(b:List (Int × Ay)):Prop where
 map:Do b
 src:∀ q∈b,q.2.p∈C/\q.2.p.Id ∉ g/\F q.2.p=(q.1,true,q.2.far)
 all:∀ p∈C,p.Id ∉ g->(F p).2.1=true->∃ o,mget b (F p).1=some o/\¬ btr (F p).2.2 p o
theorem Zt.nil(g:List Int)(F:FitF):Zt g F [] []:=⟨List.Pairwise.nil,fun q hq=>(by cases hq),fun p hp=>(by cases hp)⟩
theorem Zt.step{g:List Int}{F:FitF}{C:List Aa}{b:List (Int × Ay)}(h:Zt g F C b)(p:Aa):Zt g F (C++[p]) (Tb g F b p):=by
 unfold Tb
 by_cases c:p.Id∈g\/(F p).2.1=false
 ·rw[if_pos c];refine⟨h.map,fun q hq=>⟨mem_append_left _ (h.src q hq).1,(h.src q hq).2⟩,fun x hx hg hf=>?_⟩;rcases mem_append.1 hx with hx | hx
  ·exact h.all x hx hg hf
  ·rw[mem_singleton.1 hx] at hg hf;rcases c with c | c
   ·exact absurd c hg
   ·rw[c] at hf;cases hf
 ·rw[if_neg c];have hg:p.Id ∉ g:=fun e=>c (.inl e)
  have hf:(F p).2.1=true:=by
   cases e:(F p).2.1 with
   | true=>rfl
   | false=>exact absurd (.inr e) c
  have put:(∀ o,mget b (F p).1=some o->btr (F p).2.2 p o)->Zt g F (C++[p]) (mput b (F p).1 ⟨p,(F p).2.2⟩):=fun hn=>by
   refine⟨h.map.put _ _,fun q hq=>?_,fun x hx hxg hxf=>?_⟩
   ·rcases mem_cons.1 hq with rfl | hq
    ·exact⟨mem_append_right _ (mem_singleton.2 rfl),hg,by dsimp only;rw[<- hf]⟩
    ·have:=h.src q (Om.1 hq).1;exact⟨mem_append_left _ this.1,this.2⟩
   ·rw[Nc h.map]
    by_cases e:(F x).1=(F p).1
    ·rw[if_pos e];refine⟨_,rfl,?_⟩;rcases mem_append.1 hx with hx | hx
     ·obtain⟨o,ho,hb⟩:=h.all x hx hxg hxf;rw[e] at ho;exact fun g'=>hb (Auw g' (hn o ho))
     ·rw[mem_singleton.1 hx];exact Bbb _ _
    ·rw[if_neg e];rcases mem_append.1 hx with hx | hx
     ·exact h.all x hx hxg hxf
     ·exact absurd (by rw[mem_singleton.1 hx]) e
  cases hm:mget b (F p).1 with
  | none=>exact put fun o ho=>by rw[hm] at ho;cases ho
  | some o=>
   dsimp only
   by_cases cb:(F p).2.2<o.far\/(F p).2.2=o.far/\X.lowB p o.p=true
   ·rw[if_pos cb];exact put fun o' ho=>by rw[hm] at ho;cases ho;exact cb
   ·rw[if_neg cb];refine⟨h.map,fun q hq=>⟨mem_append_left _ (h.src q hq).1,(h.src q hq).2⟩,fun x hx hxg hxf=>?_⟩;rcases mem_append.1 hx with hx | hx
    ·exact h.all x hx hxg hxf
    ·rw[mem_singleton.1 hx];exact⟨o,hm,cb⟩
theorem Aew{g:List Int}{F:FitF}{C:List Aa}(k:Nat):Zt g F (C.take k) ((C.take k).foldl (Tb g F) []):=by
 induction k with
 | zero=>exact Zt.nil g F
 | succ k ih=>
  by_cases hk:k<C.length
  ·rw[take_succ_eq_append_getElem hk,foldl_append];exact ih.step C[k]
  ·rw[take_of_length_le oo];rw[take_of_length_le oo] at ih;exact ih
theorem Aan(g:List Int)(F:FitF)(C:List Aa):Zt g F C (Zi g F C):=by
 have:=Aew (g:=g) (F:=F) (C:=C) C.length
 rwa [take_length] at this
noncomputable def adds(g:List Int)(F:FitF)(C:List Aa):List Int:=(Zi g F C).map (·.2.p.Id)
noncomputable def Nm(g:List Int)(F:FitF)(C:List Aa):List Int:=Ej (g++adds g F C)
section
variable {g:List Int} {F:FitF} {C:List Aa}
theorem Apa{i:Int}(h:i∈adds g F C):i ∉ g/\∃ p∈C,p.Id=i:=by
 obtain⟨q,hq,rfl⟩:=mem_map.1 h;obtain⟨h1,h2,_⟩:=(Aan g F C).src q hq;exact⟨h2,_,h1,rfl⟩
theorem Aex(hC:(C.map (·.Id)).Nodup):(adds g F C).Nodup:=by
 unfold adds List.Nodup;rw[pairwise_map];have hb:=Aan g F C;refine List.Pairwise.imp_of_mem ?_ hb.map;intro q q' hq hq' hne e;obtain⟨h1,_,h2⟩:=hb.src q hq;obtain⟨h3,_,h4⟩:=hb.src q' hq';rw[X.id_inj hC h1 h3 e,h4] at h2;exact hne (Prod.mk.inj h2).1.symm
theorem Aey:(Nm g F C).Perm (g++adds g F C):=X.perm_sortI _
theorem Al0:(Nm g F C).length=g.length+(Zi g F C).length:=by
 rw[Aey.length_eq,length_append,adds,length_map]
theorem Anh:(Nm g F C).Pairwise (·<=·):=X.sorted_sortI _
theorem Apb(hg:g.Nodup)(hC:(C.map (·.Id)).Nodup):(Nm g F C).Nodup:=by
 rw[Aey.nodup_iff,nodup_append];exact⟨hg,Aex hC,fun a ha b hb e=>(Apa hb).1 (e ▸ ha)⟩
theorem Aux(hg:∀ i∈g,∃ p∈C,p.Id=i){i:Int}(h:i∈Nm g F C):∃ p∈C,p.Id=i:=by
 rcases mem_append.1 (Aey.mem_iff.1 h) with h | h
 ·exact hg i h
 ·exact (Apa h).2
end
end Go.Proofs.YthlkpgdfifnagaaGreat
namespace Go.Proofs.YthlkpgdfifnagaaGreat.X
open Go Go.RowKit List
def cr(a b c:Ab):Int:=(b.X-a.X)*(c.Y-a.Y)-(b.Y-a.Y)*(c.X-a.X)
theorem Aj7{p:Ab}(h:okXY p=true):-268435456<=p.X/\p.X<=268435456/\-268435456<=p.Y/\p.Y<=268435456:=by
 simpa only[okXY,decide_eq_true_eq] using h
theorem As3{a b:Int}{m:Int}(ha:-m<=a/\a<=m)(hb:-m<=b/\b<=m):-(m*m)<=a*b/\a*b<=m*m:=by
 have hm:0<=m:=oo;rcases Int.le_total 0 a with h | h <;> rcases Int.le_total 0 b with k | k
 ·have h1:=Int.mul_le_mul ha.2 hb.2 k hm;have h2:=Int.mul_nonneg h k;omega
 ·have h1:=Int.mul_le_mul (a:=a) (b:=-b) (c:=m) (d:=m) ha.2 oo oo hm;have h2:=Int.mul_nonneg (a:=a) (b:=-b) h oo;rw[Int.mul_neg] at h1 h2;omega
 ·have h1:=Int.mul_le_mul (a:=-a) (b:=b) (c:=m) (d:=m) oo hb.2 k hm;have h2:=Int.mul_nonneg (a:=-a) (b:=b) oo k;rw[Int.neg_mul] at h1 h2;omega
 ·have h1:=Int.mul_le_mul (a:=-a) (b:=-b) (c:=m) (d:=m) oo oo oo hm;have h2:=Int.mul_nonneg (a:=-a) (b:=-b) oo oo;rw[Int.neg_mul_neg] at h1 h2;omega
theorem cr_w{a b c:Ab}(ha:okXY a=true)(hb:okXY b=true)(hc:okXY c=true):
  w64 ((w64 ((w64 (b.X-a.X))*(w64 (c.Y-a.Y))))-(w64 ((w64 (b.Y-a.Y))*(w64 (c.X-a.X)))))=cr a b c:=by
 have h1:=Aj7 ha;have h2:=Aj7 hb;have h3:=Aj7 hc;rw[Av (x:=b.X-a.X) oo oo,Av (x:=c.Y-a.Y) oo oo,Av (x:=b.Y-a.Y) oo oo,Av (x:=c.X-a.X) oo oo];have e1:=As3 (a:=b.X-a.X) (b:=c.Y-a.Y) (m:=536870912) oo oo;have e2:=As3 (a:=b.Y-a.Y) (b:=c.X-a.X) (m:=536870912) oo oo;rw[Av (x:=(b.X-a.X)*(c.Y-a.Y)) oo oo,Av (x:=(b.Y-a.Y)*(c.X-a.X)) oo oo,Av oo oo];rfl
theorem Bbc(a b c:Ab):cr b a c = -cr a b c:=by unfold cr;grind
theorem turn_eq{a b c:Ab}(ha:okXY a=true)(hb:okXY b=true)(hc:okXY c=true):Tt a b c=some (Int.sign (cr a b c)):=by
 simp only[Tt,cr_w ha hb hc];rcases Int.lt_trichotomy (cr a b c) 0 with h | h | h
 ·rw[if_neg oo,if_pos h,Int.sign_eq_neg_one_of_neg h]
 ·rw[h];rfl
 ·rw[if_pos h,Int.sign_eq_one_of_pos h]
def onB(c:Ab)(s:Ab × Ab):Bool:=decide (cr s.1 s.2 c=0/\min s.1.X s.2.X<=c.X/\c.X<=max s.1.X s.2.X/\min s.1.Y s.2.Y<=c.Y/\c.Y<=max s.1.Y s.2.Y)
def croB(c:Ab)(s:Ab × Ab):Bool:=decide ((s.1.Y<=c.Y/\c.Y<s.2.Y/\0<cr s.1 s.2 c)\/(c.Y<s.1.Y/\s.2.Y<=c.Y/\cr s.1 s.2 c<0))
theorem sign_pos{x:Int}:0<Int.sign x↔0<x:=by
 rcases Int.lt_trichotomy x 0 with h | h | h
 ·rw[Int.sign_eq_neg_one_of_neg h];omega
 ·rw[h];simp
 ·rw[Int.sign_eq_one_of_pos h];omega
theorem sign_zero{x:Int}:Int.sign x=0↔x=0:=Int.sign_eq_zero_iff_zero
theorem Bff{a b c:Ab}(ha:okXY a=true)(hb:okXY b=true)(hc:okXY c=true):Acr a b c=some (onB c (a,b)):=by
 simp only[Acr,jn_d,turn_eq ha hb hc,Ae,Xk,sign_zero,onB,decide_eq_true_eq]
 by_cases h:cr a b c=0 <;> by_cases h2:(min a.X b.X<=c.X/\c.X<=max a.X b.X) <;> simp[h,h2]
 all_goals (try omega)
theorem Bej{a b c:Ab}(ha:okXY a=true)(hb:okXY b=true)(hc:okXY c=true):Td a b c=some (croB c (a,b)):=by
 simp only[Td,turn_eq ha hb hc,turn_eq hb ha hc,Ae,croB,sign_pos,Bbc a b c]
 by_cases h1:c.Y<a.Y <;> by_cases h2:c.Y<b.Y <;> simp[h1,h2]
 all_goals (try omega)
 ·rw[if_neg oo];simp;omega
 ·rw[if_pos oo];simp;omega
def Wv(p:Ab):List Ab->List (Ab × Ab)
 | []=>[]
 | q::r=>(p,q)::Wv q r
def oddB{α:Type}(f:α->Bool):List α->Bool
 | []=>false
 | x::r=>f x != oddB f r
theorem Auy{α:Type}(f:α->Bool){l m:List α}(h:l.Perm m):oddB f l=oddB f m:=by
 induction h with
 | nil=>rfl
 | cons x _ ih=>simp only[oddB,ih]
 | swap x y l=>simp only[oddB];cases f x <;> cases f y <;> cases oddB f l <;> rfl
 | trans _ _ h1 h2=>rw[h1,h2]
def insB(c:Ab)(S:List (Ab × Ab)):Bool:=S.any (onB c) || oddB (croB c) S
theorem Auz{c:Ab}{S S':List (Ab × Ab)}(h:S.Perm S'):insB c S=insB c S':=by
 unfold insB;rw[Auy _ h];have:S.any (onB c)=S'.any (onB c):=by
  rw[Bool.eq_iff_iff,any_eq_true,any_eq_true];simp only[h.mem_iff]
 rw[this]
def As4:List Ab->List (Ab × Ab)
 | []=>[]
 | a::r=>Wv a (r++[a])
theorem Al1(p:Ab):∀ (l m:List Ab),Wv p (l++m)=Wv p l++Wv ((p::l).getLast (cons_ne_nil _ _)) m
 | [],m=>rfl
 | q::r,m=>by
  have:=Al1 q r m;simp only[cons_append,Wv,this];rw[getLast_cons (cons_ne_nil q r)]
def inF(c:Ab)(s:Bool × Ab)(q:Ab):Sum (Bool × Ab) (Sum Bool Bool):=if onB c (s.2,q)=true then .inr (.inr true) else .inl (if croB c (s.2,q)=true then !s.1 else s.1,q)
theorem Ay1(c:Ab):∀ (l:List Ab) (s:Bool × Ab),Ua (inF c) (fun s=>(.inl s.1:Sum Bool Bool)) l s=if (Wv s.2 l).any (onB c)=true then .inr true else .inl (s.1 != oddB (croB c) (Wv s.2 l))
 | [],s=>by simp[Ua,Wv,oddB]
 | q::r,s=>by
  unfold Ua inF
  by_cases h:onB c (s.2,q)=true
  ·rw[if_pos h];simp[Wv,h]
  ·rw[if_neg h];dsimp only;have ih:=Ay1 c r (if croB c (s.2,q)=true then !s.1 else s.1,q);unfold inF at ih;rw[ih];have h':onB c (s.2,q)=false:=by simpa using h
   simp only[Wv,any_cons,h',Bool.false_or,oddB];cases croB c (s.2,q) <;> cases s.1 <;> cases oddB (croB c) (Wv q r) <;> rfl
theorem Au0{l:List Ab}(h1:∀ p∈l,okXY p=true)(h0:0<l.length)(h2:l.length<=1000){c:Ab}(hc:okXY c=true):Ux l c=some (insB c (As4 l)):=by
 have hlast:l.length-1<l.length:=oo;have hw:w64 ((l.length:Int)-1)=((l.length-1:Nat):Int):=by rw[Av oo oo];omega
 unfold Ux;rw[hw,At hlast,Ae,jn_d];have key:=Po l (fun (s:Bool × Ab) (j:Int)=>(s.1,s.2.X,s.2.Y,j)) (inF c) (fun s=>(.inl s.1:Sum Bool Bool)) (Mo l c) (fun _ s=>okXY s.2=true) ?_ ?_ (false,l[l.length-1]) (h1 _ (getElem_mem hlast))
 ·have key':lfix (Mo l c) (false,l[l.length-1].X,l[l.length-1].Y,0)=_:=key;rw[key',Ae,Ay1];have hp:(Wv l[l.length-1] l).Perm (As4 l):=by
   cases l with
   | nil=>simp at h0
   | cons a r=>
    show (Wv _ (a::r)).Perm (Wv a (r++[a]));rw[Al1];have:(a::r)[(a::r).length-1]=(a::r).getLast (cons_ne_nil _ _):=by rw[getLast_eq_getElem]
    rw[this];exact (perm_append_singleton _ _).symm
  have e:=Auz (c:=c) hp;unfold insB at e ⊢;rw[<- e];cases (Wv l[l.length-1] l).any (onB c) <;> simp
 ·rintro j hj ⟨b,p⟩ hp;dsimp only at hp;have hq:=h1 _ (getElem_mem hj);have hb:(⟨p.X,p.Y⟩:Ab)=p:=rfl;unfold inF;simp only[Mo,if_pos (show (j:Int)<(l.length:Int) by omega),jn_d,At hj,Ae,hb,Bff hp hq hc,Bej hp hq hc,Bg (show j<9223372036854775807 by omega)]
  by_cases g:onB c (p,l[j])=true
  ·right;exact⟨_,by rw[if_pos g],by rw[if_pos g]⟩
  ·left;refine⟨_,by rw[if_neg g],?_,hq⟩;rw[if_neg g]
   by_cases g2:croB c (p,l[j])=true <;> simp[g2]
 ·intro s _;simp only[Mo,Int.lt_irrefl,if_false]
def Acp(l:List Ab):Bool:=decide (3<=l.length/\l.length<=64) && l.all okXY
theorem Ani(l:List Ab):Qj l=some (Acp l):=by
 simp only[Qj,Xk,Ae,decide_eq_true_eq,jn_d,Acp]
 by_cases h:(3:Int)<=(l.length:Int)/\(l.length:Int)<=64
 ·rw[if_pos h,decide_eq_true (show 3<=l.length/\l.length<=64 by omega),Bool.true_and];rw[Wd (β:=Unit) (γ:=Bool) l okXY (Lw l) () false ?_ ?_,Ae]
  ·by_cases hk:l.all okXY=true <;> simp[hk]
  ·intro j hj;simp only[Lw,if_pos (show (j:Int)<(l.length:Int) by omega),At hj,Ae,Zm,Bg (show j<9223372036854775807 by omega)]
  ·simp only[Lw,Int.lt_irrefl,if_false]
 ·rw[if_neg h,decide_eq_false (show ¬ (3<=l.length/\l.length<=64) by omega),Bool.false_and]
theorem ring_eq{l:List Ab}(hl:l.length<=1000):Abn l=some (Acp l):=by
 simp only[Abn,jn_d,Acp];rw[Wd (β:=Unit) (γ:=Bool) l okXY (Pv l) () false ?_ ?_,Ae]
 ·by_cases hk:l.all okXY=true
  ·simp only[hk,if_true,Bool.and_true]
   by_cases h3:3<=l.length
   ·rw[if_pos oo];congr 1;simp only[decide_eq_decide];omega
   ·rw[if_neg oo];congr 1;symm;rw[decide_eq_false_iff_not];omega
  ·simp[hk]
 ·intro j hj;simp only[Pv,if_pos (show (j:Int)<(l.length:Int) by omega),At hj,Ae,Alc,Bg (show j<9223372036854775807 by omega)]
 ·simp only[Pv,Int.lt_irrefl,if_false]
def Aim(l:List Ab)(c:Ab):Bool × Int:=if Acp l=true then (if okXY c=true then (insB c (As4 l),0) else (false,11)) else (false,72)
theorem Apc{l:List Ab}(h:Acp l=true):3<=l.length/\l.length<=64/\∀ p∈l,okXY p=true:=by
 simp only[Acp,Bool.and_eq_true,decide_eq_true_eq,all_eq_true] at h;exact⟨h.1.1,h.1.2,h.2⟩
theorem Al2(l:List Ab)(c:Ab):Ip l c=some (Aim l c):=by
 simp only[Ip,Ani,Ae,Zm,Aim]
 by_cases h:Acp l=true
 ·obtain⟨h1,h2,h3⟩:=Apc h
  by_cases hc:okXY c=true
  ·simp only[h,hc,if_true,Au0 h3 oo oo hc,Ae]
  ·simp[h,hc]
 ·simp[h]
end Go.Proofs.YthlkpgdfifnagaaGreat.X
namespace Go.Proofs.YthlkpgdfifnagaaGreat.X
open Go Go.RowKit List
theorem sameInts_self{l:List Int}(h:l.length<=1000000):Ju l l=some true:=by
 simp only[Ju,if_true,jn_d];rw[Wd (β:=Unit) (γ:=Bool) l (fun _=>true) (Gq l l) () false ?_ ?_,Ae]
 ·simp
 ·intro j hj;simp only[Gq,if_pos (show (j:Int)<(l.length:Int) by omega),At hj,Ae,if_true,Bg (show j<9223372036854775807 by omega)]
 ·simp only[Gq,Int.lt_irrefl,if_false]
theorem many_eq(l:List Aa)(n:Int):Qf l n=some (decide (300<l.length\/n<(l.length:Int)/\validL l=true)):=by
 simp only[Qf,jn_d,Ale,Ae]
 by_cases h1:300<l.length
 ·rw[if_pos oo];simp[h1]
 ·rw[if_neg oo]
  by_cases h2:n<(l.length:Int)
  ·rw[if_pos h2];simp[h1,h2]
  ·rw[if_neg h2];simp[h1,h2]
def sqr:List Ab:=[⟨0,0⟩,⟨4,0⟩,⟨4,4⟩,⟨0,4⟩]
def pts3:List Aa:=[⟨1,0,0,⟨3,3⟩,0,1,1,0⟩,⟨2,5,5,⟨1,1⟩,0,1,1,0⟩,⟨3,12,0,⟨2,2⟩,0,1,1,0⟩]
def ter3:Af:=⟨10,0,0,1,0,0,0,0,0,1⟩
theorem first_eq:Kr=some true:=by
 have e1:Aim sqr ⟨4,2⟩=(true,0):=dD;have e2:Aim sqr ⟨5,2⟩=(false,0):=dD;have e3:seedL pts3 ter3=[2,3]:=by
  have:(bot (ceF ter3.Cell) (candL pts3 ter3)).map (·.Id)=[2,3]:=dD;unfold seedL;rw[this];exact (sort_unique (by simp) (List.Perm.refl _)).symm
 have e4:okRules ter3=true:=dD;have e5:validL pts3=true:=dD;have f1:Ip sqr ⟨4,2⟩=some (true,0):=by rw[Al2,e1]
 have f2:Ip sqr ⟨5,2⟩=some (false,0):=by rw[Al2,e2]
 have f3:Pj pts3 ter3=some ([2,3],0):=by rw[Axv,if_pos e4,if_pos e5,e3]
 unfold Kr;have g1:Ip ([(⟨0,0⟩:Ab),(⟨4,0⟩:Ab),(⟨4,4⟩:Ab),(⟨0,4⟩:Ab)]) (⟨4,2⟩:Ab)=some (true,0):=f1;have g2:Ip ([(⟨0,0⟩:Ab),(⟨4,0⟩:Ab),(⟨4,4⟩:Ab),(⟨0,4⟩:Ab)]) (⟨5,2⟩:Ab)=some (false,0):=f2;rw[g1,Ae,g2,Ae];show bnd (Pj pts3 ter3) _=_;rw[f3,Ae];rfl
end Go.Proofs.YthlkpgdfifnagaaGreat.X
namespace Go.Proofs.YthlkpgdfifnagaaGreat
open Go Go.RowKit List
def ph(α β:Int)(p:Ab):Int:=α*p.X+β*p.Y
theorem Bcn(α β:Int)(a b c d:Ab):(ph α β b-ph α β a)*crs a c d+(ph α β c-ph α β a)*crs a d b+(ph α β d-ph α β a)*crs a b c=0:=by unfold ph crs;grind
section
variable {α β:Int}
theorem Aez{x y:Int}(hx:0<x)(h:0<x*y):0<y:=by
 rcases Int.lt_trichotomy y 0 with g | g | g
 ·have:=Int.mul_neg_of_pos_of_neg hx g;omega
 ·subst g;simp at h
 ·exact g
theorem Vt{x y:Int}(hx:0<x)(h:0<=x*y):0<=y:=by
 rcases Int.lt_or_le y 0 with g | g
 ·have:=Int.mul_neg_of_pos_of_neg hx g;omega
 ·exact g
end
section
variable (P:Int->Ab) (α β:Int)
def Sup(D:List Int)(a b:Int):Prop:=ph α β (P a)<ph α β (P b)/\∀ k∈D,0<crs (P a) (P b) (P k)\/(crs (P a) (P b) (P k)=0/\ph α β (P a)<=ph α β (P k)/\ph α β (P k)<=ph α β (P b))
def Bco(Q:Int->Int->Prop):List Int->Prop
 | b::a::r=>Q a b/\Bco Q (a::r)
 | _=>True
structure ChainC(f:Int)(D s:List Int):Prop where
 sub:∀ x∈s,x∈D
 edge:Bco (Sup P α β D) s
 bot:∃ r,s=r++[f]
 low:∀ k∈D,k=f\/ph α β (P f)<ph α β (P k)
variable {P α β}
end
noncomputable def apM(m:Mp):Ap:=fun i j=>mget m ⟨i,j⟩
noncomputable def putM(m:Mp)(i j k:Int):Mp:=mput (mput (mput m ⟨i,j⟩ k) ⟨j,k⟩ i) ⟨k,i⟩ j
noncomputable def cutM(m:Mp)(i j k:Int):Mp:=mdel (mdel (mdel m ⟨i,j⟩) ⟨j,k⟩) ⟨k,i⟩
noncomputable def Aj8(m:Mp)(i j k l:Int):Mp:=putM (putM (cutM (cutM m i j k) j i l) i l k) j k l
theorem Nn{i j a b:Int}:(⟨a,b⟩:Ac)=⟨i,j⟩↔a=i/\b=j:=by simp
theorem MapN.put{n:Nat}{m:Mp}(h:MapN n m){i j k:Int}(hi:inN n i)(hj:inN n j)(hk:inN n k):MapN n (mput m ⟨i,j⟩ k):=by
 refine⟨h.ok.put _ _,fun q hq=>?_⟩;unfold mput at hq;rcases mem_cons.1 hq with rfl | hq
 ·exact⟨hi,hj,hk⟩
 ·exact h.key q (Om.1 hq).1
theorem MapN.del{n:Nat}{m:Mp}(h:MapN n m)(x:Ac):MapN n (mdel m x):=⟨h.ok.del _,fun q hq=>h.key q (Om.1 hq).1⟩
theorem MapN.putM{n:Nat}{m:Mp}(h:MapN n m){i j k:Int}(hi:inN n i)(hj:inN n j)(hk:inN n k):MapN n (putM m i j k):=((h.put hi hj hk).put hj hk hi).put hk hi hj
theorem MapN.cutM{n:Nat}{m:Mp}(h:MapN n m)(i j k:Int):MapN n (cutM m i j k):=((h.del _).del _).del _
theorem Adi{m:Mp}(h:Do m)(i j k a b:Int):apM (putM m i j k) a b=if a=k/\b=i then some j else if a=j/\b=k then some i else if a=i/\b=j then some k else apM m a b:=by
 unfold apM putM;rw[Nc ((h.put _ _).put _ _),Nc (h.put _ _),Nc h];simp only[Nn]
theorem Px{m:Mp}(h:Do m)(i j k a b:Int):apM (cutM m i j k) a b=if (a=k/\b=i)\/(a=j/\b=k)\/(a=i/\b=j) then none else apM m a b:=by
 unfold apM cutM;rw[Vu ((h.del _).del _),Vu (h.del _),Vu h];simp only[Nn]
 by_cases c1:a=k/\b=i
 ·simp[c1]
 ·by_cases c2:a=j/\b=k
  ·simp[c2]
  ·by_cases c3:a=i/\b=j
   ·simp[c3]
   ·simp[c1,c2,c3]
theorem Aj9{m:Mp}(h:Do m){i j k l:Int}(n1:i≠j)(n2:k≠l)(n3:k≠i)(n4:k≠j)(n5:l≠i)(n6:l≠j):apM (Aj8 m i j k l)=Qh (apM m) i j k l:=by
 have h1:Do (cutM m i j k):=((h.del _).del _).del _;have h2:Do (cutM (cutM m i j k) j i l):=((h1.del _).del _).del _;have h3:Do (putM (cutM (cutM m i j k) j i l) i l k):=((h2.put _ _).put _ _).put _ _;funext a b;unfold Aj8;rw[Adi h3,Adi h2,Px h1,Px h];unfold Qh
 by_cases c1:a=i/\b=l
 ·repeat first | rw[if_pos oo] | rw[if_neg oo]
 by_cases c2:a=l/\b=k
 ·repeat first | rw[if_pos oo] | rw[if_neg oo]
 by_cases c3:a=k/\b=i
 ·repeat first | rw[if_pos oo] | rw[if_neg oo]
 by_cases c4:a=j/\b=k
 ·repeat first | rw[if_pos oo] | rw[if_neg oo]
 by_cases c5:a=k/\b=l
 ·repeat first | rw[if_pos oo] | rw[if_neg oo]
 by_cases c6:a=l/\b=j
 ·repeat first | rw[if_pos oo] | rw[if_neg oo]
 by_cases c7:a=i/\b=j
 ·repeat first | rw[if_pos oo] | rw[if_neg oo]
 by_cases c8:a=j/\b=i
 ·repeat first | rw[if_pos oo] | rw[if_neg oo]
 repeat first | rw[if_pos oo] | rw[if_neg oo]
theorem p_eq{b:Am}{i:Int}(h:inN b.v.length i):Bn b i=some (plV b.v i):=by
 unfold Bn plV;obtain⟨k,hk,rfl,e⟩:=Mc (v:=b.v) (i:=i) h;rw[e];rfl
theorem Aka{n:Nat}(hn:n<=1024){b:Am}(hm:MapN n b.apex){i j k:Int}(hi:inN n i)(hj:inN n j)(hk:inN n k):Eu b i j k=some ⟨b.v,putM b.apex i j k,b.fixed⟩:=by
 have hsq:=Aho hn;have l0:=hm.len;have l1:=(hm.put hi hj hk).len;have l2:=((hm.put hi hj hk).put hj hk hi).len;unfold Eu;rw[gd_t (Ut hn hi hj),gd_t oo,gd_t (Ut hn hj hk),gd_t oo,gd_t (Ut hn hk hi),gd_t oo];rfl
theorem Ay2{n:Nat}(hn:n<=1024){b:Am}{i j k:Int}(hi:inN n i)(hj:inN n j)(hk:inN n k):Kz b i j k=some ⟨b.v,cutM b.apex i j k,b.fixed⟩:=by
 unfold Kz;rw[gd_t (Ut hn hi hj),gd_t (Ut hn hj hk),gd_t (Ut hn hk hi)];rfl
theorem MapN.val{n:Nat}{m:Mp}(h:MapN n m){i j k:Int}(hk:apM m i j=some k):inN n i/\inN n j/\inN n k:=h.key _ (Gu hk)
theorem Bbd{b:Am}(hv:Ij b.v)(hn:b.v.length<=1024)(hm:MapN b.v.length b.apex){i j k l:Int}(hk:apM b.apex i j=some k)(hl:apM b.apex j i=some l):
  Jc b i j=some (if Int.sign (crs (plV b.v k) (plV b.v l) (plV b.v i))*Int.sign (crs (plV b.v k) (plV b.v l) (plV b.v j)) = -1 then (⟨b.v,Aj8 b.apex i j k l,b.fixed⟩,true) else (b,false)):=by
 obtain⟨vi,vj,vk⟩:=hm.val hk;obtain⟨_,_,vl⟩:=hm.val hl;have hk':mget b.apex (⟨i,j⟩:Ac)=some k:=hk;have hl':mget b.apex (⟨j,i⟩:Ac)=some l:=hl;unfold Jc;rw[gd_t (Ut hn vi vj),hk',Ae,gd_t (Ut hn vj vi),hl',Ae,jn_d];simp only[Option.getD_some,Option.isSome_some,if_true];rw[p_eq vk,Ae,p_eq vl,Ae,p_eq vi,Ae,turn_eq (hv.ok _ vk) (hv.ok _ vl) (hv.ok _ vi),Ae,Ae,Ae,p_eq vj,Ae,turn_eq (hv.ok _ vk) (hv.ok _ vl) (hv.ok _ vj),Ae,Aor]
 by_cases c:Int.sign (crs (plV b.v k) (plV b.v l) (plV b.v i))*Int.sign (crs (plV b.v k) (plV b.v l) (plV b.v j)) = -1
 ·rw[if_pos c,if_neg (by simp;omega)];have m1:=hm.cutM i j k;have m2:=m1.cutM j i l;have m3:=m2.putM vi vl vk;rw[Ay2 hn vi vj vk,Ae,Ay2 hn vj vi vl,Ae,Aka hn m2 vi vl vk,Ae,Aka hn m3 vj vk vl,Ae];rfl
 ·rw[if_neg c,if_pos (by simpa using Amv.2 c)]
theorem Au1{m:Mp}{x:Ac}(h:mget m x=none)(hm:Do m):mdel m x=m:=by
 unfold mdel;rw[filter_eq_self];intro p hp;simp only[decide_eq_true_eq];intro e;have:=St hm hp;rw[e,h] at this;cases this
section
variable {P:Int->Ab} {H:Int->Int} {n:Nat}
noncomputable def phi(P:Int->Ab)(H:Int->Int)(n:Nat)(m:Mp):Nat:=(m.map fun q=>cnf P H n q.1.a0 q.1.a1 q.2).sum
theorem Anj{m:Mp}(hm:Do m){i j k:Int}(h:mget m ⟨i,j⟩=some k):phi P H n m=cnf P H n i j k+phi P H n (mdel m ⟨i,j⟩):=by
 have hp:=Ag0 hm (Gu h);unfold phi;rw[(hp.map _).sum_nat,map_cons,sum_cons]
theorem Ank{m:Mp}(hm:Do m){i j k:Int}(h:mget m ⟨i,j⟩=none):phi P H n (mput m ⟨i,j⟩ k)=cnf P H n i j k+phi P H n m:=by
 unfold mput;rw[Au1 h hm];unfold phi;rw[map_cons,sum_cons]
theorem Ay3:∀ m:Mp,phi P H n m<=m.length*n
 | []=>by simp[phi]
 | q::r=>by
  have h1:=Ay3 r;have h2:=Bef (P:=P) (H:=H) (n:=n) q.1.a0 q.1.a1 q.2;unfold phi at *;rw[map_cons,sum_cons,length_cons,Nat.add_mul];omega
theorem As5{m:Mp}(hm:Do m){i j k:Int}(n1:i≠j)(n2:j≠k)(n3:k≠i)(h1:apM m i j=some k)(h2:apM m j k=some i)(h3:apM m k i=some j):phi P H n m=3*cnf P H n i j k+phi P H n (cutM m i j k):=by
 have g1:mget (mdel m ⟨i,j⟩) ⟨j,k⟩=some i:=by rw[Vu hm,Nn,if_neg oo];exact h2
 have g2:mget (mdel (mdel m ⟨i,j⟩) ⟨j,k⟩) ⟨k,i⟩=some j:=by rw[Vu (hm.del _),Vu hm,Nn,Nn,if_neg oo,if_neg oo];exact h3
 rw[Anj hm h1,Anj (hm.del _) g1,Anj ((hm.del _).del _) g2,Abb,Abb (P:=P) (H:=H) (n:=n) j k i,Abb];unfold cutM;omega
theorem Apd{m:Mp}(hm:Do m){i j k:Int}(n1:i≠j)(n2:j≠k)(n3:k≠i)(h1:apM m i j=none)(h2:apM m j k=none)(h3:apM m k i=none):phi P H n (putM m i j k)=3*cnf P H n i j k+phi P H n m:=by
 have g1:mget (mput m ⟨i,j⟩ k) ⟨j,k⟩=none:=by rw[Nc hm,Nn,if_neg oo];exact h2
 have g2:mget (mput (mput m ⟨i,j⟩ k) ⟨j,k⟩ i) ⟨k,i⟩=none:=by rw[Nc (hm.put _ _),Nc hm,Nn,Nn,if_neg oo,if_neg oo];exact h3
 unfold putM;rw[Ank ((hm.put _ _).put _ _) g2,Ank (hm.put _ _) g1,Ank hm h1,Abb (P:=P) (H:=H) (n:=n) i j k,Abb (P:=P) (H:=H) (n:=n) k i j,<- Abb (P:=P) (H:=H) (n:=n) k i j];have e:=Abb (P:=P) (H:=H) (n:=n) k i j;omega
theorem Ay4{m:Mp}(hm:Do m){i j k l:Int}(hcv:Aj4 P H (inN n))(q:Quad P (inN n) (apM m) i j k l)(hQ:0<DH P H i j k l):phi P H n (Aj8 m i j k l)<phi P H n m:=by
 obtain⟨n1,n2,n3,n4,n5,n6⟩:=q.ne;obtain⟨f1,f2⟩:=q.fresh;have h1:Do (cutM m i j k):=((hm.del _).del _).del _;have h2:Do (cutM (cutM m i j k) j i l):=((h1.del _).del _).del _;have h3:Do (putM (cutM (cutM m i j k) j i l) i l k):=((h2.put _ _).put _ _).put _ _;have a1:=q.tri.rot _ _ _ q.hk;have a2:=q.tri.rot2 q.hk;have a3:=q.tri.rot _ _ _ q.hl;have a4:=q.tri.rot2 q.hl;have e1:=As5 (P:=P) (H:=H) (n:=n) hm n1 (fun e=>n4 e.symm) n3 q.hk a1 a2;have e2:=As5 (P:=P) (H:=H) (n:=n) h1 (i:=j) (j:=i) (k:=l) n1.symm (fun e=>n5 e.symm) n6 (by rw[Px hm,if_neg oo];exact q.hl) (by rw[Px hm,if_neg oo];exact a3) (by rw[Px hm,if_neg oo];exact a4);have e3:=Apd (P:=P) (H:=H) (n:=n) h2 (i:=i) (j:=l) (k:=k) (fun e=>n5 e.symm) n2.symm n3
  (by rw[Px h1,if_pos oo]) (by rw[Px h1,if_neg oo,Px hm,if_neg oo];exact f2) (by rw[Px h1,if_neg oo,Px hm,if_pos oo])
 have e4:=Apd (P:=P) (H:=H) (n:=n) h3 (i:=j) (j:=k) (k:=l) (fun e=>n4 e.symm) n2 n6
  (by rw[Adi h2,if_neg oo,if_neg oo,if_neg oo,Px h1,if_neg oo,Px hm,if_pos oo])
  (by rw[Adi h2,if_neg oo,if_neg oo,if_neg oo,Px h1,if_neg oo,Px hm,if_neg oo];exact f1)
  (by rw[Adi h2,if_neg oo,if_neg oo,if_neg oo,Px h1,if_pos oo])
 have:=q.cnf_lt hcv hQ;unfold Aj8;omega
end
theorem Bbe(hi hj hk hl:Int)(i j k l:Ab):Dt hk hl hj hi k l j i = -Dt hi hj hk hl i j k l:=by unfold Dt crs;grind
noncomputable def Fx(F:List (Ac × Bool))(i j:Int):Bool:=(mget F ⟨min i j,max i j⟩).getD false
def pr2(i j:Int):Ac:=⟨min i j,max i j⟩
theorem Aao(i j:Int):pr2 i j=pr2 j i:=by unfold pr2;rw[Int.min_comm,Int.max_comm]
theorem Ay5{i j a b:Int}(h:pr2 i j=pr2 a b):(i=a/\j=b)\/(i=b/\j=a):=by
 unfold pr2 at h;rw[Nn] at h;omega
structure Pb(v:List Ad)(F:List (Ac × Bool))(q:List Ac)(m:Mp):Prop where
 map:MapN v.length m
 tri:Tri (plV v) (inN v.length) (apM m)
 qn:∀ s∈q,inN v.length s.a0/\inN v.length s.a1/\s.a0<=s.a1
 pend:∀ i j k l,apM m i j=some k->apM m j i=some l->pr2 i j∈q\/Fx F i j=true\/DH (plV v) (hV v) i j k l<0
theorem Pb.pop{v F q s m}(h:Pb v F (q++[s]) m)(hs:∀ k l,apM m s.a0 s.a1=some k->apM m s.a1 s.a0=some l->Fx F s.a0 s.a1=true\/DH (plV v) (hV v) s.a0 s.a1 k l<0):Pb v F q m:=by
 have hq:=(h.qn s (by simp)).2.2;refine⟨h.map,h.tri,fun x hx=>h.qn x (mem_append_left _ hx),fun i j k l hk hl=>?_⟩;rcases h.pend i j k l hk hl with g | g
 ·rcases mem_append.1 g with g | g
  ·exact .inl g
  ·rw[mem_singleton] at g;right;have e:pr2 s.a0 s.a1=s:=by
    obtain⟨x,y⟩:=s;unfold pr2;rw[Nn];simp only at hq ⊢;omega
   rw[<- e] at g;rcases Ay5 g with⟨e1,e2⟩|⟨e1,e2⟩
   ·subst e1;subst e2;exact hs k l hk hl
   ·subst e1;subst e2;rcases hs l k hl hk with t | t
    ·left;unfold Fx at *;rw[Int.min_comm,Int.max_comm];exact t
    ·right;rw[<- Quad.swapQ];exact t
 ·exact .inr g
theorem As6{v:List Ad}{m:Mp}(hv:Ij v)(ht:Tri (plV v) (inN v.length) (apM m)){i j k l:Int}(hk:apM m i j=some k)(hl:apM m j i=some l)(hD:¬ DH (plV v) (hV v) i j k l<0):Quad (plV v) (inN v.length) (apM m) i j k l:=by
 obtain⟨vi,vj,vk,ck⟩:=ht.ccw _ _ _ hk;obtain⟨_,_,vl,cl⟩:=ht.ccw _ _ _ hl;have c0:crs (plV v i) (plV v j) (plV v l)<0:=by rw[Cu];omega
 refine⟨ht,hk,hl,?_,?_⟩
 ·rw[Cf];rcases Int.lt_or_le 0 (crs (plV v k) (plV v i) (plV v l)) with g | g
  ·exact g
  ·exact absurd (Adh hv i j k l vi vj vk vl ck c0 (.inr g)) hD
 ·rcases Int.lt_or_le 0 (crs (plV v j) (plV v k) (plV v l)) with g | g
  ·exact g
  ·exact absurd (Adh hv i j k l vi vj vk vl ck c0 (.inl g)) hD
theorem Pb.flip{v F q s m}(hv:Ij v)(h:Pb v F (q++[s]) m){k l:Int}(hk:apM m s.a0 s.a1=some k)(hl:apM m s.a1 s.a0=some l)(hD:¬ DH (plV v) (hV v) s.a0 s.a1 k l<0):
  Pb v F (q++[pr2 s.a0 k,pr2 k s.a1,pr2 s.a1 l,pr2 l s.a0]) (Aj8 m s.a0 s.a1 k l):=by
 have Q:=As6 hv h.tri hk hl hD;obtain⟨n1,n2,n3,n4,n5,n6⟩:=Q.ne;obtain⟨vi,vj,vk,ck⟩:=h.tri.ccw _ _ _ hk;obtain⟨_,_,vl,cl⟩:=h.tri.ccw _ _ _ hl;have hf:=Aj9 h.map.ok n1 n2 n3 n4 n5 n6;have hq:=(h.qn s (by simp)).2.2;have es:pr2 s.a0 s.a1=s:=by
  obtain⟨x,y⟩:=s;unfold pr2;rw[Nn];simp only at hq ⊢;omega
 have hD2:0<DH (plV v) (hV v) s.a0 s.a1 k l:=by
  have:=(Alz hv vi vj vk vl ck (by rw[Cu];omega)).2;omega
 refine⟨?_,by rw[hf];exact Q.flip,fun x hx=>?_,fun a b c d hc hd=>?_⟩
 ·have m1:=h.map.cutM s.a0 s.a1 k;have m2:=m1.cutM s.a1 s.a0 l;exact (m2.putM vi vl vk).putM vj vk vl
 ·rcases mem_append.1 hx with hx | hx
  ·exact h.qn x (mem_append_left _ hx)
  ·have key:∀ i j,inN v.length i->inN v.length j->inN v.length (pr2 i j).a0/\inN v.length (pr2 i j).a1/\(pr2 i j).a0<=(pr2 i j).a1:=fun i j h1 h2=>by
    unfold pr2 inN at *;simp only;omega
   simp only[mem_cons,not_mem_nil,or_false] at hx;rcases hx with rfl | rfl | rfl | rfl
   ·exact key _ _ vi vk
   ·exact key _ _ vk vj
   ·exact key _ _ vj vl
   ·exact key _ _ vl vi
 ·rw[hf] at hc hd;have mem:∀ x,x∈[pr2 s.a0 k,pr2 k s.a1,pr2 s.a1 l,pr2 l s.a0]->x∈q++[pr2 s.a0 k,pr2 k s.a1,pr2 s.a1 l,pr2 l s.a0]:=fun x hx=>mem_append_right _ hx
  have dg:DH (plV v) (hV v) k l s.a1 s.a0<0:=by
   unfold DH at hD2 ⊢;rw[Bbe];omega
  have outer:∀ a b c,Qh (apM m) s.a0 s.a1 k l a b=some c->(pr2 a b∈[pr2 s.a0 k,pr2 k s.a1,pr2 s.a1 l,pr2 l s.a0])\/(a=l/\b=k/\c=s.a0)\/(a=k/\b=l/\c=s.a1) \/
    (apM m a b=some c/\¬ (a=s.a0/\b=l)/\¬ (a=l/\b=k)/\¬ (a=k/\b=s.a0)/\¬ (a=s.a1/\b=k)/\¬ (a=k/\b=l)/\¬ (a=l/\b=s.a1)/\¬ (a=s.a0/\b=s.a1)/\¬ (a=s.a1/\b=s.a0)):=by
   intro a b c hc;rcases Ts hc with⟨e1,e2,_⟩ | g | ⟨e1,e2,_⟩|⟨e1,e2,_⟩ | g | ⟨e1,e2,_⟩ | g
   ·left;rw[Aao a b,e1,e2];simp
   ·exact .inr (.inl g)
   ·left;rw[Aao a b,e1,e2];simp
   ·left;rw[Aao a b,e1,e2];simp
   ·exact .inr (.inr (.inl g))
   ·left;rw[Aao a b,e1,e2];simp
   ·exact .inr (.inr (.inr g))
  rcases outer a b c hc with g | ⟨rfl,rfl,rfl⟩|⟨rfl,rfl,rfl⟩|⟨g0,g⟩
  ·exact .inl (mem _ g)
  ·rw[Asx n3 n2 n4 n5] at hd;obtain rfl:=Option.some.inj hd;right;right;rw[Quad.swapQ (P:=plV v) (H:=hV v)];exact dg
  ·rw[Asw n5] at hd;obtain rfl:=Option.some.inj hd;exact .inr (.inr dg)
  ·rcases outer b a d hd with g' | ⟨e1,e2,_⟩|⟨e1,e2,_⟩|⟨g0',g'⟩
   ·left;rw[Aao a b];exact mem _ g'
   ·omega
   ·omega
   ·rcases h.pend a b c d g0 g0' with t | t
    ·rcases mem_append.1 t with t | t
     ·exact .inl (mem_append_left _ t)
     ·rw[mem_singleton,<- es] at t;rcases Ay5 t with⟨e1,e2⟩|⟨e1,e2⟩ <;> omega
    ·exact .inr t
structure Uu(v:List Ad)(F:List (Ac × Bool))(m m':Mp):Prop where
 cov:∀ S:Int->Prop,Cov (plV v) S (apM m)->Cov (plV v) S (apM m')
 fix:∀ i j,Fx F i j=true->(apM m i j≠none\/apM m j i≠none)->(apM m' i j≠none\/apM m' j i≠none)
 ne:m≠[]->m'≠[]
theorem Uu.refl{v F m}:Uu v F m m:=⟨fun _ h=>h,fun _ _ _ h=>h,fun h=>h⟩
theorem Uu.trans{v F m m' m''}(h:Uu v F m m')(k:Uu v F m' m''):Uu v F m m'':=⟨fun S h1=>k.cov S (h.cov S h1),fun i j h1 h2=>k.fix i j h1 (h.fix i j h1 h2),fun h1=>k.ne (h.ne h1)⟩
theorem As7{F:List (Ac × Bool)}{i j:Int}:Fx F j i=Fx F i j:=by unfold Fx;rw[Int.min_comm,Int.max_comm]
theorem Ape{v F q s m}(hv:Ij v)(hn:v.length<=1024)(h:Pb v F (q++[s]) m)(hq:q.length<=5000000000):
  ∃ q' m',Dl (v,m,F,q++[s])=some (.inl (v,m',F,q'))/\Pb v F q' m'/\Uu v F m m'/\((m'=m/\q'=q)\/(phi (plV v) (hV v) v.length m'<phi (plV v) (hV v) v.length m/\q'.length=q.length+4)):=by
 obtain⟨k1,k2,k3⟩:=h.qn s (by simp);have es:pr2 s.a0 s.a1=s:=by
  obtain⟨x,y⟩:=s;unfold pr2;rw[Nn];simp only at k3 ⊢;omega
 have hw:w64 ((((q++[s]).length:Nat):Int)-1)=(q.length:Int):=by rw[length_append,length_singleton,Av oo oo];omega
 have hi:idx (q++[s]) (q.length:Int)=some s:=(At (by simp)).trans (by simp);have ht:List.take (Int.toNat (q.length:Int)) (q++[s])=q:=by simp
 have e0:Dl (v,m,F,q++[s]) =
   (fun j18:List Ac × Bool->Option (Sum (List Ad × Mp × List (Ac × Bool) × List Ac) Am)=>if ((mget m s).isSome)=true then (if ((mget m ((⟨s.a1,s.a0⟩:Ac))).isSome)=true then (
    if (mget F s).getD false=true then (j18 (q,true))
    else (bnd (Vn (plV v s.a0) (plV v s.a1) (plV v ((mget m s).getD 0)) (plV v ((mget m ((⟨s.a1,s.a0⟩:Ac))).getD 0))) fun r169=>j18 (q,r169)))
   else (j18 (q,true))) else (j18 (q,true)))
   (fun s18=>if s18.2=true then (some (.inl (v,m,F,s18.1)))
    else (bnd (Jc (⟨v,m,F⟩:Am) s.a0 s.a1) fun r185=>
    if r185.2=true then (gd ((s18.1.length+4)*16<=140737488355328)<|
     some (.inl (r185.1.v,r185.1.apex,r185.1.fixed,s18.1++[pr2 s.a0 ((mget m s).getD 0),pr2 ((mget m s).getD 0) s.a1,pr2 s.a1 ((mget m ((⟨s.a1,s.a0⟩:Ac))).getD 0),pr2 ((mget m ((⟨s.a1,s.a0⟩:Ac))).getD 0) s.a0])))
    else (some (.inl (r185.1.v,r185.1.apex,r185.1.fixed,s18.1))))):=by
  unfold Dl;simp only[hw];rw[if_pos (by simp),hi,Ae,gd_t (by simp;omega),gd_t (Ut hn k1 k2),Ae,gd_t (Ut hn k2 k1),Ae,jn_d,ht]
  by_cases c1:(mget m s).isSome=true
  ·rw[if_pos c1,if_pos c1]
   by_cases c2:(mget m (⟨s.a1,s.a0⟩:Ac)).isSome=true
   ·rw[if_pos c2,if_pos c2,gd_t (Ut hn k1 k2),Ae];obtain⟨k,hk⟩:=Option.isSome_iff_exists.1 c1;obtain⟨l,hl⟩:=Option.isSome_iff_exists.1 c2;have hk':apM m s.a0 s.a1=some k:=hk;have vk:=(h.map.val hk').2.2;have vl:=(h.map.val (show apM m s.a1 s.a0=some l from hl)).2.2;rw[p_eq (b:=⟨v,m,F⟩) k1,Ae,p_eq (b:=⟨v,m,F⟩) k2,Ae,hk,hl];simp only[Option.getD_some];rw[p_eq (b:=⟨v,m,F⟩) vk,Ae,p_eq (b:=⟨v,m,F⟩) vl,Ae];rfl
   ·rw[if_neg c2,if_neg c2];rfl
  ·rw[if_neg c1,if_neg c1];rfl
 rw[e0];dsimp only;have pop:(∀ k l,apM m s.a0 s.a1=some k->apM m s.a1 s.a0=some l->Fx F s.a0 s.a1=true\/DH (plV v) (hV v) s.a0 s.a1 k l<0) ->
   ∃ q' m',some (Sum.inl (v,m,F,q))=some (Sum.inl (β:=Am) (v,m',F,q'))/\Pb v F q' m'/\Uu v F m m'/\((m'=m/\q'=q)\/(phi (plV v) (hV v) v.length m'<phi (plV v) (hV v) v.length m/\q'.length=q.length+4)):=
  fun hs=>⟨q,m,rfl,h.pop hs,.refl,.inl ⟨rfl,rfl⟩⟩
 by_cases c1:(mget m s).isSome=true
 ·obtain⟨k,hk⟩:=Option.isSome_iff_exists.1 c1;have hk':apM m s.a0 s.a1=some k:=hk;rw[if_pos c1]
  by_cases c2:(mget m (⟨s.a1,s.a0⟩:Ac)).isSome=true
  ·obtain⟨l,hl⟩:=Option.isSome_iff_exists.1 c2;have hl':apM m s.a1 s.a0=some l:=hl;rw[if_pos c2];have hF:Fx F s.a0 s.a1=(mget F s).getD false:=by
    show (mget F (pr2 s.a0 s.a1)).getD false=_;rw[es]
   by_cases c3:(mget F s).getD false=true
   ·rw[if_pos c3];exact pop fun _ _ _ _=>.inl (by rw[hF];exact c3)
   ·rw[if_neg c3,hk,hl];simp only[Option.getD_some];obtain⟨vi,vj,vk,ck⟩:=h.tri.ccw _ _ _ hk';obtain⟨_,_,vl,cl⟩:=h.tri.ccw _ _ _ hl';have c0:crs (plV v s.a0) (plV v s.a1) (plV v l)<0:=by rw[Cu];omega
    obtain⟨hleg,hne⟩:=Alz hv vi vj vk vl ck c0;have hsd:Int.sign (crs (plV v s.a0) (plV v s.a1) (plV v k))*Int.sign (crs (plV v s.a0) (plV v s.a1) (plV v l)) = -1:=by rw[Agr];exact .inr ⟨ck,c0⟩
    obtain⟨d1,d2,d3,d4⟩:=Amw hsd;rw[Ax1 (hv.ok _ vi) (hv.ok _ vj) (hv.ok _ vk) (hv.ok _ vl) d1 d2 d3 d4,Ae]
    by_cases c4:legP (plV v s.a0) (plV v s.a1) (plV v k) (plV v l)
    ·rw[decide_eq_true c4,if_pos rfl];refine pop fun k' l' hk2 hl2=>.inr ?_
     rw[hk'] at hk2;rw[hl'] at hl2;cases hk2;cases hl2
     exact hleg.1 c4
    ·rw[decide_eq_false c4,if_neg (by simp)];have hD:¬ DH (plV v) (hV v) s.a0 s.a1 k l<0:=fun g=>c4 (hleg.2 g)
     have Q:=As6 hv h.tri hk' hl' hD;have hs:Int.sign (crs (plV v k) (plV v l) (plV v s.a0))*Int.sign (crs (plV v k) (plV v l) (plV v s.a1)) = -1:=by
      rw[Agr];left;refine⟨?_,by rw[Cf];exact Q.c2⟩;have e:crs (plV v k) (plV v l) (plV v s.a0) = -crs (plV v s.a0) (plV v l) (plV v k):=by unfold crs;grind
      have:=Q.c1;omega
     rw[Bbd (b:=⟨v,m,F⟩) hv hn h.map hk' hl',if_pos hs,Ae];simp only[if_true];rw[gd_t oo];obtain⟨n1,n2,n3,n4,n5,n6⟩:=Q.ne;refine⟨_,_,rfl,h.flip hv hk' hl' hD,⟨fun S hc=>?_,fun a b hF2 hab=>?_,fun _=>by simp[Aj8,putM,mput]⟩,.inr ⟨Ay4 h.map.ok (Adh hv) Q oo,by simp⟩⟩
     ·rw[Aj9 h.map.ok n1 n2 n3 n4 n5 n6];exact Q.cov hc
     ·rw[Aj9 h.map.ok n1 n2 n3 n4 n5 n6];have nf:∀ a b,Fx F a b=true->¬ ((a=s.a0/\b=s.a1)\/(a=s.a1/\b=s.a0)):=fun a b hab e=>by
       rcases e with⟨e1,e2⟩|⟨e1,e2⟩
       ·rw[e1,e2,hF] at hab;exact c3 hab
       ·rw[e1,e2,As7,hF] at hab;exact c3 hab
      rcases hab with g | g
      ·left;intro e;rcases Agx e with t | t
       ·exact g t
       ·exact nf a b hF2 t
      ·right;intro e;rcases Agx e with t | t
       ·exact g t
       ·exact nf b a (by rw[As7];exact hF2) t
  ·rw[if_neg c2];refine pop fun k' l' _ hl2=>?_
   exact absurd (by rw[show mget m (⟨s.a1,s.a0⟩:Ac)=some l' from hl2];rfl) c2
 ·rw[if_neg c1];refine pop fun k' l' hk2 _=>?_
  exact absurd (by rw[show mget m s=some k' from hk2];rfl) c1
theorem Au2{b:Am}(hv:Ij b.v)(hn:b.v.length<=1024)(hm:MapN b.v.length b.apex)(ht:Tri (plV b.v) (inN b.v.length) (apM b.apex)):
  ∃ m',Jn b=some ⟨b.v,m',b.fixed⟩/\Pb b.v b.fixed [] m'/\Uu b.v b.fixed b.apex m':=by
 have hsq:=Aho hn;have hl:=hm.len;have hf:∀ q,(Yl b.apex q).length<=1:=fun q=>by unfold Yl;split <;> simp
 have h0:Pb b.v b.fixed (Bi cmp2 (b.apex.flatMap (Yl b.apex))) b.apex:=by
  refine⟨hm,ht,fun s hs=>?_,fun i j k l hk hl=>.inl ?_⟩
  ·rw[Oa] at hs;obtain⟨q,hq,hs⟩:=mem_flatMap.1 hs;obtain⟨k1,k2,k3⟩:=hm.key q hq;unfold Yl at hs;split at hs
   ·rw[mem_singleton] at hs;subst hs;unfold inN at *;simp only;omega
   ·cases hs
  ·rw[Oa,mem_flatMap];have n1:=(ht.ne hk).1;rcases Int.lt_or_gt_of_ne n1 with c | c
   ·refine⟨(⟨i,j⟩,k),Gu hk,?_⟩;unfold Yl pr2;rw[if_pos (.inl c)];exact mem_singleton.2 rfl
   ·refine⟨(⟨j,i⟩,l),Gu hl,?_⟩;unfold Yl;rw[if_pos (.inl c),Aao];exact mem_singleton.2 rfl
 unfold Jn;rw[Ay0 hn hm,Ae];have hlen:(Bi cmp2 (b.apex.flatMap (Yl b.apex))).length<=1048576:=by
  rw[Bx];have:=Oz hf b.apex;omega
 have hphi:phi (plV b.v) (hV b.v) b.v.length b.apex<=1073741824:=by
  have h1:=Ay3 (P:=plV b.v) (H:=hV b.v) (n:=b.v.length) b.apex;have h2:=Nat.mul_le_mul (show b.apex.length<=1048576 by omega) hn;omega
 have:=Bk (B:=Dl) (fun s=>4*phi (plV b.v) (hV b.v) b.v.length s.2.1+s.2.2.2.length)
  (fun s=>s.1=b.v/\s.2.2.1=b.fixed/\Pb b.v b.fixed s.2.2.2 s.2.1/\Uu b.v b.fixed b.apex s.2.1/\4*phi (plV b.v) (hV b.v) b.v.length s.2.1+s.2.2.2.length<=5000000000)
  (fun t=>∃ m',t=⟨b.v,m',b.fixed⟩/\Pb b.v b.fixed [] m'/\Uu b.v b.fixed b.apex m') (fun s hs=>by
   obtain⟨v,m,F,q⟩:=s;obtain⟨e1,e2,h1,h2,h3⟩:=hs;simp only at e1 e2 h1 h2 h3;subst e1;subst e2
   by_cases hq:q=[]
   ·subst hq;right;refine⟨⟨b.v,m,b.fixed⟩,?_,m,rfl,h1,h2⟩;unfold Dl;rw[if_neg (by simp)]
   ·left;obtain⟨q0,s,rfl⟩:∃ q0 s,q=q0++[s]:=⟨q.dropLast,q.getLast hq,(dropLast_concat_getLast hq).symm⟩;rw[length_append,length_singleton] at h3;obtain⟨q',m',h4,h5,h6,h7⟩:=Ape hv hn h1 oo;refine⟨_,h4,⟨rfl,rfl,h5,h2.trans h6,?_⟩,?_⟩
    ·dsimp only;rcases h7 with⟨rfl,rfl⟩|⟨g1,g2⟩ <;> omega
    ·dsimp only;rw[length_append,length_singleton];rcases h7 with⟨rfl,rfl⟩|⟨g1,g2⟩ <;> omega)
  (b.v,b.apex,b.fixed,Bi cmp2 (b.apex.flatMap (Yl b.apex))) ⟨rfl,rfl,h0,.refl,by dsimp only;omega⟩
 obtain⟨t,h1,m',rfl,h2,h3⟩:=this;rw[h1,Ae];exact⟨m',rfl,h2,h3⟩
theorem Ae0{σ τ:Type}{B:σ->Option (Sum σ τ)}(st:Nat->σ)(t:τ):∀ (N:Nat),(∀ k,k<N->B (st k)=some (.inl (st (k+1))))->B (st N)=some (.inr t)->lfix B (st 0)=some t:=by
 intro N h he;have key:∀ j k,j+k=N->lfix B (st k)=some t:=by
  intro j
  induction j with
  | zero=>
   intro k hk;rw[Bd,show k=N by omega,he]
  | succ j ih=>
   intro k hk;rw[Bd,h k oo];exact ih (k+1) oo
 exact key N 0 oo
theorem Bbf{v:List Ad}{i j:Nat}(hi:i<v.length)(hj:j<v.length):befV v[i] v[j]↔befP (plV v (i:Int)) (plV v (j:Int)):=by
 unfold plV;rw[At hi,At hj];rfl
theorem Akv{v:List Ad}(hv:Ij v):Fp v:=by
 unfold Fp;rw[pairwise_iff_getElem];intro i j hi hj hij hs;have:=hv.dist (i:Int) (j:Int) ⟨oo,oo⟩ ⟨oo,oo⟩ (by
  unfold plV De;rw[At hi,At hj];exact hs)
 omega
structure Qu(v:List Ad)(l:List Int):Prop where
 perm:l.Perm (inds v.length)
 ord:l.Pairwise fun i j=>befP (plV v i) (plV v j)
theorem Apf{v:List Ad}(hv:Ij v)(hn:v.length<=1024):∃ l,Vj v=some l/\Qu v l:=by
 have hd:=Akv hv;have h0:lfix (Sx v) (([]:List Int),0)=some (inds v.length):=by
  refine Ae0 (fun k=>(inds k,(k:Int))) _ v.length (fun k hk=>?_) ?_
  ·unfold Sx;rw[if_pos (by simp only;omega),gd_t (by simp only[Aam];omega),Bg oo];unfold inds;rw[range_succ,map_append];rfl
  ·unfold Sx;rw[if_neg (by simp only;omega)]
 have hok:∀ x∈inds v.length,okIx v x:=fun x hx=>We.1 hx
 refine⟨Bi (cmpR v) (inds v.length),?_,Kj _ _,?_⟩
 ·unfold Vj;rw[jn_d,h0,Ae];exact gd_t ⟨by rw[Aam];omega,hok,hd⟩
 ·have hs:=Ta (totR hd) hok;have hp:=Kj (cmpR v) (inds v.length);have hnd:(Bi (cmpR v) (inds v.length)).Nodup:=hp.nodup_iff.2 Yj;unfold List.Nodup at hnd;have:=hs.and hnd;refine List.Pairwise.imp_of_mem ?_ this;rintro i j hi hj ⟨h1,h2⟩;obtain⟨a,ha,rfl,_⟩:=Mc (hok i (hp.mem_iff.1 hi));obtain⟨b,hb,rfl,_⟩:=Mc (hok j (hp.mem_iff.1 hj));rw[<- Bbf ha hb]
  by_cases c:befV v[a] v[b]
  ·exact c
  ·rw[Xj hb ha] at h1;exfalso;apply h2;have:=(totR hd).tot (a:Int) (b:Int) ⟨oo,oo⟩ ⟨oo,oo⟩ (by rw[Xj ha hb];exact c) (by rw[Xj hb ha];exact h1);exact this
noncomputable def putAll(m:Mp)(p:Int)(l:List Ac):Mp:=l.foldl (fun m s=>putM m s.a0 s.a1 p) m
theorem MapN.putAll{n:Nat}{p:Int}(hp:inN n p):∀ {l:List Ac} {m:Mp},MapN n m->(∀ s∈l,inN n s.a0/\inN n s.a1)->MapN n (putAll m p l)
 | [],_,h,_=>h
 | s::r,m,h,hs=>MapN.putAll hp (l:=r) (h.putM (hs s mem_cons_self).1 (hs s mem_cons_self).2 hp) fun x hx=>hs x (mem_cons_of_mem _ hx)
variable {P:Int->Ab} {V S:Int->Prop} {R:Int->Int->Prop} {p:Int}
theorem Al3{m:Mp}(hm:Do m)(h:Adds P V S (apM m) R p):∀ (l:List Ac),(∀ s∈l,Vis P R p s.a0 s.a1)->Do (putAll m p l) /\
  ∀ i j k,apM (putAll m p l) i j=some k↔apM m i j=some k\/((⟨i,j⟩∈l/\k=p)\/(⟨k,i⟩∈l/\j=p)\/(⟨j,k⟩∈l/\i=p)):=by
 intro l;generalize hr:l.reverse=r;have hl:l=r.reverse:=by rw[<- hr,reverse_reverse]
 clear hr;subst hl
 induction r with
 | nil=>intro _;exact⟨hm,fun i j k=>by simp[putAll]⟩
 | cons s r ih=>
  intro hs;have hs':∀ x∈r.reverse,Vis P R p x.a0 x.a1:=fun x hx=>hs x (by simp at hx ⊢;exact .inl hx)
  have hv:=hs s (by simp);obtain⟨i1,i2⟩:=ih hs';obtain⟨sx,sy,nxy,_⟩:=h.r1 _ _ hv.1;have np:=h.np;have e:putAll m p (s::r).reverse=putM (putAll m p r.reverse) s.a0 s.a1 p:=by
   unfold putAll;rw[reverse_cons,foldl_append];rfl
  rw[e];refine⟨((i1.put _ _).put _ _).put _ _,fun i j k=>?_⟩;rw[Adi i1];have visS:∀ {x y:Int},(⟨x,y⟩:Ac)∈r.reverse->Vis P R p x y:=fun hx=>hs' _ hx
  have k1:∀ c,apM (putAll m p r.reverse) p s.a0=some c->c=s.a1:=fun c hc=>by
   rcases (i2 _ _ _).1 hc with g | ⟨g,_⟩|⟨g,_⟩|⟨g,_⟩
   ·exact absurd (h.used _ _ _ g) np
   ·exact absurd (h.r1 _ _ (visS g).1).1 np
   ·exact absurd (h.r1 _ _ (visS g).1).2.1 np
   ·exact h.uniq2 (visS g) hv
  have k2:∀ c,apM (putAll m p r.reverse) s.a1 p=some c->c=s.a0:=fun c hc=>by
   rcases (i2 _ _ _).1 hc with g | ⟨g,_⟩|⟨g,_⟩|⟨g,e⟩
   ·exact absurd (h.used _ _ _ (h.tri.rot _ _ _ g)) np
   ·exact absurd (h.r1 _ _ (visS g).1).2.1 np
   ·exact h.uniq (visS g) hv
   ·exact absurd (e ▸ sy) np
  have k3:∀ c,apM (putAll m p r.reverse) s.a0 s.a1=some c->c=p:=fun c hc=>by
   rcases (i2 _ _ _).1 hc with g | ⟨_,g⟩|⟨_,e⟩|⟨_,e⟩
   ·rw[h.r4 _ _ hv.1] at g;cases g
   ·exact g
   ·exact absurd (e ▸ sy) np
   ·exact absurd (e ▸ sx) np
  have mem:∀ x y:Int,(⟨x,y⟩:Ac)∈(s::r).reverse↔(x=s.a0/\y=s.a1)\/(⟨x,y⟩:Ac)∈r.reverse:=fun x y=>by
   obtain⟨s0,s1⟩:=s;rw[reverse_cons,mem_append,mem_singleton,Nn];exact Or.comm
  rw[mem,mem,mem];have i2':=i2 i j k
  by_cases c1:i=p/\j=s.a0
  ·rw[if_pos c1];obtain⟨rfl,rfl⟩:=c1;constructor
   ·intro hk;cases hk
    exact .inr (.inr (.inr ⟨.inl ⟨rfl,rfl⟩,rfl⟩))
   ·rintro (g | ⟨⟨e1,_⟩ | g,e⟩|⟨⟨_,e2⟩ | g,e⟩|⟨⟨_,e2⟩ | g,_⟩)
    ·exact absurd (h.used _ _ _ g) np
    ·exact absurd (e1 ▸ sx) np
    ·exact absurd (h.r1 _ _ (visS g).1).1 np
    ·exact absurd (e2 ▸ sy) np
    ·exact absurd (h.r1 _ _ (visS g).1).2.1 np
    ·rw[e2]
    ·rw[h.uniq2 hv (visS g)]
  rw[if_neg c1]
  by_cases c2:i=s.a1/\j=p
  ·rw[if_pos c2];obtain⟨rfl,rfl⟩:=c2;constructor
   ·intro hk;cases hk
    exact .inr (.inr (.inl ⟨.inl ⟨rfl,rfl⟩,rfl⟩))
   ·rintro (g | ⟨⟨_,e1⟩ | g,e⟩|⟨⟨e1,_⟩ | g,e⟩|⟨⟨e1,_⟩ | g,e⟩)
    ·exact absurd (h.used _ _ _ (h.tri.rot _ _ _ g)) np
    ·exact absurd (e1 ▸ sy) np
    ·exact absurd (h.r1 _ _ (visS g).1).2.1 np
    ·rw[e1]
    ·rw[h.uniq hv (visS g)]
    ·exact absurd (e ▸ sy) np
    ·exact absurd (e ▸ sy) np
  rw[if_neg c2]
  by_cases c3:i=s.a0/\j=s.a1
  ·rw[if_pos c3];obtain⟨rfl,rfl⟩:=c3;constructor
   ·intro hk;cases hk
    exact .inr (.inl ⟨.inl ⟨rfl,rfl⟩,rfl⟩)
   ·rintro (g | ⟨_,e⟩|⟨_,e⟩|⟨_,e⟩)
    ·rw[h.r4 _ _ hv.1] at g;cases g
    ·rw[e]
    ·exact absurd (e ▸ sy) np
    ·exact absurd (e ▸ sx) np
  rw[if_neg c3,i2'];constructor
  ·rintro (g | ⟨g,e⟩|⟨g,e⟩|⟨g,e⟩)
   ·exact .inl g
   ·exact .inr (.inl ⟨.inr g,e⟩)
   ·exact .inr (.inr (.inl ⟨.inr g,e⟩))
   ·exact .inr (.inr (.inr ⟨.inr g,e⟩))
  ·rintro (g | ⟨g | g,e⟩|⟨g | g,e⟩|⟨g | g,e⟩)
   ·exact .inl g
   ·exact absurd g c3
   ·exact .inr (.inl ⟨g,e⟩)
   ·exact absurd ⟨g.2,e⟩ c2
   ·exact .inr (.inr (.inl ⟨g,e⟩))
   ·exact absurd ⟨e,g.1⟩ c1
   ·exact .inr (.inr (.inr ⟨g,e⟩))
end Go.Proofs.YthlkpgdfifnagaaGreat
namespace Go.Proofs.YthlkpgdfifnagaaGreat
open Go Go.RowKit List
theorem Akw{a b c q:Ab}(h1:befP a b)(h2:befP b c)(h0:crs a b c=0)(hq:crs a b q<0):crs b c q<0:=by
 have m:∀ x y z:Ab,crs ⟨x.X,-x.Y⟩ ⟨y.X,-y.Y⟩ ⟨z.X,-z.Y⟩ = -crs x y z:=fun x y z=>by unfold crs;grind
 have e1:crs b c q*(b.X-a.X)=crs a b q*(c.X-b.X)-(q.X-b.X)*crs a b c:=by unfold crs;grind
 have e2:crs b c q*(b.Y-a.Y)=crs a b q*(c.Y-b.Y)-(q.Y-b.Y)*crs a b c:=by unfold crs;grind
 have e3:(b.X-a.X)*(c.Y-b.Y)-(b.Y-a.Y)*(c.X-b.X)=crs a b c:=by unfold crs;grind
 rw[h0,Int.mul_zero,Int.sub_zero] at e1 e2;rw[h0] at e3;have fin:∀ x w z:Int,x*w=crs a b q*z->0<w->0<z->x<0:=fun x w z e hw hz=>by
  have:=Int.mul_neg_of_neg_of_pos hq hz;rcases Int.lt_or_le x 0 with k | k
  ·exact k
  ·have:=Int.mul_nonneg k (Int.le_of_lt hw);omega
 by_cases g:a.X<b.X
 ·have hc:b.X<c.X:=by
   rcases Int.lt_or_le b.X c.X with k | k
   ·exact k
   ·have hx:c.X=b.X:=by unfold befP at h2;omega
    have hy:b.Y<c.Y:=by unfold befP at h2;omega
    have z:c.X-b.X=0:=oo;rw[z,Int.mul_zero] at e3;have:=Int.mul_pos (show 0<b.X-a.X by omega) (show 0<c.Y-b.Y by omega);omega
  exact fin _ _ _ e1 oo oo
 ·have hx:a.X=b.X:=by unfold befP at h1;omega
  have hy:a.Y<b.Y:=by unfold befP at h1;omega
  have hc:b.X=c.X:=by
   have z:b.X-a.X=0:=oo;rw[z,Int.zero_mul] at e3;have:(b.Y-a.Y)*(c.X-b.X)=0:=oo;rcases Int.mul_eq_zero.1 this with k | k <;> omega
  have hy2:b.Y<c.Y:=by unfold befP at h2;omega
  exact fin _ _ _ e2 oo oo
section
variable {v:List Ad} {l:List Int}
theorem Qu.len(hr:Qu v l):l.length=v.length:=by rw[hr.perm.length_eq,Aam]
theorem Qu.val(hr:Qu v l){i:Int}:i∈l↔inN v.length i:=by rw[hr.perm.mem_iff,We]
theorem Qu.lt(hr:Qu v l){a b:Nat}(ha:a<l.length)(hb:b<l.length)(h:a<b):befP (plV v l[a]) (plV v l[b]):=(pairwise_iff_getElem.1 hr.ord) a b ha hb h
theorem Qu.inj(hr:Qu v l){a b:Nat}(ha:a<l.length)(hb:b<l.length)(h:l[a]=l[b]):a=b:=by
 rcases Nat.lt_trichotomy a b with c | c | c
 ·have:=hr.lt ha hb c;rw[h] at this;exact (Vl this this).elim
 ·exact c
 ·have:=hr.lt hb ha c;rw[h] at this;exact (Vl this this).elim
def Pd(l:List Int)(k:Nat)(i:Int):Prop:=∃ (j:Nat) (hj:j<l.length),j<k/\i=l[j]
structure Al4(v:List Ad)(l:List Int)(k:Nat)(m:Mp):Prop where
 map:MapN v.length m
 tri:Tri (plV v) (inN v.length) (apM m)
 cov:Cov (plV v) (Pd l k) (apM m)
 used:∀ i j c,apM m i j=some c->Pd l k i
theorem Pd.succ{k:Nat}(hk:k<l.length){i:Int}:Pd l (k+1) i↔Pd l k i\/i=l[k]:=by
 constructor
 ·rintro⟨j,hj,h1,rfl⟩
  by_cases e:j=k
  ·subst e;exact .inr rfl
  ·exact .inl ⟨j,hj,oo,rfl⟩
 ·rintro (⟨j,hj,h1,rfl⟩ | rfl)
  ·exact⟨j,hj,oo,rfl⟩
  ·exact⟨k,hk,oo,rfl⟩
theorem Qu.place(hr:Qu v l){k:Nat}(hk:k<l.length):(∀ i,Pd l k i->inN v.length i)/\inN v.length l[k]/\¬ Pd l k l[k]/\(∀ i,Pd l k i->befP (plV v i) (plV v l[k]))/\(∀ i,inN v.length i->¬ Pd l k i->i≠l[k]->befP (plV v l[k]) (plV v i)):=by
 refine⟨fun i hi=>?_,hr.val.1 (getElem_mem hk),fun hp=>?_,fun i hi=>?_,fun i hi h1 h2=>?_⟩
 ·obtain⟨j,hj,_,rfl⟩:=hi;exact hr.val.1 (getElem_mem hj)
 ·obtain⟨j,hj,h1,e⟩:=hp;have:=hr.inj hk hj e;omega
 ·obtain⟨j,hj,h1,rfl⟩:=hi;exact hr.lt hj hk h1
 ·obtain⟨j,hj,rfl⟩:=getElem_of_mem (hr.val.2 hi);refine hr.lt hk hj ?_;rcases Nat.lt_trichotomy j k with c | c | c
  ·exact absurd ⟨j,hj,c,rfl⟩ h1
  ·subst c;exact absurd rfl h2
  ·exact c
def visB(v:List Ad)(p:Int)(s:Ac):Bool:=decide (0<crs (plV v s.a0) (plV v s.a1) (plV v p))
theorem Bek(hv:Ij v)(hn:v.length<=1024){F:List (Ac × Bool)}{b:Am}{rl:List Ac}{m:Mp}(hm:MapN v.length m){p:Int}(hp:inN v.length p)(hrl:∀ s∈rl,inN v.length s.a0/\inN v.length s.a1)(hlen:rl.length<=2000000):
  lfix (Dk (b,rl) p) (v,m,F,0)=some (v,putAll m p (rl.filter (visB v p)),F):=by
 have hM:∀ k,MapN v.length (putAll m p ((rl.take k).filter (visB v p))):=fun k=>hm.putAll hp fun s hs=>hrl s (mem_of_mem_take (mem_filter.1 hs).1)
 have:=Ae0 (B:=Dk (b,rl) p) (fun k=>(v,putAll m p ((rl.take k).filter (visB v p)),F,(k:Int))) (v,putAll m p (rl.filter (visB v p)),F) rl.length (fun k hk=>?_) ?_
 ·simpa[putAll] using this
 ·unfold Dk;have hs:=hrl rl[k] (getElem_mem hk);have e:(rl.take (k+1)).filter (visB v p)=(rl.take k).filter (visB v p)++if visB v p rl[k] then [rl[k]] else []:=by
   rw[take_succ_eq_append_getElem hk,filter_append,filter_cons,filter_nil]
  simp only;rw[if_pos oo,jn_d,At hk,Ae,p_eq (b:=⟨v,_,F⟩) hs.1,Ae,p_eq (b:=⟨v,_,F⟩) hs.2,Ae,p_eq (b:=⟨v,_,F⟩) hp,Ae,turn_eq (hv.ok _ hs.1) (hv.ok _ hs.2) (hv.ok _ hp),Ae,Bg oo,e]
  by_cases c:0<crs (plV v rl[k].a0) (plV v rl[k].a1) (plV v p)
  ·rw[Int.sign_eq_one_of_pos c,if_pos oo,Aka (b:=⟨v,putAll m p ((rl.take k).filter (visB v p)),F⟩) hn (hM k) hs.1 hs.2 hp,Ae,if_pos (by unfold visB;simpa using c)];dsimp only;unfold putAll;rw[foldl_append];rfl
  ·rw[if_neg (fun g=>c (by
    rcases Int.lt_trichotomy (crs (plV v rl[k].a0) (plV v rl[k].a1) (plV v p)) 0 with t | t | t
    ·rw[Int.sign_eq_neg_one_of_neg t] at g;omega
    ·rw[t] at g;simp at g
    ·exact t)),if_neg (by unfold visB;simpa using c),append_nil]
 ·unfold Dk;simp only;rw[if_neg oo,take_length]
theorem Al4.step(hv:Ij v)(hn:v.length<=1024)(hr:Qu v l){F:List (Ac × Bool)}{k:Nat}(hk:k<l.length){m:Mp}(h:Al4 v l k m):
  ∃ m',(bnd (Hy ⟨v,m,F⟩) fun r498=>bnd (lfix (Dk r498 l[k]) (r498.1.v,r498.1.apex,r498.1.fixed,0)) fun t=>some t)=some (v,m',F)/\Al4 v l (k+1) m'/\(m≠[]->m'≠[]):=by
 obtain⟨q1,q2,q3,q4,q5⟩:=hr.place hk;have hA:=Ayz h.tri h.cov h.used q1 q2 q3 q4 q5;have hsq:=Aho hn;have hl:=h.map.len;have hf:∀ q,(rimF m q).length<=1:=fun q=>by unfold rimF;split <;> simp
 have hmem:∀ x y:Int,(⟨x,y⟩:Ac)∈m.flatMap (rimF m)↔Rim (apM m) x y:=fun x y=>by
  rw[mem_flatMap];constructor
  ·rintro⟨q,hq,hx⟩;unfold rimF at hx;split at hx
   ·cases hx
   ·rename_i hn;rw[mem_singleton] at hx;obtain⟨⟨a,b⟩,c⟩:=q;unfold rev2 at hx hn;rw[Nn] at hx;simp only at hx hn;obtain⟨rfl,rfl⟩:=hx;refine⟨⟨c,St h.map.ok hq⟩,?_⟩;simpa[apM] using hn
  ·rintro⟨⟨c,hc⟩,hn⟩;refine⟨(⟨y,x⟩,c),Gu hc,?_⟩;unfold rimF rev2;rw[if_neg (by rw[show mget m (⟨x,y⟩:Ac)=none from hn];simp)];exact mem_singleton.2 rfl
 have hrl:∀ s∈Bi cmp2 (m.flatMap (rimF m)),inN v.length s.a0/\inN v.length s.a1:=fun s hs=>by
  rw[Oa] at hs;obtain⟨x,y⟩:=s;obtain⟨⟨c,hc⟩,_⟩:=(hmem x y).1 hs;have:=h.map.val hc;exact⟨this.2.1,this.1⟩
 have hlen:(Bi cmp2 (m.flatMap (rimF m))).length<=2000000:=by
  rw[Bx];have:=Oz hf m;omega
 rw[Bei (b:=⟨v,m,F⟩) hn h.map,Ae];dsimp only;rw[Bek hv hn h.map q2 hrl hlen,Ae];have hvis:∀ s∈(Bi cmp2 (m.flatMap (rimF m))).filter (visB v l[k]),Vis (plV v) (Rim (apM m)) l[k] s.a0 s.a1:=fun s hs=>by
  obtain⟨h1,h2⟩:=mem_filter.1 hs;rw[Oa] at h1;exact⟨(hmem s.a0 s.a1).1 h1,by unfold visB at h2;simpa using h2⟩
 have hmv:∀ x y:Int,(⟨x,y⟩:Ac)∈(Bi cmp2 (m.flatMap (rimF m))).filter (visB v l[k])↔Vis (plV v) (Rim (apM m)) l[k] x y:=fun x y=>by
  constructor
  ·exact fun hs=>hvis _ hs
  ·rintro⟨h1,h2⟩;exact mem_filter.2 ⟨Oa.2 ((hmem x y).2 h1),by unfold visB;simpa using h2⟩
 obtain⟨o1,o2⟩:=Al3 h.map.ok hA _ hvis;have hN:∀ i j c,apM (putAll m l[k] ((Bi cmp2 (m.flatMap (rimF m))).filter (visB v l[k]))) i j=some c↔apM m i j=some c\/New (plV v) (Rim (apM m)) l[k] i j c:=fun i j c=>by
  rw[o2,hmv,hmv,hmv];rfl
 refine⟨_,rfl,⟨?_,hA.tri' hN,?_,?_⟩,fun hne=>?_⟩
 ·exact h.map.putAll q2 fun s hs=>hrl s (mem_filter.1 hs).1
 ·have:=hA.cov' hN h.cov;intro i j c hc hn d hd;exact this i j c hc hn d ((Pd.succ hk).1 hd)
 ·intro i j c hc;exact (Pd.succ hk).2 (hA.used' hN i j c hc)
 ·obtain⟨q,hq⟩:=exists_mem_of_ne_nil m hne;intro e;obtain⟨⟨a,b⟩,c⟩:=q;have hc:apM m a b=some c:=St h.map.ok hq;have:=(hN a b c).2 (.inl hc);rw[e] at this;cases this
end
end Go.Proofs.YthlkpgdfifnagaaGreat
