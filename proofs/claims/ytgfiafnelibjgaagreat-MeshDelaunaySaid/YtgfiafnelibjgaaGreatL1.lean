/- Places on one line, and one beside it. -/
import Derived.Test.YtgfiafnelibjgaaGreatK10
import Derived.Test.YtgfiafnelibjgaaGreatD5
namespace Go.Proofs.YtgfiafnelibjgaaGreat
open Go Go.RowKit
variable {P:Int→Ac} {S:Int→Prop} {ap:Ap} {p:Int} {n:Nat}
theorem Alw {V:Int→Prop} (h:∀ i j,ap i j=none):Tri P V ap :=
 ⟨fun i j k hk=>(by rw [h] at hk;cases hk),fun i j k hk=>(by rw [h] at hk;cases hk),fun i j k hk=>(by rw [h] at hk;cases hk),fun s a b m hk=>(by rw [h] at hk;cases hk)⟩
def Agp (u:Nat→Int) (m:Nat) (x y:Int):Prop:=∃ i,i+1 < m∧x=u i∧y=u (i+1)
theorem Aco {u:Nat→Int} {m:Nat} (he:∀ i j,ap i j=none) (hS:∀ i,S i↔∃ k,k < m∧i=u k) (col:∀ a b c,S a→S b→S c→crs (P a) (P b) (P c)=0) (inc:∀ i,i+1 < m→0 < crs (P (u i)) (P (u (i+1))) (P p))
  (sv:∀ i,S i→inN n i) (vp:inN n p) (np:¬ S p) (before:∀ i,S i→befP (P i) (P p)) (behind:∀ i,inN n i→¬ S i→i≠p→befP (P p) (P i)):Adds P (inN n) S ap (Agp u m) p:=by
 have su:∀ k,k < m→S (u k):=fun k hk=>(hS _).2 ⟨k,hk,rfl⟩
 -- where on the line a place is
 have hg:∀ a b,S a→S b→0 < m→crs (P a) (P b) (P p)=crs (P (u 0)) (P b) (P p)-crs (P (u 0)) (P a) (P p):=fun a b ha hb hm=>by
  have e:=Lz (P (u 0)) (P a) (P b) (P p)
  rw [col _ _ _ (su 0 hm) ha hb] at e
  have e2:crs (P b) (P (u 0)) (P p) = -crs (P (u 0)) (P b) (P p):=Aw _ _ _
  omega
 have mono:∀ i j,i < j→j < m→crs (P (u 0)) (P (u i)) (P p) < crs (P (u 0)) (P (u j)) (P p):=by
  intro i j hij
  induction j with
  | zero=>omega
  | succ j ih =>
   intro hj
   have h1:=inc j hj
   rw [hg _ _ (su j (by omega)) (su (j+1) hj) (by omega)] at h1
   by_cases e:i=j
   ·subst e;omega
   ·have:=ih (by omega) (by omega);omega
 refine ⟨Alw he,fun i j k hk=>(by rw [he] at hk;cases hk),sv,vp,np,before,behind,?_,?_,?_,fun x y _=>he x y,?_,fun i j k hk=>(by rw [he] at hk;cases hk)⟩
 ·rintro x y ⟨i,hi,rfl,rfl⟩
  refine ⟨su i (by omega),su (i+1) hi,?_,fun d hd=>by rw [col _ _ _ (su i (by omega)) (su (i+1) hi) hd];exact Int.le_refl _⟩
  exact (Vb (P:=P) (c:=p) (by have:=inc i hi;omega)).1
 ·rintro x y ⟨⟨i,hi,rfl,rfl⟩,hp⟩ d hd n1 n2 _
  obtain ⟨j,hj,rfl⟩:=(hS d).1 hd
  have e1:crs (P (u (i+1))) (P p) (P (u j))=crs (P (u j)) (P (u (i+1))) (P p):=Am _ _ _
  have e2:crs (P p) (P (u i)) (P (u j))=crs (P (u i)) (P (u j)) (P p):=by rw [← Am,← Am]
  rw [e1,e2,hg _ _ hd (su (i+1) hi) (by omega),hg _ _ (su i (by omega)) hd (by omega)]
  have nij:j≠i:=fun e=>n1 (by rw [e])
  have nij':j≠i+1:=fun e=>n2 (by rw [e])
  rcases Nat.lt_or_ge j i with c | c
  ·have:=mono j i c (by omega);right;omega
  ·have:=mono (i+1) j (by omega) hj;left;omega
 ·rintro x y ⟨⟨i,hi,rfl,rfl⟩,hp⟩
  constructor
  ·by_cases c:i+2 < m
   ·exact .inl ⟨u (i+2),⟨i+1,c,rfl,rfl⟩,inc (i+1) c⟩
   ·right
    intro d hd
    obtain ⟨j,hj,rfl⟩:=(hS d).1 hd
    have e1:crs (P (u (i+1))) (P p) (P (u j))=crs (P (u j)) (P (u (i+1))) (P p):=Am _ _ _
    rw [e1,hg _ _ hd (su (i+1) hi) (by omega)]
    by_cases e:j=i+1
    ·subst e;omega
    ·have:=mono j (i+1) (by omega) hi;omega
  ·by_cases c:0 < i
   ·left
    obtain ⟨i',rfl⟩:∃ i',i=i' + 1:=⟨i-1,by omega⟩
    exact ⟨u i',⟨i',by omega,rfl,rfl⟩,inc i' (by omega)⟩
   ·right
    intro d hd
    obtain ⟨j,hj,rfl⟩:=(hS d).1 hd
    have e2:crs (P p) (P (u i)) (P (u j))=crs (P (u i)) (P (u j)) (P p):=by rw [← Am,← Am]
    rw [e2,hg _ _ (su i (by omega)) hd (by omega)]
    by_cases e:j=i
    ·subst e;omega
    ·have:=mono i j (by omega) hj;omega
 ·rintro x y ⟨⟨i,hi,rfl,rfl⟩,hp⟩
  exact .inr ⟨he,fun d hd=>by rw [col _ _ _ (su i (by omega)) (su (i+1) hi) hd];exact Int.le_refl _⟩
/-- Three places on a line in their order: a place beside the line sees both parts from the same side. -/
theorem Alx {a b c q:Ac} (h1:befP a b) (h2:befP b c) (h0:crs a b c=0) (hq:0 < crs a b q):0 < crs b c q:=by
 have e1:crs b c q*(b.X-a.X)=crs a b q*(c.X-b.X)-(q.X-b.X)*crs a b c:=by unfold crs;grind
 have e2:crs b c q*(b.Y-a.Y)=crs a b q*(c.Y-b.Y)-(q.Y-b.Y)*crs a b c:=by unfold crs;grind
 have e3:(b.X-a.X)*(c.Y-b.Y)-(b.Y-a.Y)*(c.X-b.X)=crs a b c:=by unfold crs;grind
 rw [h0,Int.mul_zero,Int.sub_zero] at e1 e2
 rw [h0] at e3
 by_cases g:a.X < b.X
 ·-- then c lies further to the right
  have hc:b.X < c.X:=by
   rcases Int.lt_or_le b.X c.X with k | k
   ·exact k
   ·have hx:c.X=b.X:=by unfold befP at h2;omega
    have hy:b.Y < c.Y:=by unfold befP at h2;omega
    have z:c.X-b.X=0:=by omega
    rw [z,Int.mul_zero] at e3
    have:=Int.mul_pos (show 0 < b.X-a.X by omega) (show 0 < c.Y-b.Y by omega)
    omega
  have:=Int.mul_pos hq (show 0 < c.X-b.X by omega)
  exact Ch (x:=b.X-a.X) (by rw [Int.mul_comm];omega) (by omega)
 ·have hx:a.X=b.X:=by unfold befP at h1;omega
  have hy:a.Y < b.Y:=by unfold befP at h1;omega
  have hc:b.X=c.X:=by
   have z:b.X-a.X=0:=by omega
   rw [z,Int.zero_mul] at e3
   have:(b.Y-a.Y)*(c.X-b.X)=0:=by omega
   rcases Int.mul_eq_zero.1 this with k | k <;> omega
  have hy2:b.Y < c.Y:=by unfold befP at h2;omega
  have:=Int.mul_pos hq (show 0 < c.Y-b.Y by omega)
  exact Ch (x:=b.Y-a.Y) (by rw [Int.mul_comm];omega) (by omega)
/-- On one line. -/
theorem Us {a b u w z:Ac} (hab:¬ Bj a b) (h1:crs a b u=0) (h2:crs a b w=0) (h3:crs a b z=0):crs u w z=0:=by
 have e1:(b.X-a.X)*crs u w z=(w.X-u.X)*(crs a b z-crs a b u)-(z.X-u.X)*(crs a b w-crs a b u):=by unfold crs;grind
 have e2:(b.Y-a.Y)*crs u w z=(w.Y-u.Y)*(crs a b z-crs a b u)-(z.Y-u.Y)*(crs a b w-crs a b u):=by unfold crs;grind
 rw [h1,h2,h3] at e1 e2
 simp only [Int.sub_self,Int.mul_zero] at e1 e2
 rcases Int.mul_eq_zero.1 e1 with g | g
 ·rcases Int.mul_eq_zero.1 e2 with g' | g'
  ·exact absurd ⟨by omega,by omega⟩ hab
  ·exact g'
 ·exact g
end Go.Proofs.YtgfiafnelibjgaaGreat
/- Sorted lists; loops over maps that collect: the sides and the triangles of a builder. -/
namespace Go.Proofs.YtgfiafnelibjgaaGreat
open Go Go.RowKit Go.Shelf Go.Sort
theorem Gc {α:Type} (cf:α→α→Int) (l:List α):(Av cf l).Perm l:=List.mergeSort_perm _ _
theorem Mo {α:Type} {p:α→Prop} {cf:α→α→Int} (hT:Tq p cf) {l:List α} (hp:∀ x∈l,p x):(Av cf l).Pairwise fun x y=>¬ cf y x < 0:=by
 obtain ⟨l',rfl⟩:∃ l':List {x // p x},l=l'.map Subtype.val:=⟨l.attach.map fun x=>⟨x.1,hp x.1 x.2⟩,by simp only [List.map_map,Function.comp_def];exact (List.attach_map_subtype_val _).symm⟩
 rw [Xi,List.pairwise_map]
 have:=List.pairwise_mergeSort (le:=fun x y:{x // p x}=>!(ltOf fun x y:{x // p x}=>cf x.1 y.1) y x)
  (fun a b c h1 h2=>by
   simp only [Bool.not_eq_true',Ph] at *
   intro h3
   by_cases h4:cf b.1 a.1 < 0
   ·exact h1 h4
   ·by_cases h5:cf c.1 b.1 < 0
    ·exact h2 h5
    ·by_cases h6:cf a.1 b.1 < 0
     ·exact h2 (hT.trans _ _ _ c.2 a.2 b.2 h3 h6)
     ·have:=hT.tot _ _ a.2 b.2 h6 h4
      rw [this] at h3
      exact h2 h3)
  (fun a b=>by
   by_cases h1:cf b.1 a.1 < 0
   ·have:¬ cf a.1 b.1 < 0:=fun h2=>hT.irr _ a.2 (hT.trans _ _ _ a.2 b.2 a.2 h2 h1)
    rw [Bool.or_eq_true]
    right
    rw [Bool.not_eq_true']
    exact Ph.2 this
   ·rw [Bool.or_eq_true]
    left
    rw [Bool.not_eq_true']
    exact Ph.2 h1) l'
 exact this.imp fun h=>by simpa [Ph] using h
theorem Zn {α:Type} {p:α→Prop} {cf:α→α→Int} (hT:Tq p cf) {l l':List α} (hp:∀ x∈l,p x) (hl:l.Pairwise fun x y=>¬ cf y x < 0) (hl':l'.Pairwise fun x y=>¬ cf y x < 0) (h:l.Perm l'):l=l' :=
 List.Perm.eq_of_pairwise (fun a b ha hb h1 h2=>hT.tot a b (hp a ha) (hp b (h.mem_iff.2 hb)) h2 h1) hl hl' h
theorem Sw {α:Type} {p:α→Prop} {cf:α→α→Int} (hT:Tq p cf) {l l':List α} (hp:∀ x∈l,p x) (h:l.Perm l'):Av cf l=Av cf l':=by
 have hp':∀ x∈l',p x:=fun x hx=>hp x (h.mem_iff.2 hx)
 refine Zn hT (fun x hx=>hp x ((Gc cf l).mem_iff.1 hx)) (Mo hT hp) (Mo hT hp') (((Gc cf l).trans h).trans (Gc cf l').symm)
theorem Gu {α:Type} {cf:α→α→Int} {l:List α} {x:α}:x∈Av cf l↔x∈l:=(Gc cf l).mem_iff
/-! ### loops over maps that collect -/
theorem Aeb {κ υ:Type} {m:List (κ × υ)} (hm:El m) {q:κ × υ} (hq:q∈m):m.Perm (q::mdel m q.1):=by
 induction m with
 | nil=>cases hq
 | cons a r ih =>
  obtain ⟨h1,h2⟩:=List.pairwise_cons.1 hm
  unfold mdel
  rcases List.mem_cons.1 hq with rfl | hq
  ·rw [List.filter_cons_of_neg (by simp),List.filter_eq_self.2 (fun p hp=>by simp only [decide_eq_true_eq];exact fun e=>h1 p hp e.symm)]
  ·rw [List.filter_cons_of_pos (by simp only [decide_eq_true_eq];exact h1 q hq)]
   exact ((ih h2 hq).cons a).trans (List.Perm.swap _ _ _)
theorem Zo {κ υ β ρ:Type} {BN:List β→Option (Sum (List β) (List β))} {BS:List β→κ × υ→Option (Sum (List β) (List β))} {m:List (κ × υ)} (hm:El m) (f:κ × υ→List β) (hf:∀ q,(f q).length≤1)
  (hN:∀ s,BN s=some (.inr s)) (hS:∀ s,∀ q∈m,s.length < m.length→BS s q=some (.inl (s++f q))) {k:List β→Option ρ} {r:ρ} (hk:∀ l,l.Perm (m.flatMap f)→k l=some r):Akf BN BS m [] k=some r:=by
 have key:∀ (n:Nat) (l:List (κ × υ)) (s:List β),l.length=n→El l→(∀ q∈l,q∈m)→s.length+l.length≤m.length→(∀ q:List (κ × υ),q.Perm l→k (s++q.flatMap f)=some r)→MR (mkN BN k) (mkS BS k) l s r:=by
  intro n
  induction n with
  | zero =>
   intro l s hn _ _ _ hk
   have:l=[]:=List.eq_nil_of_length_eq_zero hn
   subst this
   refine .nil ?_
   have:=hk [] (List.Perm.refl _)
   rw [List.flatMap_nil,List.append_nil] at this
   unfold mkN
   rw [hN]
   simp only [this]
  | succ n ih =>
   intro l s hn hl hs hlen hk
   have hb:∀ q∈l,mkS BS k s q=some (.inl (s++f q)):=fun q hq=>by
    unfold mkS mkN
    simp only [hS s q (hs q hq) (by omega)]
   refine .cons (fun e=>by subst e;simp at hn) (fun q hq=>by rw [hb q hq];rfl) (fun q hq t' e=>by rw [hb q hq] at e;cases e) (fun q hq s' e=>?_)
   rw [hb q hq] at e
   cases e
   have hp:=Aeb hl hq
   have hlen2:=hp.length_eq
   rw [List.length_cons] at hlen2
   refine ih (mdel l q.1) (s++f q) (by omega) (hl.del _) (fun x hx=>hs x (Lw.1 hx).1) (by rw [List.length_append];have:=hf q;omega) (fun w hw=>?_)
   rw [List.append_assoc,← List.flatMap_cons]
   exact hk _ ((hw.cons q).trans hp.symm)
 refine Arb (key m.length m [] rfl hm (fun _ h=>h) (by simp) fun q hq=>?_)
 rw [List.nil_append]
 exact hk _ (List.Perm.flatMap_right f hq)
/-! ### the builder's lists -/
abbrev Mp:=List (Aa × Int)
/-- Keys of a builder's map over n places. -/
structure MapN (n:Nat) (m:Mp):Prop where
 ok:El m
 key:∀ q∈m,inN n q.1.a0∧inN n q.1.a1∧inN n q.2
theorem MapN.len {n:Nat} {m:Mp} (h:MapN n m):m.length≤n*n:=by
 have h1:(m.map fun q=>(q.1.a0.toNat*n+q.1.a1.toNat)).Nodup:=by
  unfold List.Nodup
  rw [List.pairwise_map]
  refine List.Pairwise.imp_of_mem ?_ h.ok
  intro a b ha hb hne e
  obtain ⟨⟨a1,a2⟩,⟨a3,a4⟩,_⟩:=h.key a ha
  obtain ⟨⟨b1,b2⟩,⟨b3,b4⟩,_⟩:=h.key b hb
  have e1:a.1.a1.toNat=b.1.a1.toNat:=by
   have:=congrArg (· % n) e
   simp only [Nat.mul_add_mod_self_right] at this
   rwa [Nat.mod_eq_of_lt (by omega),Nat.mod_eq_of_lt (by omega)] at this
  have e2:a.1.a0.toNat=b.1.a0.toNat:=by
   rw [e1] at e
   have e':a.1.a0.toNat*n=b.1.a0.toNat*n:=by omega
   exact Nat.eq_of_mul_eq_mul_right (by omega) e'
  apply hne
  obtain ⟨⟨x,y⟩,c⟩:=a
  obtain ⟨⟨x',y'⟩,c'⟩:=b
  simp only at *
  rw [show x=x' by omega,show y=y' by omega]
 have:=Hw (m:=List.range (n*n)) h1 fun x hx=>by
  obtain ⟨q,hq,rfl⟩:=List.mem_map.1 hx
  obtain ⟨⟨a1,a2⟩,⟨a3,a4⟩,_⟩:=h.key q hq
  rw [List.mem_range]
  have h3:q.1.a0.toNat+1≤n:=by omega
  have:=Nat.mul_le_mul_right n h3
  rw [Nat.add_mul] at this
  omega
 rwa [List.length_map,List.length_range] at this
def rev2 (k:Aa):Aa:=⟨k.a1,k.a0⟩
noncomputable def rimF (m:Mp) (q:Aa × Int):List Aa:=if (mget m (rev2 q.1)).isSome=true then [] else [rev2 q.1]
noncomputable def Gx (m:Mp) (q:Aa × Int):List Aa:=if q.1.a0 < q.1.a1∨(mget m (rev2 q.1)).isSome=false then [⟨min q.1.a0 q.1.a1,max q.1.a0 q.1.a1⟩] else []
def triF (q:Aa × Int):List Ai:=if q.1.a0 < q.1.a1∧q.1.a0 < q.2 then [⟨q.1.a0,q.1.a1,q.2⟩] else []
theorem Aec {n:Nat} (hn:n≤1024) {k:Aa} (h1:inN n k.a0) (h2:inN n k.a1):Lb k:=by
 unfold inN at h1 h2
 exact ⟨⟨by omega,by omega⟩,by omega,by omega⟩
theorem Kz {n:Nat} (hn:n≤1024) {i j:Int} (h1:inN n i) (h2:inN n j):(-9223372036854775808≤i∧i≤9223372036854775807)∧-9223372036854775808≤j∧j≤9223372036854775807:=by
 unfold inN at h1 h2
 exact ⟨⟨by omega,by omega⟩,by omega,by omega⟩
theorem Yk {n:Nat} (hn:n≤1024):n*n≤1048576:=Nat.mul_le_mul hn hn
theorem Hd {α β:Type} {f:α→List β} (hf:∀ q,(f q).length≤1):∀ l:List α,(l.flatMap f).length≤l.length
 | []=>by simp
 | a::r=>by
  rw [List.flatMap_cons,List.length_append,List.length_cons]
  have:=hf a
  have:=Hd hf r
  omega
theorem Atg {n:Nat} (hn:n≤1024) {b:Ad} (hm:MapN n b.apex):Ii b=some (b,Av cmp2 (b.apex.flatMap (rimF b.apex))):=by
 have hl:=hm.len
 have hsq:=Yk hn
 have hf:∀ q,(rimF b.apex q).length≤1:=fun q=>by unfold rimF;split <;> simp
 have hsm:∀ x∈b.apex.flatMap (rimF b.apex),Lb x:=fun x hx=>by
  obtain ⟨q,hq,hx⟩:=List.mem_flatMap.1 hx
  unfold rimF at hx
  split at hx
  ·cases hx
  ·rw [List.mem_singleton] at hx
   subst hx
   exact Aec hn (hm.key q hq).2.1 (hm.key q hq).1
 unfold Ii
 rw [jn_d]
 refine Zo hm.ok (rimF b.apex) hf (fun s=>rfl) (fun s q hq hs=>?_) (fun l hp=>?_)
 ·obtain ⟨k1,k2,k3⟩:=hm.key q hq
  unfold Ll
  rw [gd_t (Kz hn k2 k1),Ae]
  unfold rimF rev2
  by_cases c:(mget b.apex (⟨q.1.a1,q.1.a0⟩:Aa)).isSome=true
  ·rw [if_pos c,if_pos c,List.append_nil]
  ·rw [if_neg c,if_neg c,gd_t (by omega)]
 ·have hlen:=hp.length_eq
  have hfl:=Hd hf b.apex
  dsimp only
  rw [gd_t ⟨by omega,fun x hx=>hsm x (hp.mem_iff.1 hx)⟩,Sw tot2 (fun x hx=>hsm x (hp.mem_iff.1 hx)) hp]
theorem Agq {n:Nat} (hn:n≤1024) {b:Ad} (hm:MapN n b.apex):Gt b=some (b,Av cmp2 (b.apex.flatMap (Gx b.apex))):=by
 have hl:=hm.len
 have hsq:=Yk hn
 have hf:∀ q,(Gx b.apex q).length≤1:=fun q=>by unfold Gx;split <;> simp
 have hsm:∀ x∈b.apex.flatMap (Gx b.apex),Lb x:=fun x hx=>by
  obtain ⟨q,hq,hx⟩:=List.mem_flatMap.1 hx
  obtain ⟨k1,k2,k3⟩:=hm.key q hq
  unfold Gx at hx
  split at hx
  ·rw [List.mem_singleton] at hx
   subst hx
   unfold inN at k1 k2
   exact ⟨⟨by simp only;omega,by simp only;omega⟩,by simp only;omega,by simp only;omega⟩
  ·cases hx
 unfold Gt
 rw [jn_d]
 refine Zo hm.ok (Gx b.apex) hf (fun s=>rfl) (fun s q hq hs=>?_) (fun l hp=>?_)
 ·obtain ⟨k1,k2,k3⟩:=hm.key q hq
  unfold Kh
  rw [gd_t (Kz hn k2 k1),Ae,jn_d]
  unfold Gx rev2
  by_cases c:q.1.a0 < q.1.a1
  ·rw [if_pos c,if_pos (.inl c)]
   dsimp only
   rw [if_pos rfl]
   unfold Ff
   rw [Ae,gd_t (by omega)]
  ·rw [if_neg c]
   by_cases d:(mget b.apex (⟨q.1.a1,q.1.a0⟩:Aa)).isSome=true
   ·rw [d,if_neg (by simp;omega),List.append_nil]
    rfl
   ·rw [Bool.not_eq_true] at d
    rw [d,if_pos (.inr rfl)]
    dsimp only
    rw [Bool.not_false,if_pos rfl]
    unfold Ff
    rw [Ae,gd_t (by omega)]
 ·have hlen:=hp.length_eq
  have hfl:=Hd hf b.apex
  dsimp only
  rw [gd_t ⟨by omega,fun x hx=>hsm x (hp.mem_iff.1 hx)⟩,Sw tot2 (fun x hx=>hsm x (hp.mem_iff.1 hx)) hp]
theorem Yl {n:Nat} (hn:n≤1024) {b:Ad} (hm:MapN n b.apex):Fq b=some (b,Av cmp3 (b.apex.flatMap triF)):=by
 have hl:=hm.len
 have hsq:=Yk hn
 have hf:∀ q,(triF q).length≤1:=fun q=>by unfold triF;split <;> simp
 unfold Fq
 rw [jn_d]
 refine Zo hm.ok triF hf (fun s=>rfl) (fun s q hq hs=>?_) (fun l hp=>?_)
 ·unfold Is
  rw [jn_d]
  unfold triF
  by_cases c:q.1.a0 < q.1.a1
  ·rw [if_pos c]
   by_cases d:q.1.a0 < q.2
   ·rw [decide_eq_true d,if_pos ⟨c,d⟩]
    dsimp only
    rw [if_pos rfl,gd_t (by omega)]
   ·rw [decide_eq_false d,if_neg (by simp [d]),List.append_nil]
    rfl
  ·rw [if_neg c,if_neg (by simp [c]),List.append_nil]
   rfl
 ·have hlen:=hp.length_eq
  have hfl:=Hd hf b.apex
  dsimp only
  rw [gd_t ⟨by omega,fun x _=>trivial⟩,Sw tot3 (fun x _=>trivial) hp]
end Go.Proofs.YtgfiafnelibjgaaGreat
