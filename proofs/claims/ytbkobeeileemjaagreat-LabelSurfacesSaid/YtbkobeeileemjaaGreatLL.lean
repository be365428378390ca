/- L1 L2 L3 L4 L5 L6 L7 L8 L9 L10 L9b in one. -/
import Derived.Test.YtbkobeeileemjaaGreatD5
import Derived.Test.YtbkobeeileemjaaGreatZK
import Derived.Test.YtbkobeeileemjaaGreatE1b
/- Sorted lists; loops over maps that collect: the sides and the triangles of a builder. -/
namespace Go.Proofs.YtbkobeeileemjaaGreat
open Go Go.RowKit Go.Shelf Go.Sort
theorem Jk {α:Type} (cf:α→α→Int) (l:List α):(Br cf l).Perm l:=List.mergeSort_perm _ _
theorem Ol {α:Type} {p:α→Prop} {cf:α→α→Int} (hT:Vd p cf) {l:List α} (hp:∀ x∈l,p x):(Br cf l).Pairwise fun x y=>¬ cf y x < 0:=by
 obtain ⟨l',rfl⟩:∃ l':List {x // p x},l=l'.map Subtype.val:=⟨l.attach.map fun x=>⟨x.1,hp x.1 x.2⟩,by simp only [List.map_map,Function.comp_def];exact (List.attach_map_subtype_val _).symm⟩
 rw [Aaj,List.pairwise_map]
 have:=List.pairwise_mergeSort (le:=fun x y:{x // p x}=>!(ltOf fun x y:{x // p x}=>cf x.1 y.1) y x)
  (fun a b c h1 h2=>by
   simp only [Bool.not_eq_true',Rs] at *
   intro h3
   by_cases h4:cf b.1 a.1 < 0
   ·exact h1 h4
   ·by_cases h5:cf c.1 b.1 < 0
    ·exact h2 h5
    ·by_cases h6:cf a.1 b.1 < 0
     ·exact h2 (hT.trans _ _ _ c.2 a.2 b.2 h3 h6)
     ·have:=hT.tot _ _ a.2 b.2 h6 h4
      rw [this] at h3
      exact h2 h3)
  (fun a b=>by
   by_cases h1:cf b.1 a.1 < 0
   ·have:¬ cf a.1 b.1 < 0:=fun h2=>hT.irr _ a.2 (hT.trans _ _ _ a.2 b.2 a.2 h2 h1)
    rw [Bool.or_eq_true]
    right
    rw [Bool.not_eq_true']
    exact Rs.2 this
   ·rw [Bool.or_eq_true]
    left
    rw [Bool.not_eq_true']
    exact Rs.2 h1) l'
 exact this.imp fun h=>by simpa [Rs] using h
theorem Ack {α:Type} {p:α→Prop} {cf:α→α→Int} (hT:Vd p cf) {l l':List α} (hp:∀ x∈l,p x) (hl:l.Pairwise fun x y=>¬ cf y x < 0) (hl':l'.Pairwise fun x y=>¬ cf y x < 0) (h:l.Perm l'):l=l' :=
 List.Perm.eq_of_pairwise (fun a b ha hb h1 h2=>hT.tot a b (hp a ha) (hp b (h.mem_iff.2 hb)) h2 h1) hl hl' h
theorem Sn {α:Type} {p:α→Prop} {cf:α→α→Int} (hT:Vd p cf) {l l':List α} (hp:∀ x∈l,p x) (h:l.Perm l'):Br cf l=Br cf l':=by
 have hp':∀ x∈l',p x:=fun x hx=>hp x (h.mem_iff.2 hx)
 refine Ack hT (fun x hx=>hp x ((Jk cf l).mem_iff.1 hx)) (Ol hT hp) (Ol hT hp') (((Jk cf l).trans h).trans (Jk cf l').symm)
theorem Qy {α:Type} {cf:α→α→Int} {l:List α} {x:α}:x∈Br cf l↔x∈l:=(Jk cf l).mem_iff
/-! ### loops over maps that collect -/
theorem Agd {κ υ:Type} {m:List (κ × υ)} (hm:Dx m) {q:κ × υ} (hq:q∈m):m.Perm (q::mdel m q.1):=by
 induction m with
 | nil=>cases hq
 | cons a r ih =>
  obtain ⟨h1,h2⟩:=List.pairwise_cons.1 hm
  unfold mdel
  rcases List.mem_cons.1 hq with rfl | hq
  ·rw [List.filter_cons_of_neg (by simp),List.filter_eq_self.2 (fun p hp=>by simp only [decide_eq_true_eq];exact fun e=>h1 p hp e.symm)]
  ·rw [List.filter_cons_of_pos (by simp only [decide_eq_true_eq];exact h1 q hq)]
   exact ((ih h2 hq).cons a).trans (List.Perm.swap _ _ _)
theorem Acl {κ υ β ρ:Type} {BN:List β→Option (Sum (List β) (List β))} {BS:List β→κ × υ→Option (Sum (List β) (List β))} {m:List (κ × υ)} (hm:Dx m) (f:κ × υ→List β) (hf:∀ q,(f q).length≤1)
  (hN:∀ s,BN s=some (.inr s)) (hS:∀ s,∀ q∈m,s.length < m.length→BS s q=some (.inl (s++f q))) {k:List β→Option ρ} {r:ρ} (hk:∀ l,l.Perm (m.flatMap f)→k l=some r):Ak8 BN BS m [] k=some r:=by
 have key:∀ (n:Nat) (l:List (κ × υ)) (s:List β),l.length=n→Dx l→(∀ q∈l,q∈m)→s.length+l.length≤m.length→(∀ q:List (κ × υ),q.Perm l→k (s++q.flatMap f)=some r)→MR (mkN BN k) (mkS BS k) l s r:=by
  intro n
  induction n with
  | zero =>
   intro l s hn _ _ _ hk
   have:l=[]:=List.eq_nil_of_length_eq_zero hn
   subst this
   refine .nil ?_
   have:=hk [] (List.Perm.refl _)
   rw [List.flatMap_nil,List.append_nil] at this
   unfold mkN
   rw [hN]
   simp only [this]
  | succ n ih =>
   intro l s hn hl hs hlen hk
   have hb:∀ q∈l,mkS BS k s q=some (.inl (s++f q)):=fun q hq=>by
    unfold mkS mkN
    simp only [hS s q (hs q hq) (by omega)]
   refine .cons (fun e=>by subst e;simp at hn) (fun q hq=>by rw [hb q hq];rfl) (fun q hq t' e=>by rw [hb q hq] at e;cases e) (fun q hq s' e=>?_)
   rw [hb q hq] at e
   cases e
   have hp:=Agd hl hq
   have hlen2:=hp.length_eq
   rw [List.length_cons] at hlen2
   refine ih (mdel l q.1) (s++f q) (by omega) (hl.del _) (fun x hx=>hs x (Mw.1 hx).1) (by rw [List.length_append];have:=hf q;omega) (fun w hw=>?_)
   rw [List.append_assoc,← List.flatMap_cons]
   exact hk _ ((hw.cons q).trans hp.symm)
 refine Aqp (key m.length m [] rfl hm (fun _ h=>h) (by simp) fun q hq=>?_)
 rw [List.nil_append]
 exact hk _ (List.Perm.flatMap_right f hq)
/-! ### the builder's lists -/
abbrev Mp:=List (Ab × Int)
/-- Keys of a builder's map over n places. -/
structure MapN (n:Nat) (m:Mp):Prop where
 ok:Dx m
 key:∀ q∈m,inN n q.1.a0∧inN n q.1.a1∧inN n q.2
theorem MapN.len {n:Nat} {m:Mp} (h:MapN n m):m.length≤n*n:=by
 have h1:(m.map fun q=>(q.1.a0.toNat*n+q.1.a1.toNat)).Nodup:=by
  unfold List.Nodup
  rw [List.pairwise_map]
  refine List.Pairwise.imp_of_mem ?_ h.ok
  intro a b ha hb hne e
  obtain ⟨⟨a1,a2⟩,⟨a3,a4⟩,_⟩:=h.key a ha
  obtain ⟨⟨b1,b2⟩,⟨b3,b4⟩,_⟩:=h.key b hb
  have e1:a.1.a1.toNat=b.1.a1.toNat:=by
   have:=congrArg (· % n) e
   simp only [Nat.mul_add_mod_self_right] at this
   rwa [Nat.mod_eq_of_lt (by omega),Nat.mod_eq_of_lt (by omega)] at this
  have e2:a.1.a0.toNat=b.1.a0.toNat:=by
   rw [e1] at e
   have e':a.1.a0.toNat*n=b.1.a0.toNat*n:=by omega
   exact Nat.eq_of_mul_eq_mul_right (by omega) e'
  apply hne
  obtain ⟨⟨x,y⟩,c⟩:=a
  obtain ⟨⟨x',y'⟩,c'⟩:=b
  simp only at *
  rw [show x=x' by omega,show y=y' by omega]
 have:=Di (m:=List.range (n*n)) h1 fun x hx=>by
  obtain ⟨q,hq,rfl⟩:=List.mem_map.1 hx
  obtain ⟨⟨a1,a2⟩,⟨a3,a4⟩,_⟩:=h.key q hq
  rw [List.mem_range]
  have h3:q.1.a0.toNat+1≤n:=by omega
  have:=Nat.mul_le_mul_right n h3
  rw [Nat.add_mul] at this
  omega
 rwa [List.length_map,List.length_range] at this
def rev2 (k:Ab):Ab:=⟨k.a1,k.a0⟩
noncomputable def rimF (m:Mp) (q:Ab × Int):List Ab:=if (mget m (rev2 q.1)).isSome=true then [] else [rev2 q.1]
noncomputable def Th (m:Mp) (q:Ab × Int):List Ab:=if q.1.a0 < q.1.a1∨(mget m (rev2 q.1)).isSome=false then [⟨min q.1.a0 q.1.a1,max q.1.a0 q.1.a1⟩] else []
def triF (q:Ab × Int):List Am:=if q.1.a0 < q.1.a1∧q.1.a0 < q.2 then [⟨q.1.a0,q.1.a1,q.2⟩] else []
theorem Amj {n:Nat} (hn:n≤1024) {k:Ab} (h1:inN n k.a0) (h2:inN n k.a1):Oc k:=by
 unfold inN at h1 h2
 exact ⟨⟨by omega,by omega⟩,by omega,by omega⟩
theorem Qj {n:Nat} (hn:n≤1024) {i j:Int} (h1:inN n i) (h2:inN n j):(-9223372036854775808≤i∧i≤9223372036854775807)∧-9223372036854775808≤j∧j≤9223372036854775807:=by
 unfold inN at h1 h2
 exact ⟨⟨by omega,by omega⟩,by omega,by omega⟩
theorem Ac2 {n:Nat} (hn:n≤1024):n*n≤1048576:=Nat.mul_le_mul hn hn
theorem Kl {α β:Type} {f:α→List β} (hf:∀ q,(f q).length≤1):∀ l:List α,(l.flatMap f).length≤l.length
 | []=>by simp
 | a::r=>by
  rw [List.flatMap_cons,List.length_append,List.length_cons]
  have:=hf a
  have:=Kl hf r
  omega
theorem Asg {n:Nat} (hn:n≤1024) {b:Aj} (hm:MapN n b.apex):Hm b=some (b,Br cmp2 (b.apex.flatMap (rimF b.apex))):=by
 have hl:=hm.len
 have hsq:=Ac2 hn
 have hf:∀ q,(rimF b.apex q).length≤1:=fun q=>by unfold rimF;split <;> simp
 have hsm:∀ x∈b.apex.flatMap (rimF b.apex),Oc x:=fun x hx=>by
  obtain ⟨q,hq,hx⟩:=List.mem_flatMap.1 hx
  unfold rimF at hx
  split at hx
  ·cases hx
  ·rw [List.mem_singleton] at hx
   subst hx
   exact Amj hn (hm.key q hq).2.1 (hm.key q hq).1
 unfold Hm
 rw [jn_d]
 refine Acl hm.ok (rimF b.apex) hf (fun s=>rfl) (fun s q hq hs=>?_) (fun l hp=>?_)
 ·obtain ⟨k1,k2,k3⟩:=hm.key q hq
  unfold Mr
  rw [gd_t (Qj hn k2 k1),Ai]
  unfold rimF rev2
  by_cases c:(mget b.apex (⟨q.1.a1,q.1.a0⟩:Ab)).isSome=true
  ·rw [if_pos c,if_pos c,List.append_nil]
  ·rw [if_neg c,if_neg c,gd_t (by omega)]
 ·have hlen:=hp.length_eq
  have hfl:=Kl hf b.apex
  dsimp only
  rw [gd_t ⟨by omega,fun x hx=>hsm x (hp.mem_iff.1 hx)⟩,Sn tot2 (fun x hx=>hsm x (hp.mem_iff.1 hx)) hp]
theorem Aoa {n:Nat} (hn:n≤1024) {b:Aj} (hm:MapN n b.apex):Hu b=some (b,Br cmp2 (b.apex.flatMap (Th b.apex))):=by
 have hl:=hm.len
 have hsq:=Ac2 hn
 have hf:∀ q,(Th b.apex q).length≤1:=fun q=>by unfold Th;split <;> simp
 have hsm:∀ x∈b.apex.flatMap (Th b.apex),Oc x:=fun x hx=>by
  obtain ⟨q,hq,hx⟩:=List.mem_flatMap.1 hx
  obtain ⟨k1,k2,k3⟩:=hm.key q hq
  unfold Th at hx
  split at hx
  ·rw [List.mem_singleton] at hx
   subst hx
   unfold inN at k1 k2
   exact ⟨⟨by simp only;omega,by simp only;omega⟩,by simp only;omega,by simp only;omega⟩
  ·cases hx
 unfold Hu
 rw [jn_d]
 refine Acl hm.ok (Th b.apex) hf (fun s=>rfl) (fun s q hq hs=>?_) (fun l hp=>?_)
 ·obtain ⟨k1,k2,k3⟩:=hm.key q hq
  unfold Ku
  rw [gd_t (Qj hn k2 k1),Ai,jn_d]
  unfold Th rev2
  by_cases c:q.1.a0 < q.1.a1
  ·rw [if_pos c,if_pos (.inl c)]
   dsimp only
   rw [if_pos rfl]
   unfold Nr
   rw [Ai,gd_t (by omega)]
  ·rw [if_neg c]
   by_cases d:(mget b.apex (⟨q.1.a1,q.1.a0⟩:Ab)).isSome=true
   ·rw [d,if_neg (by simp;omega),List.append_nil]
    rfl
   ·rw [Bool.not_eq_true] at d
    rw [d,if_pos (.inr rfl)]
    dsimp only
    rw [Bool.not_false,if_pos rfl]
    unfold Nr
    rw [Ai,gd_t (by omega)]
 ·have hlen:=hp.length_eq
  have hfl:=Kl hf b.apex
  dsimp only
  rw [gd_t ⟨by omega,fun x hx=>hsm x (hp.mem_iff.1 hx)⟩,Sn tot2 (fun x hx=>hsm x (hp.mem_iff.1 hx)) hp]
theorem Abj {n:Nat} (hn:n≤1024) {b:Aj} (hm:MapN n b.apex):Ez b=some (b,Br cmp3 (b.apex.flatMap triF)):=by
 have hl:=hm.len
 have hsq:=Ac2 hn
 have hf:∀ q,(triF q).length≤1:=fun q=>by unfold triF;split <;> simp
 unfold Ez
 rw [jn_d]
 refine Acl hm.ok triF hf (fun s=>rfl) (fun s q hq hs=>?_) (fun l hp=>?_)
 ·unfold Hv
  rw [jn_d]
  unfold triF
  by_cases c:q.1.a0 < q.1.a1
  ·rw [if_pos c]
   by_cases d:q.1.a0 < q.2
   ·rw [decide_eq_true d,if_pos ⟨c,d⟩]
    dsimp only
    rw [if_pos rfl,gd_t (by omega)]
   ·rw [decide_eq_false d,if_neg (by simp [d]),List.append_nil]
    rfl
  ·rw [if_neg c,if_neg (by simp [c]),List.append_nil]
   rfl
 ·have hlen:=hp.length_eq
  have hfl:=Kl hf b.apex
  dsimp only
  rw [gd_t ⟨by omega,fun x _=>trivial⟩,Sn tot3 (fun x _=>trivial) hp]
end Go.Proofs.YtbkobeeileemjaaGreat
/- The builder's steps, closed. -/
namespace Go.Proofs.YtbkobeeileemjaaGreat
open Go Go.RowKit
noncomputable def apM (m:Mp):Ap:=fun i j=>mget m ⟨i,j⟩
noncomputable def putM (m:Mp) (i j k:Int):Mp:=mput (mput (mput m ⟨i,j⟩ k) ⟨j,k⟩ i) ⟨k,i⟩ j
noncomputable def cutM (m:Mp) (i j k:Int):Mp:=mdel (mdel (mdel m ⟨i,j⟩) ⟨j,k⟩) ⟨k,i⟩
noncomputable def Aeq (m:Mp) (i j k l:Int):Mp:=putM (putM (cutM (cutM m i j k) j i l) i l k) j k l
theorem Jl {i j a b:Int}:(⟨a,b⟩:Ab)=⟨i,j⟩↔a=i∧b=j:=by simp
theorem MapN.put {n:Nat} {m:Mp} (h:MapN n m) {i j k:Int} (hi:inN n i) (hj:inN n j) (hk:inN n k):MapN n (mput m ⟨i,j⟩ k):=by
 refine ⟨h.ok.put _ _,fun q hq=>?_⟩
 unfold mput at hq
 rcases List.mem_cons.1 hq with rfl | hq
 ·exact ⟨hi,hj,hk⟩
 ·exact h.key q (Mw.1 hq).1
theorem MapN.del {n:Nat} {m:Mp} (h:MapN n m) (x:Ab):MapN n (mdel m x):=⟨h.ok.del _,fun q hq=>h.key q (Mw.1 hq).1⟩
theorem MapN.putM {n:Nat} {m:Mp} (h:MapN n m) {i j k:Int} (hi:inN n i) (hj:inN n j) (hk:inN n k):MapN n (putM m i j k):=((h.put hi hj hk).put hj hk hi).put hk hi hj
theorem MapN.cutM {n:Nat} {m:Mp} (h:MapN n m) (i j k:Int):MapN n (cutM m i j k):=((h.del _).del _).del _
theorem Yj {m:Mp} (h:Dx m) (i j k a b:Int):apM (putM m i j k) a b=if a=k∧b=i then some j else if a=j∧b=k then some i else if a=i∧b=j then some k else apM m a b:=by
 unfold apM putM
 rw [Mx ((h.put _ _).put _ _),Mx (h.put _ _),Mx h]
 simp only [Jl]
theorem Lb {m:Mp} (h:Dx m) (i j k a b:Int):apM (cutM m i j k) a b=if (a=k∧b=i)∨(a=j∧b=k)∨(a=i∧b=j) then none else apM m a b:=by
 unfold apM cutM
 rw [Rn ((h.del _).del _),Rn (h.del _),Rn h]
 simp only [Jl]
 by_cases c1:a=k∧b=i
 ·simp [c1]
 ·by_cases c2:a=j∧b=k
  ·simp [c2]
  ·by_cases c3:a=i∧b=j
   ·simp [c3]
   ·simp [c1,c2,c3]
theorem Aer {m:Mp} (h:Dx m) {i j k l:Int} (n1:i≠j) (n2:k≠l) (n3:k≠i) (n4:k≠j) (n5:l≠i) (n6:l≠j):apM (Aeq m i j k l)=Lu (apM m) i j k l:=by
 have h1:Dx (cutM m i j k):=((h.del _).del _).del _
 have h2:Dx (cutM (cutM m i j k) j i l):=((h1.del _).del _).del _
 have h3:Dx (putM (cutM (cutM m i j k) j i l) i l k):=((h2.put _ _).put _ _).put _ _
 funext a b
 unfold Aeq
 rw [Yj h3,Yj h2,Lb h1,Lb h]
 unfold Lu
 by_cases c1:a=i∧b=l
 ·repeat first | rw [if_pos (by omega)] | rw [if_neg (by omega)]
 by_cases c2:a=l∧b=k
 ·repeat first | rw [if_pos (by omega)] | rw [if_neg (by omega)]
 by_cases c3:a=k∧b=i
 ·repeat first | rw [if_pos (by omega)] | rw [if_neg (by omega)]
 by_cases c4:a=j∧b=k
 ·repeat first | rw [if_pos (by omega)] | rw [if_neg (by omega)]
 by_cases c5:a=k∧b=l
 ·repeat first | rw [if_pos (by omega)] | rw [if_neg (by omega)]
 by_cases c6:a=l∧b=j
 ·repeat first | rw [if_pos (by omega)] | rw [if_neg (by omega)]
 by_cases c7:a=i∧b=j
 ·repeat first | rw [if_pos (by omega)] | rw [if_neg (by omega)]
 by_cases c8:a=j∧b=i
 ·repeat first | rw [if_pos (by omega)] | rw [if_neg (by omega)]
 repeat first | rw [if_pos (by omega)] | rw [if_neg (by omega)]
theorem p_eq {b:Aj} {i:Int} (h:inN b.v.length i):Cd b i=some (plV b.v i):=by
 unfold Cd plV
 obtain ⟨k,hk,rfl,e⟩:=Ip (v:=b.v) (i:=i) h
 rw [e]
 rfl
theorem Aes {n:Nat} (hn:n≤1024) {b:Aj} (hm:MapN n b.apex) {i j k:Int} (hi:inN n i) (hj:inN n j) (hk:inN n k):Eb b i j k=some ⟨b.v,putM b.apex i j k,b.fixed⟩:=by
 have hsq:=Ac2 hn
 have l0:=hm.len
 have l1:=(hm.put hi hj hk).len
 have l2:=((hm.put hi hj hk).put hj hk hi).len
 unfold Eb
 rw [gd_t (Qj hn hi hj),gd_t (by omega),gd_t (Qj hn hj hk),gd_t (by omega),gd_t (Qj hn hk hi),gd_t (by omega)]
 rfl
theorem Aob {n:Nat} (hn:n≤1024) {b:Aj} {i j k:Int} (hi:inN n i) (hj:inN n j) (hk:inN n k):Hl b i j k=some ⟨b.v,cutM b.apex i j k,b.fixed⟩:=by
 unfold Hl
 rw [gd_t (Qj hn hi hj),gd_t (Qj hn hj hk),gd_t (Qj hn hk hi)]
 rfl
theorem MapN.val {n:Nat} {m:Mp} (h:MapN n m) {i j k:Int} (hk:apM m i j=some k):inN n i∧inN n j∧inN n k:=h.key _ (Is hk)
theorem Aqk {b:Aj} (hv:Gb b.v) (hn:b.v.length≤1024) (hm:MapN b.v.length b.apex) {i j k l:Int} (hk:apM b.apex i j=some k) (hl:apM b.apex j i=some l) :
  Gp b i j=some (if Int.sign (crs (plV b.v k) (plV b.v l) (plV b.v i))*Int.sign (crs (plV b.v k) (plV b.v l) (plV b.v j)) = -1 then (⟨b.v,Aeq b.apex i j k l,b.fixed⟩,true) else (b,false)):=by
 obtain ⟨vi,vj,vk⟩:=hm.val hk
 obtain ⟨_,_,vl⟩:=hm.val hl
 have hk':mget b.apex (⟨i,j⟩:Ab)=some k:=hk
 have hl':mget b.apex (⟨j,i⟩:Ab)=some l:=hl
 unfold Gp
 rw [gd_t (Qj hn vi vj),hk',Ai,gd_t (Qj hn vj vi),hl',Ai,jn_d]
 simp only [Option.getD_some,Option.isSome_some,if_true]
 rw [p_eq vk,Ai,p_eq vl,Ai,p_eq vi,Ai,turn_eq (hv.ok _ vk) (hv.ok _ vl) (hv.ok _ vi),Ai,Ai,Ai,p_eq vj,Ai,turn_eq (hv.ok _ vk) (hv.ok _ vl) (hv.ok _ vj),Ai,Ai2]
 by_cases c:Int.sign (crs (plV b.v k) (plV b.v l) (plV b.v i))*Int.sign (crs (plV b.v k) (plV b.v l) (plV b.v j)) = -1
 ·rw [if_pos c,if_neg (by simp;omega)]
  have m1:=hm.cutM i j k
  have m2:=m1.cutM j i l
  have m3:=m2.putM vi vl vk
  rw [Aob hn vi vj vk,Ai,Aob hn vj vi vl,Ai,Aes hn m2 vi vl vk,Ai,Aes hn m3 vj vk vl,Ai]
  rfl
 ·rw [if_neg c,if_pos (by simpa using Ahc.2 c)]
end Go.Proofs.YtbkobeeileemjaaGreat
/- Settling: it ends, and all sides are legal then. -/
namespace Go.Proofs.YtbkobeeileemjaaGreat
open Go Go.RowKit
theorem Amk {m:Mp} {x:Ab} (h:mget m x=none) (hm:Dx m):mdel m x=m:=by
 unfold mdel
 rw [List.filter_eq_self]
 intro p hp
 simp only [decide_eq_true_eq]
 intro e
 have:=Rm hm hp
 rw [e,h] at this
 cases this
section
variable {P:Int→Ad} {H:Int→Int} {n:Nat}
noncomputable def phi (P:Int→Ad) (H:Int→Int) (n:Nat) (m:Mp):Nat:=(m.map fun q=>cnf P H n q.1.a0 q.1.a1 q.2).sum
theorem Ag0 {m:Mp} (hm:Dx m) {i j k:Int} (h:mget m ⟨i,j⟩=some k):phi P H n m=cnf P H n i j k+phi P H n (mdel m ⟨i,j⟩):=by
 have hp:=Agd hm (Is h)
 unfold phi
 rw [(hp.map _).sum_nat,List.map_cons,List.sum_cons]
theorem Ag1 {m:Mp} (hm:Dx m) {i j k:Int} (h:mget m ⟨i,j⟩=none):phi P H n (mput m ⟨i,j⟩ k)=cnf P H n i j k+phi P H n m:=by
 unfold mput
 rw [Amk h hm]
 unfold phi
 rw [List.map_cons,List.sum_cons]
theorem Aoc:∀ m:Mp,phi P H n m≤m.length*n
 | []=>by simp [phi]
 | q::r=>by
  have h1:=Aoc r
  have h2:=As0 (P:=P) (H:=H) (n:=n) q.1.a0 q.1.a1 q.2
  unfold phi at *
  rw [List.map_cons,List.sum_cons,List.length_cons,Nat.add_mul]
  omega
theorem Ak5 {m:Mp} (hm:Dx m) {i j k:Int} (n1:i≠j) (n2:j≠k) (n3:k≠i) (h1:apM m i j=some k) (h2:apM m j k=some i) (h3:apM m k i=some j):phi P H n m=3*cnf P H n i j k+phi P H n (cutM m i j k):=by
 have g1:mget (mdel m ⟨i,j⟩) ⟨j,k⟩=some i:=by rw [Rn hm,Jl,if_neg (by omega)];exact h2
 have g2:mget (mdel (mdel m ⟨i,j⟩) ⟨j,k⟩) ⟨k,i⟩=some j:=by rw [Rn (hm.del _),Rn hm,Jl,Jl,if_neg (by omega),if_neg (by omega)];exact h3
 rw [Ag0 hm h1,Ag0 (hm.del _) g1,Ag0 ((hm.del _).del _) g2,Wk,Wk (P:=P) (H:=H) (n:=n) j k i,Wk]
 unfold cutM
 omega
theorem Aid {m:Mp} (hm:Dx m) {i j k:Int} (n1:i≠j) (n2:j≠k) (n3:k≠i) (h1:apM m i j=none) (h2:apM m j k=none) (h3:apM m k i=none):phi P H n (putM m i j k)=3*cnf P H n i j k+phi P H n m:=by
 have g1:mget (mput m ⟨i,j⟩ k) ⟨j,k⟩=none:=by rw [Mx hm,Jl,if_neg (by omega)];exact h2
 have g2:mget (mput (mput m ⟨i,j⟩ k) ⟨j,k⟩ i) ⟨k,i⟩=none:=by rw [Mx (hm.put _ _),Mx hm,Jl,Jl,if_neg (by omega),if_neg (by omega)];exact h3
 unfold putM
 rw [Ag1 ((hm.put _ _).put _ _) g2,Ag1 (hm.put _ _) g1,Ag1 hm h1,Wk (P:=P) (H:=H) (n:=n) i j k,Wk (P:=P) (H:=H) (n:=n) k i j,← Wk (P:=P) (H:=H) (n:=n) k i j]
 have e:=Wk (P:=P) (H:=H) (n:=n) k i j
 omega
theorem Aod {m:Mp} (hm:Dx m) {i j k l:Int} (hcv:Acs P H (inN n)) (q:Quad P (inN n) (apM m) i j k l) (hQ:0 < DH P H i j k l):phi P H n (Aeq m i j k l) < phi P H n m:=by
 obtain ⟨n1,n2,n3,n4,n5,n6⟩:=q.ne
 obtain ⟨f1,f2⟩:=q.fresh
 have h1:Dx (cutM m i j k):=((hm.del _).del _).del _
 have h2:Dx (cutM (cutM m i j k) j i l):=((h1.del _).del _).del _
 have h3:Dx (putM (cutM (cutM m i j k) j i l) i l k):=((h2.put _ _).put _ _).put _ _
 have a1:=q.tri.rot _ _ _ q.hk
 have a2:=q.tri.rot2 q.hk
 have a3:=q.tri.rot _ _ _ q.hl
 have a4:=q.tri.rot2 q.hl
 have e1:=Ak5 (P:=P) (H:=H) (n:=n) hm n1 (fun e=>n4 e.symm) n3 q.hk a1 a2
 have e2:=Ak5 (P:=P) (H:=H) (n:=n) h1 (i:=j) (j:=i) (k:=l) n1.symm (fun e=>n5 e.symm) n6 (by rw [Lb hm,if_neg (by omega)];exact q.hl) (by rw [Lb hm,if_neg (by omega)];exact a3) (by rw [Lb hm,if_neg (by omega)];exact a4)
 have e3:=Aid (P:=P) (H:=H) (n:=n) h2 (i:=i) (j:=l) (k:=k) (fun e=>n5 e.symm) n2.symm n3
  (by rw [Lb h1,if_pos (by omega)]) (by rw [Lb h1,if_neg (by omega),Lb hm,if_neg (by omega)];exact f2) (by rw [Lb h1,if_neg (by omega),Lb hm,if_pos (by omega)])
 have e4:=Aid (P:=P) (H:=H) (n:=n) h3 (i:=j) (j:=k) (k:=l) (fun e=>n4 e.symm) n2 n6
  (by rw [Yj h2,if_neg (by omega),if_neg (by omega),if_neg (by omega),Lb h1,if_neg (by omega),Lb hm,if_pos (by omega)])
  (by rw [Yj h2,if_neg (by omega),if_neg (by omega),if_neg (by omega),Lb h1,if_neg (by omega),Lb hm,if_neg (by omega)];exact f1)
  (by rw [Yj h2,if_neg (by omega),if_neg (by omega),if_neg (by omega),Lb h1,if_pos (by omega)])
 have:=q.cnf_lt hcv hQ
 unfold Aeq
 omega
end
theorem Aql (hi hj hk hl:Int) (i j k l:Ad):Dt hk hl hj hi k l j i = -Dt hi hj hk hl i j k l:=by unfold Dt crs;grind
noncomputable def Fx (F:List (Ab × Bool)) (i j:Int):Bool:=(mget F ⟨min i j,max i j⟩).getD false
def pr2 (i j:Int):Ab:=⟨min i j,max i j⟩
theorem Va (i j:Int):pr2 i j=pr2 j i:=by unfold pr2;rw [Int.min_comm,Int.max_comm]
theorem Aoe {i j a b:Int} (h:pr2 i j=pr2 a b):(i=a∧j=b)∨(i=b∧j=a):=by
 unfold pr2 at h
 rw [Jl] at h
 omega
/-- What settling keeps. -/
structure Ic (v:List Ae) (F:List (Ab × Bool)) (q:List Ab) (m:Mp):Prop where
 map:MapN v.length m
 tri:Tri (plV v) (inN v.length) (apM m)
 qn:∀ s∈q,inN v.length s.a0∧inN v.length s.a1∧s.a0≤s.a1
 pend:∀ i j k l,apM m i j=some k→apM m j i=some l→pr2 i j∈q∨Fx F i j=true∨DH (plV v) (hV v) i j k l < 0
theorem Ic.pop {v F q s m} (h:Ic v F (q++[s]) m) (hs:∀ k l,apM m s.a0 s.a1=some k→apM m s.a1 s.a0=some l→Fx F s.a0 s.a1=true∨DH (plV v) (hV v) s.a0 s.a1 k l < 0):Ic v F q m:=by
 have hq:=(h.qn s (by simp)).2.2
 refine ⟨h.map,h.tri,fun x hx=>h.qn x (List.mem_append_left _ hx),fun i j k l hk hl=>?_⟩
 rcases h.pend i j k l hk hl with g | g
 ·rcases List.mem_append.1 g with g | g
  ·exact .inl g
  ·rw [List.mem_singleton] at g
   right
   have e:pr2 s.a0 s.a1=s:=by
    obtain ⟨x,y⟩:=s
    unfold pr2
    rw [Jl]
    simp only at hq ⊢
    omega
   rw [← e] at g
   rcases Aoe g with ⟨e1,e2⟩ | ⟨e1,e2⟩
   ·subst e1;subst e2;exact hs k l hk hl
   ·subst e1;subst e2
    rcases hs l k hl hk with t | t
    ·left;unfold Fx at *;rw [Int.min_comm,Int.max_comm];exact t
    ·right;rw [← Quad.swapQ];exact t
 ·exact .inr g
theorem Ak6 {v:List Ae} {m:Mp} (hv:Gb v) (ht:Tri (plV v) (inN v.length) (apM m)) {i j k l:Int} (hk:apM m i j=some k) (hl:apM m j i=some l) (hD:¬ DH (plV v) (hV v) i j k l < 0):Quad (plV v) (inN v.length) (apM m) i j k l:=by
 obtain ⟨vi,vj,vk,ck⟩:=ht.ccw _ _ _ hk
 obtain ⟨_,_,vl,cl⟩:=ht.ccw _ _ _ hl
 have c0:crs (plV v i) (plV v j) (plV v l) < 0:=by rw [Df];omega
 refine ⟨ht,hk,hl,?_,?_⟩
 ·rw [Co]
  rcases Int.lt_or_le 0 (crs (plV v k) (plV v i) (plV v l)) with g | g
  ·exact g
  ·exact absurd (Yo hv i j k l vi vj vk vl ck c0 (.inr g)) hD
 ·rcases Int.lt_or_le 0 (crs (plV v j) (plV v k) (plV v l)) with g | g
  ·exact g
  ·exact absurd (Yo hv i j k l vi vj vk vl ck c0 (.inl g)) hD
theorem Ic.flip {v F q s m} (hv:Gb v) (h:Ic v F (q++[s]) m) {k l:Int} (hk:apM m s.a0 s.a1=some k) (hl:apM m s.a1 s.a0=some l) (hD:¬ DH (plV v) (hV v) s.a0 s.a1 k l < 0) :
  Ic v F (q++[pr2 s.a0 k,pr2 k s.a1,pr2 s.a1 l,pr2 l s.a0]) (Aeq m s.a0 s.a1 k l):=by
 have Q:=Ak6 hv h.tri hk hl hD
 obtain ⟨n1,n2,n3,n4,n5,n6⟩:=Q.ne
 obtain ⟨vi,vj,vk,ck⟩:=h.tri.ccw _ _ _ hk
 obtain ⟨_,_,vl,cl⟩:=h.tri.ccw _ _ _ hl
 have hf:=Aer h.map.ok n1 n2 n3 n4 n5 n6
 have hq:=(h.qn s (by simp)).2.2
 have es:pr2 s.a0 s.a1=s:=by
  obtain ⟨x,y⟩:=s
  unfold pr2
  rw [Jl]
  simp only at hq ⊢
  omega
 have hD2:0 < DH (plV v) (hV v) s.a0 s.a1 k l:=by
  have:=(Agk hv vi vj vk vl ck (by rw [Df];omega)).2
  omega
 refine ⟨?_,by rw [hf];exact Q.flip,fun x hx=>?_,fun a b c d hc hd=>?_⟩
 ·have m1:=h.map.cutM s.a0 s.a1 k
  have m2:=m1.cutM s.a1 s.a0 l
  exact (m2.putM vi vl vk).putM vj vk vl
 ·rcases List.mem_append.1 hx with hx | hx
  ·exact h.qn x (List.mem_append_left _ hx)
  ·have key:∀ i j,inN v.length i→inN v.length j→inN v.length (pr2 i j).a0∧inN v.length (pr2 i j).a1∧(pr2 i j).a0≤(pr2 i j).a1:=fun i j h1 h2=>by
    unfold pr2 inN at *
    simp only
    omega
   simp only [List.mem_cons,List.not_mem_nil,or_false] at hx
   rcases hx with rfl | rfl | rfl | rfl
   ·exact key _ _ vi vk
   ·exact key _ _ vk vj
   ·exact key _ _ vj vl
   ·exact key _ _ vl vi
 ·rw [hf] at hc hd
  have mem:∀ x,x∈[pr2 s.a0 k,pr2 k s.a1,pr2 s.a1 l,pr2 l s.a0]→x∈q++[pr2 s.a0 k,pr2 k s.a1,pr2 s.a1 l,pr2 l s.a0]:=fun x hx=>List.mem_append_right _ hx
  have dg:DH (plV v) (hV v) k l s.a1 s.a0 < 0:=by
   unfold DH at hD2 ⊢
   rw [Aql]
   omega
  -- an outer side
  have outer:∀ a b c,Lu (apM m) s.a0 s.a1 k l a b=some c→(pr2 a b∈[pr2 s.a0 k,pr2 k s.a1,pr2 s.a1 l,pr2 l s.a0])∨(a=l∧b=k∧c=s.a0)∨(a=k∧b=l∧c=s.a1) ∨
    (apM m a b=some c∧¬ (a=s.a0∧b=l)∧¬ (a=l∧b=k)∧¬ (a=k∧b=s.a0)∧¬ (a=s.a1∧b=k)∧¬ (a=k∧b=l)∧¬ (a=l∧b=s.a1)∧¬ (a=s.a0∧b=s.a1)∧¬ (a=s.a1∧b=s.a0)):=by
   intro a b c hc
   rcases Pf hc with ⟨e1,e2,_⟩ | g | ⟨e1,e2,_⟩ | ⟨e1,e2,_⟩ | g | ⟨e1,e2,_⟩ | g
   ·left;rw [Va a b,e1,e2];simp
   ·exact .inr (.inl g)
   ·left;rw [Va a b,e1,e2];simp
   ·left;rw [Va a b,e1,e2];simp
   ·exact .inr (.inr (.inl g))
   ·left;rw [Va a b,e1,e2];simp
   ·exact .inr (.inr (.inr g))
  rcases outer a b c hc with g | ⟨rfl,rfl,rfl⟩ | ⟨rfl,rfl,rfl⟩ | ⟨g0,g⟩
  ·exact .inl (mem _ g)
  ·rw [Alj n3 n2 n4 n5] at hd
   obtain rfl:=Option.some.inj hd
   right;right
   rw [Quad.swapQ (P:=plV v) (H:=hV v)]
   exact dg
  ·rw [Ali n5] at hd
   obtain rfl:=Option.some.inj hd
   exact .inr (.inr dg)
  ·rcases outer b a d hd with g' | ⟨e1,e2,_⟩ | ⟨e1,e2,_⟩ | ⟨g0',g'⟩
   ·left;rw [Va a b];exact mem _ g'
   ·omega
   ·omega
   ·rcases h.pend a b c d g0 g0' with t | t
    ·rcases List.mem_append.1 t with t | t
     ·exact .inl (List.mem_append_left _ t)
     ·rw [List.mem_singleton,← es] at t
      rcases Aoe t with ⟨e1,e2⟩ | ⟨e1,e2⟩ <;> omega
    ·exact .inr t
end Go.Proofs.YtbkobeeileemjaaGreat
/- Settling, run. -/
namespace Go.Proofs.YtbkobeeileemjaaGreat
open Go Go.RowKit
/-- What a step of settling leaves behind. -/
structure Qk (v:List Ae) (F:List (Ab × Bool)) (m m':Mp):Prop where
 cov:∀ S:Int→Prop,Cov (plV v) S (apM m)→Cov (plV v) S (apM m')
 fix:∀ i j,Fx F i j=true→(apM m i j≠none∨apM m j i≠none)→(apM m' i j≠none∨apM m' j i≠none)
 ne:m≠[]→m'≠[]
theorem Qk.refl {v F m}:Qk v F m m:=⟨fun _ h=>h,fun _ _ _ h=>h,fun h=>h⟩
theorem Qk.trans {v F m m' m''} (h:Qk v F m m') (k:Qk v F m' m''):Qk v F m m'':=⟨fun S h1=>k.cov S (h.cov S h1),fun i j h1 h2=>k.fix i j h1 (h.fix i j h1 h2),fun h1=>k.ne (h.ne h1)⟩
theorem Ak7 {F:List (Ab × Bool)} {i j:Int}:Fx F j i=Fx F i j:=by unfold Fx;rw [Int.min_comm,Int.max_comm]
theorem Aie {v F q s m} (hv:Gb v) (hn:v.length≤1024) (h:Ic v F (q++[s]) m) (hq:q.length≤5000000000) :
  ∃ q' m',Dq (v,m,F,q++[s])=some (.inl (v,m',F,q'))∧Ic v F q' m'∧Qk v F m m'∧((m'=m∧q'=q)∨(phi (plV v) (hV v) v.length m' < phi (plV v) (hV v) v.length m∧q'.length=q.length+4)):=by
 obtain ⟨k1,k2,k3⟩:=h.qn s (by simp)
 have es:pr2 s.a0 s.a1=s:=by
  obtain ⟨x,y⟩:=s
  unfold pr2
  rw [Jl]
  simp only at k3 ⊢
  omega
 have hw:w64 ((((q++[s]).length:Nat):Int)-1)=((q.length:Nat):Int):=by rw [List.length_append,List.length_singleton,Bw (by omega) (by omega)];omega
 have hi:idx (q++[s]) ((q.length:Nat):Int)=some s:=(Bo (by simp)).trans (by simp)
 have ht:List.take (Int.toNat ((q.length:Nat):Int)) (q++[s])=q:=by simp
 have e0:Dq (v,m,F,q++[s]) =
   (fun j18:List Ab × Bool→Option (Sum (List Ae × Mp × List (Ab × Bool) × List Ab) Aj)=>if ((mget m s).isSome)=true then (if ((mget m ((⟨s.a1,s.a0⟩:Ab))).isSome)=true then (
    if (mget F s).getD false=true then (j18 (q,true))
    else (bnd (Qw (plV v s.a0) (plV v s.a1) (plV v ((mget m s).getD 0)) (plV v ((mget m ((⟨s.a1,s.a0⟩:Ab))).getD 0))) fun r169=>j18 (q,r169)))
   else (j18 (q,true))) else (j18 (q,true)))
   (fun s18=>if s18.2=true then (some (.inl (v,m,F,s18.1)))
    else (bnd (Gp (⟨v,m,F⟩:Aj) s.a0 s.a1) fun r185 =>
    if r185.2=true then (gd (((s18.1).length+4)*16≤140737488355328) <|
     some (.inl (r185.1.v,r185.1.apex,r185.1.fixed,s18.1++[pr2 s.a0 ((mget m s).getD 0),pr2 ((mget m s).getD 0) s.a1,pr2 s.a1 ((mget m ((⟨s.a1,s.a0⟩:Ab))).getD 0),pr2 ((mget m ((⟨s.a1,s.a0⟩:Ab))).getD 0) s.a0])))
    else (some (.inl (r185.1.v,r185.1.apex,r185.1.fixed,s18.1))))):=by
  unfold Dq
  simp only [hw]
  rw [if_pos (by simp),hi,Ai,gd_t (by simp;omega),gd_t (Qj hn k1 k2),Ai,gd_t (Qj hn k2 k1),Ai,jn_d,ht]
  by_cases c1:(mget m s).isSome=true
  ·rw [if_pos c1,if_pos c1]
   by_cases c2:(mget m (⟨s.a1,s.a0⟩:Ab)).isSome=true
   ·rw [if_pos c2,if_pos c2,gd_t (Qj hn k1 k2),Ai]
    obtain ⟨k,hk⟩:=Option.isSome_iff_exists.1 c1
    obtain ⟨l,hl⟩:=Option.isSome_iff_exists.1 c2
    have hk':apM m s.a0 s.a1=some k:=hk
    have vk:=(h.map.val hk').2.2
    have vl:=(h.map.val (show apM m s.a1 s.a0=some l from hl)).2.2
    rw [p_eq (b:=⟨v,m,F⟩) k1,Ai,p_eq (b:=⟨v,m,F⟩) k2,Ai,hk,hl]
    simp only [Option.getD_some]
    rw [p_eq (b:=⟨v,m,F⟩) vk,Ai,p_eq (b:=⟨v,m,F⟩) vl,Ai]
    rfl
   ·rw [if_neg c2,if_neg c2];rfl
  ·rw [if_neg c1,if_neg c1];rfl
 rw [e0]
 dsimp only
 have pop:(∀ k l,apM m s.a0 s.a1=some k→apM m s.a1 s.a0=some l→Fx F s.a0 s.a1=true∨DH (plV v) (hV v) s.a0 s.a1 k l < 0) →
   ∃ q' m',some (Sum.inl (v,m,F,q))=some (Sum.inl (β:=Aj) (v,m',F,q'))∧Ic v F q' m'∧Qk v F m m'∧((m'=m∧q'=q)∨(phi (plV v) (hV v) v.length m' < phi (plV v) (hV v) v.length m∧q'.length=q.length+4)) :=
  fun hs=>⟨q,m,rfl,h.pop hs,.refl,.inl ⟨rfl,rfl⟩⟩
 by_cases c1:(mget m s).isSome=true
 ·obtain ⟨k,hk⟩:=Option.isSome_iff_exists.1 c1
  have hk':apM m s.a0 s.a1=some k:=hk
  rw [if_pos c1]
  by_cases c2:(mget m (⟨s.a1,s.a0⟩:Ab)).isSome=true
  ·obtain ⟨l,hl⟩:=Option.isSome_iff_exists.1 c2
   have hl':apM m s.a1 s.a0=some l:=hl
   rw [if_pos c2]
   have hF:Fx F s.a0 s.a1=(mget F s).getD false:=by
    show (mget F (pr2 s.a0 s.a1)).getD false=_
    rw [es]
   by_cases c3:(mget F s).getD false=true
   ·rw [if_pos c3]
    exact pop fun _ _ _ _=>.inl (by rw [hF];exact c3)
   ·rw [if_neg c3,hk,hl]
    simp only [Option.getD_some]
    obtain ⟨vi,vj,vk,ck⟩:=h.tri.ccw _ _ _ hk'
    obtain ⟨_,_,vl,cl⟩:=h.tri.ccw _ _ _ hl'
    have c0:crs (plV v s.a0) (plV v s.a1) (plV v l) < 0:=by rw [Df];omega
    obtain ⟨hleg,hne⟩:=Agk hv vi vj vk vl ck c0
    have hsd:Int.sign (crs (plV v s.a0) (plV v s.a1) (plV v k))*Int.sign (crs (plV v s.a0) (plV v s.a1) (plV v l)) = -1:=by rw [Acq];exact .inr ⟨ck,c0⟩
    obtain ⟨d1,d2,d3,d4⟩:=Ahd hsd
    rw [Ao7 (hv.ok _ vi) (hv.ok _ vj) (hv.ok _ vk) (hv.ok _ vl) d1 d2 d3 d4,Ai]
    by_cases c4:legP (plV v s.a0) (plV v s.a1) (plV v k) (plV v l)
    ·rw [decide_eq_true c4,if_pos rfl]
     refine pop fun k' l' hk2 hl2=>.inr ?_
     rw [hk'] at hk2
     rw [hl'] at hl2
     cases hk2;cases hl2
     exact hleg.1 c4
    ·rw [decide_eq_false c4,if_neg (by simp)]
     have hD:¬ DH (plV v) (hV v) s.a0 s.a1 k l < 0:=fun g=>c4 (hleg.2 g)
     have Q:=Ak6 hv h.tri hk' hl' hD
     have hs:Int.sign (crs (plV v k) (plV v l) (plV v s.a0))*Int.sign (crs (plV v k) (plV v l) (plV v s.a1)) = -1:=by
      rw [Acq]
      left
      refine ⟨?_,by rw [Co];exact Q.c2⟩
      have e:crs (plV v k) (plV v l) (plV v s.a0) = -crs (plV v s.a0) (plV v l) (plV v k):=by unfold crs;grind
      have:=Q.c1
      omega
     rw [Aqk (b:=⟨v,m,F⟩) hv hn h.map hk' hl',if_pos hs,Ai]
     simp only [if_true]
     rw [gd_t (by omega)]
     obtain ⟨n1,n2,n3,n4,n5,n6⟩:=Q.ne
     refine ⟨_,_,rfl,h.flip hv hk' hl' hD,⟨fun S hc=>?_,fun a b hF2 hab=>?_,fun _=>by simp [Aeq,putM,mput]⟩,.inr ⟨Aod h.map.ok (Yo hv) Q (by omega),by simp⟩⟩
     ·rw [Aer h.map.ok n1 n2 n3 n4 n5 n6]
      exact Q.cov hc
     ·rw [Aer h.map.ok n1 n2 n3 n4 n5 n6]
      have nf:∀ a b,Fx F a b=true→¬ ((a=s.a0∧b=s.a1)∨(a=s.a1∧b=s.a0)):=fun a b hab e=>by
       rcases e with ⟨e1,e2⟩ | ⟨e1,e2⟩
       ·rw [e1,e2,hF] at hab;exact c3 hab
       ·rw [e1,e2,Ak7,hF] at hab;exact c3 hab
      rcases hab with g | g
      ·left
       intro e
       rcases Acu e with t | t
       ·exact g t
       ·exact nf a b hF2 t
      ·right
       intro e
       rcases Acu e with t | t
       ·exact g t
       ·exact nf b a (by rw [Ak7];exact hF2) t
  ·rw [if_neg c2]
   refine pop fun k' l' _ hl2=>?_
   exact absurd (by rw [show mget m (⟨s.a1,s.a0⟩:Ab)=some l' from hl2];rfl) c2
 ·rw [if_neg c1]
  refine pop fun k' l' hk2 _=>?_
  exact absurd (by rw [show mget m s=some k' from hk2];rfl) c1
theorem Aml {b:Aj} (hv:Gb b.v) (hn:b.v.length≤1024) (hm:MapN b.v.length b.apex) (ht:Tri (plV b.v) (inN b.v.length) (apM b.apex)) :
  ∃ m',Gz b=some ⟨b.v,m',b.fixed⟩∧Ic b.v b.fixed [] m'∧Qk b.v b.fixed b.apex m':=by
 have hsq:=Ac2 hn
 have hl:=hm.len
 have hf:∀ q,(Th b.apex q).length≤1:=fun q=>by unfold Th;split <;> simp
 have h0:Ic b.v b.fixed (Br cmp2 (b.apex.flatMap (Th b.apex))) b.apex:=by
  refine ⟨hm,ht,fun s hs=>?_,fun i j k l hk hl=>.inl ?_⟩
  ·rw [Qy] at hs
   obtain ⟨q,hq,hs⟩:=List.mem_flatMap.1 hs
   obtain ⟨k1,k2,k3⟩:=hm.key q hq
   unfold Th at hs
   split at hs
   ·rw [List.mem_singleton] at hs
    subst hs
    unfold inN at *
    simp only
    omega
   ·cases hs
  ·rw [Qy,List.mem_flatMap]
   have n1:=(ht.ne hk).1
   rcases Int.lt_or_gt_of_ne n1 with c | c
   ·refine ⟨(⟨i,j⟩,k),Is hk,?_⟩
    unfold Th pr2
    rw [if_pos (.inl c)]
    exact List.mem_singleton.2 rfl
   ·refine ⟨(⟨j,i⟩,l),Is hl,?_⟩
    unfold Th
    rw [if_pos (.inl c),Va]
    exact List.mem_singleton.2 rfl
 unfold Gz
 rw [Aoa hn hm,Ai]
 have hlen:(Br cmp2 (b.apex.flatMap (Th b.apex))).length≤1048576:=by
  rw [Eq]
  have:=Kl hf b.apex
  omega
 have hphi:phi (plV b.v) (hV b.v) b.v.length b.apex≤1073741824:=by
  have h1:=Aoc (P:=plV b.v) (H:=hV b.v) (n:=b.v.length) b.apex
  have h2:=Nat.mul_le_mul (show b.apex.length≤1048576 by omega) hn
  omega
 have:=Cu (B:=Dq) (fun s=>4*phi (plV b.v) (hV b.v) b.v.length s.2.1+s.2.2.2.length)
  (fun s=>s.1=b.v∧s.2.2.1=b.fixed∧Ic b.v b.fixed s.2.2.2 s.2.1∧Qk b.v b.fixed b.apex s.2.1∧4*phi (plV b.v) (hV b.v) b.v.length s.2.1+s.2.2.2.length≤5000000000)
  (fun t=>∃ m',t=⟨b.v,m',b.fixed⟩∧Ic b.v b.fixed [] m'∧Qk b.v b.fixed b.apex m') (fun s hs=>by
   obtain ⟨v,m,F,q⟩:=s
   obtain ⟨e1,e2,h1,h2,h3⟩:=hs
   simp only at e1 e2 h1 h2 h3
   subst e1;subst e2
   by_cases hq:q=[]
   ·subst hq
    right
    refine ⟨⟨b.v,m,b.fixed⟩,?_,m,rfl,h1,h2⟩
    unfold Dq
    rw [if_neg (by simp)]
   ·left
    obtain ⟨q0,s,rfl⟩:∃ q0 s,q=q0++[s]:=⟨q.dropLast,q.getLast hq,(List.dropLast_concat_getLast hq).symm⟩
    rw [List.length_append,List.length_singleton] at h3
    obtain ⟨q',m',h4,h5,h6,h7⟩:=Aie hv hn h1 (by omega)
    refine ⟨_,h4,⟨rfl,rfl,h5,h2.trans h6,?_⟩,?_⟩
    ·dsimp only
     rcases h7 with ⟨rfl,rfl⟩ | ⟨g1,g2⟩ <;> omega
    ·dsimp only
     rw [List.length_append,List.length_singleton]
     rcases h7 with ⟨rfl,rfl⟩ | ⟨g1,g2⟩ <;> omega)
  (b.v,b.apex,b.fixed,Br cmp2 (b.apex.flatMap (Th b.apex))) ⟨rfl,rfl,h0,.refl,by dsimp only;omega⟩
 obtain ⟨t,h1,m',rfl,h2,h3⟩:=this
 rw [h1,Ai]
 exact ⟨m',rfl,h2,h3⟩
end Go.Proofs.YtbkobeeileemjaaGreat
/- The vertices in the order of places; triangles put around one more place. -/
namespace Go.Proofs.YtbkobeeileemjaaGreat
open Go Go.RowKit
theorem Aae {σ τ:Type} {B:σ→Option (Sum σ τ)} (st:Nat→σ) (t:τ):∀ (N:Nat),(∀ k,k < N→B (st k)=some (.inl (st (k+1))))→B (st N)=some (.inr t)→lfix B (st 0)=some t:=by
 intro N h he
 have key:∀ j k,j+k=N→lfix B (st k)=some t:=by
  intro j
  induction j with
  | zero =>
   intro k hk
   rw [Cj,show k=N by omega,he]
  | succ j ih =>
   intro k hk
   rw [Cj,h k (by omega)]
   exact ih (k+1) (by omega)
 exact key N 0 (by omega)
theorem Aqm {v:List Ae} {i j:Nat} (hi:i < v.length) (hj:j < v.length):befV v[i] v[j]↔befP (plV v (i:Int)) (plV v (j:Int)):=by
 unfold plV
 rw [Bo hi,Bo hj]
 rfl
theorem Afp {v:List Ae} (hv:Gb v):El v:=by
 unfold El
 rw [List.pairwise_iff_getElem]
 intro i j hi hj hij hs
 have:=hv.dist (i:Int) (j:Int) ⟨by omega,by omega⟩ ⟨by omega,by omega⟩ (by
  unfold plV Dk
  rw [Bo hi,Bo hj]
  exact hs)
 omega
/-- The vertices, in the order of places. -/
structure Mg (v:List Ae) (l:List Int):Prop where
 perm:l.Perm (inds v.length)
 ord:l.Pairwise fun i j=>befP (plV v i) (plV v j)
theorem Aif {v:List Ae} (hv:Gb v) (hn:v.length≤1024):∃ l,Sv v=some l∧Mg v l:=by
 have hd:=Afp hv
 have h0:lfix (Oe v) (([]:List Int),0)=some (inds v.length):=by
  refine Aae (fun k=>(inds k,(k:Int))) _ v.length (fun k hk=>?_) ?_
  ·unfold Oe
   rw [if_pos (by simp only;omega),gd_t (by simp only [Vj];omega),Cw (by omega)]
   unfold inds
   rw [List.range_succ,List.map_append]
   rfl
  ·unfold Oe
   rw [if_neg (by simp only;omega)]
 have hok:∀ x∈inds v.length,okIx v x:=fun x hx=>Ru.1 hx
 refine ⟨Br (cmpR v) (inds v.length),?_,Jk _ _,?_⟩
 ·unfold Sv
  rw [jn_d,h0,Ai]
  exact gd_t ⟨by rw [Vj];omega,hok,hd⟩
 ·have hs:=Ol (totR hd) hok
  have hp:=Jk (cmpR v) (inds v.length)
  have hnd:(Br (cmpR v) (inds v.length)).Nodup:=(hp.nodup_iff).2 Tp
  unfold List.Nodup at hnd
  have:=hs.and hnd
  refine List.Pairwise.imp_of_mem ?_ this
  rintro i j hi hj ⟨h1,h2⟩
  obtain ⟨a,ha,rfl,_⟩:=Ip (hok i (hp.mem_iff.1 hi))
  obtain ⟨b,hb,rfl,_⟩:=Ip (hok j (hp.mem_iff.1 hj))
  rw [← Aqm ha hb]
  by_cases c:befV v[a] v[b]
  ·exact c
  ·rw [Sq hb ha] at h1
   exfalso
   apply h2
   have:=(totR hd).tot (a:Int) (b:Int) ⟨by omega,by omega⟩ ⟨by omega,by omega⟩ (by rw [Sq ha hb];exact c) (by rw [Sq hb ha];exact h1)
   exact this
/-! ### triangles put around a place -/
noncomputable def putAll (m:Mp) (p:Int) (l:List Ab):Mp:=l.foldl (fun m s=>putM m s.a0 s.a1 p) m
theorem MapN.putAll {n:Nat} {p:Int} (hp:inN n p):∀ {l:List Ab} {m:Mp},MapN n m→(∀ s∈l,inN n s.a0∧inN n s.a1)→MapN n (putAll m p l)
 | [],_,h,_=>h
 | s::r,m,h,hs=>MapN.putAll hp (l:=r) (h.putM (hs s List.mem_cons_self).1 (hs s List.mem_cons_self).2 hp) fun x hx=>hs x (List.mem_cons_of_mem _ hx)
variable {P:Int→Ad} {V S:Int→Prop} {R:Int→Int→Prop} {p:Int}
theorem Age {m:Mp} (hm:Dx m) (h:Adds P V S (apM m) R p):∀ (l:List Ab),(∀ s∈l,Vis P R p s.a0 s.a1)→Dx (putAll m p l) ∧
  ∀ i j k,apM (putAll m p l) i j=some k↔apM m i j=some k∨((⟨i,j⟩∈l∧k=p)∨(⟨k,i⟩∈l∧j=p)∨(⟨j,k⟩∈l∧i=p)):=by
 intro l
 generalize hr:l.reverse=r
 have hl:l=r.reverse:=by rw [← hr,List.reverse_reverse]
 clear hr
 subst hl
 induction r with
 | nil=>intro _;exact ⟨hm,fun i j k=>by simp [putAll]⟩
 | cons s r ih =>
  intro hs
  have hs':∀ x∈r.reverse,Vis P R p x.a0 x.a1:=fun x hx=>hs x (by simp at hx ⊢;exact .inl hx)
  have hv:=hs s (by simp)
  obtain ⟨i1,i2⟩:=ih hs'
  obtain ⟨sx,sy,nxy,_⟩:=h.r1 _ _ hv.1
  have np:=h.np
  have e:putAll m p (s::r).reverse=putM (putAll m p r.reverse) s.a0 s.a1 p:=by
   unfold putAll
   rw [List.reverse_cons,List.foldl_append]
   rfl
  rw [e]
  refine ⟨((i1.put _ _).put _ _).put _ _,fun i j k=>?_⟩
  rw [Yj i1]
  -- what the keys of the new triangle held before
  have visS:∀ {x y:Int},(⟨x,y⟩:Ab)∈r.reverse→Vis P R p x y:=fun hx=>hs' _ hx
  have k1:∀ c,apM (putAll m p r.reverse) p s.a0=some c→c=s.a1:=fun c hc=>by
   rcases (i2 _ _ _).1 hc with g | ⟨g,_⟩ | ⟨g,_⟩ | ⟨g,_⟩
   ·exact absurd (h.used _ _ _ g) np
   ·exact absurd (h.r1 _ _ (visS g).1).1 np
   ·exact absurd (h.r1 _ _ (visS g).1).2.1 np
   ·exact h.uniq2 (visS g) hv
  have k2:∀ c,apM (putAll m p r.reverse) s.a1 p=some c→c=s.a0:=fun c hc=>by
   rcases (i2 _ _ _).1 hc with g | ⟨g,_⟩ | ⟨g,_⟩ | ⟨g,e⟩
   ·exact absurd (h.used _ _ _ (h.tri.rot _ _ _ g)) np
   ·exact absurd (h.r1 _ _ (visS g).1).2.1 np
   ·exact h.uniq (visS g) hv
   ·exact absurd (e ▸ sy) np
  have k3:∀ c,apM (putAll m p r.reverse) s.a0 s.a1=some c→c=p:=fun c hc=>by
   rcases (i2 _ _ _).1 hc with g | ⟨_,g⟩ | ⟨_,e⟩ | ⟨_,e⟩
   ·rw [h.r4 _ _ hv.1] at g;cases g
   ·exact g
   ·exact absurd (e ▸ sy) np
   ·exact absurd (e ▸ sx) np
  have mem:∀ x y:Int,(⟨x,y⟩:Ab)∈(s::r).reverse↔(x=s.a0∧y=s.a1)∨(⟨x,y⟩:Ab)∈r.reverse:=fun x y=>by
   obtain ⟨s0,s1⟩:=s
   rw [List.reverse_cons,List.mem_append,List.mem_singleton,Jl]
   exact Or.comm
  rw [mem,mem,mem]
  have i2':=i2 i j k
  by_cases c1:i=p∧j=s.a0
  ·rw [if_pos c1]
   obtain ⟨rfl,rfl⟩:=c1
   constructor
   ·intro hk
    cases hk
    exact .inr (.inr (.inr ⟨.inl ⟨rfl,rfl⟩,rfl⟩))
   ·rintro (g | ⟨⟨e1,_⟩ | g,e⟩ | ⟨⟨_,e2⟩ | g,e⟩ | ⟨⟨_,e2⟩ | g,_⟩)
    ·exact absurd (h.used _ _ _ g) np
    ·exact absurd (e1 ▸ sx) np
    ·exact absurd (h.r1 _ _ (visS g).1).1 np
    ·exact absurd (e2 ▸ sy) np
    ·exact absurd (h.r1 _ _ (visS g).1).2.1 np
    ·rw [e2]
    ·rw [h.uniq2 hv (visS g)]
  rw [if_neg c1]
  by_cases c2:i=s.a1∧j=p
  ·rw [if_pos c2]
   obtain ⟨rfl,rfl⟩:=c2
   constructor
   ·intro hk
    cases hk
    exact .inr (.inr (.inl ⟨.inl ⟨rfl,rfl⟩,rfl⟩))
   ·rintro (g | ⟨⟨_,e1⟩ | g,e⟩ | ⟨⟨e1,_⟩ | g,e⟩ | ⟨⟨e1,_⟩ | g,e⟩)
    ·exact absurd (h.used _ _ _ (h.tri.rot _ _ _ g)) np
    ·exact absurd (e1 ▸ sy) np
    ·exact absurd (h.r1 _ _ (visS g).1).2.1 np
    ·rw [e1]
    ·rw [h.uniq hv (visS g)]
    ·exact absurd (e ▸ sy) np
    ·exact absurd (e ▸ sy) np
  rw [if_neg c2]
  by_cases c3:i=s.a0∧j=s.a1
  ·rw [if_pos c3]
   obtain ⟨rfl,rfl⟩:=c3
   constructor
   ·intro hk
    cases hk
    exact .inr (.inl ⟨.inl ⟨rfl,rfl⟩,rfl⟩)
   ·rintro (g | ⟨_,e⟩ | ⟨_,e⟩ | ⟨_,e⟩)
    ·rw [h.r4 _ _ hv.1] at g;cases g
    ·rw [e]
    ·exact absurd (e ▸ sy) np
    ·exact absurd (e ▸ sx) np
  rw [if_neg c3,i2']
  constructor
  ·rintro (g | ⟨g,e⟩ | ⟨g,e⟩ | ⟨g,e⟩)
   ·exact .inl g
   ·exact .inr (.inl ⟨.inr g,e⟩)
   ·exact .inr (.inr (.inl ⟨.inr g,e⟩))
   ·exact .inr (.inr (.inr ⟨.inr g,e⟩))
  ·rintro (g | ⟨g | g,e⟩ | ⟨g | g,e⟩ | ⟨g | g,e⟩)
   ·exact .inl g
   ·exact absurd g c3
   ·exact .inr (.inl ⟨g,e⟩)
   ·exact absurd ⟨g.2,e⟩ c2
   ·exact .inr (.inr (.inl ⟨g,e⟩))
   ·exact absurd ⟨e,g.1⟩ c1
   ·exact .inr (.inr (.inr ⟨g,e⟩))
end Go.Proofs.YtbkobeeileemjaaGreat
/- The sweep: one more place. -/
namespace Go.Proofs.YtbkobeeileemjaaGreat
open Go Go.RowKit
theorem Afq {a b c q:Ad} (h1:befP a b) (h2:befP b c) (h0:crs a b c=0) (hq:crs a b q < 0):crs b c q < 0:=by
 have m:∀ x y z:Ad,crs ⟨x.X,-x.Y⟩ ⟨y.X,-y.Y⟩ ⟨z.X,-z.Y⟩ = -crs x y z:=fun x y z=>by unfold crs;grind
 -- the mirrored places turn the other way;the order on one line stays as long as it is not vertical
 have e1:crs b c q*(b.X-a.X)=crs a b q*(c.X-b.X)-(q.X-b.X)*crs a b c:=by unfold crs;grind
 have e2:crs b c q*(b.Y-a.Y)=crs a b q*(c.Y-b.Y)-(q.Y-b.Y)*crs a b c:=by unfold crs;grind
 have e3:(b.X-a.X)*(c.Y-b.Y)-(b.Y-a.Y)*(c.X-b.X)=crs a b c:=by unfold crs;grind
 rw [h0,Int.mul_zero,Int.sub_zero] at e1 e2
 rw [h0] at e3
 have fin:∀ x w z:Int,x*w=crs a b q*z→0 < w→0 < z→x < 0:=fun x w z e hw hz=>by
  have:=Int.mul_neg_of_neg_of_pos hq hz
  rcases Int.lt_or_le x 0 with k | k
  ·exact k
  ·have:=Int.mul_nonneg k (Int.le_of_lt hw);omega
 by_cases g:a.X < b.X
 ·have hc:b.X < c.X:=by
   rcases Int.lt_or_le b.X c.X with k | k
   ·exact k
   ·have hx:c.X=b.X:=by unfold befP at h2;omega
    have hy:b.Y < c.Y:=by unfold befP at h2;omega
    have z:c.X-b.X=0:=by omega
    rw [z,Int.mul_zero] at e3
    have:=Int.mul_pos (show 0 < b.X-a.X by omega) (show 0 < c.Y-b.Y by omega)
    omega
  exact fin _ _ _ e1 (by omega) (by omega)
 ·have hx:a.X=b.X:=by unfold befP at h1;omega
  have hy:a.Y < b.Y:=by unfold befP at h1;omega
  have hc:b.X=c.X:=by
   have z:b.X-a.X=0:=by omega
   rw [z,Int.zero_mul] at e3
   have:(b.Y-a.Y)*(c.X-b.X)=0:=by omega
   rcases Int.mul_eq_zero.1 this with k | k <;> omega
  have hy2:b.Y < c.Y:=by unfold befP at h2;omega
  exact fin _ _ _ e2 (by omega) (by omega)
section
variable {v:List Ae} {l:List Int}
theorem Mg.len (hr:Mg v l):l.length=v.length:=by rw [hr.perm.length_eq,Vj]
theorem Mg.val (hr:Mg v l) {i:Int}:i∈l↔inN v.length i:=by rw [hr.perm.mem_iff,Ru]
theorem Mg.lt (hr:Mg v l) {a b:Nat} (ha:a < l.length) (hb:b < l.length) (h:a < b):befP (plV v l[a]) (plV v l[b]):=(List.pairwise_iff_getElem.1 hr.ord) a b ha hb h
theorem Mg.inj (hr:Mg v l) {a b:Nat} (ha:a < l.length) (hb:b < l.length) (h:l[a]=l[b]):a=b:=by
 rcases Nat.lt_trichotomy a b with c | c | c
 ·have:=hr.lt ha hb c
  rw [h] at this
  exact (Rb this this).elim
 ·exact c
 ·have:=hr.lt hb ha c
  rw [h] at this
  exact (Rb this this).elim
def Km (l:List Int) (k:Nat) (i:Int):Prop:=∃ (j:Nat) (hj:j < l.length),j < k∧i=l[j]
structure Agf (v:List Ae) (l:List Int) (k:Nat) (m:Mp):Prop where
 map:MapN v.length m
 tri:Tri (plV v) (inN v.length) (apM m)
 cov:Cov (plV v) (Km l k) (apM m)
 used:∀ i j c,apM m i j=some c→Km l k i
theorem Km.succ {k:Nat} (hk:k < l.length) {i:Int}:Km l (k+1) i↔Km l k i∨i=l[k]:=by
 constructor
 ·rintro ⟨j,hj,h1,rfl⟩
  by_cases e:j=k
  ·subst e;exact .inr rfl
  ·exact .inl ⟨j,hj,by omega,rfl⟩
 ·rintro (⟨j,hj,h1,rfl⟩ | rfl)
  ·exact ⟨j,hj,by omega,rfl⟩
  ·exact ⟨k,hk,by omega,rfl⟩
theorem Mg.place (hr:Mg v l) {k:Nat} (hk:k < l.length):(∀ i,Km l k i→inN v.length i)∧inN v.length l[k]∧¬ Km l k l[k]∧(∀ i,Km l k i→befP (plV v i) (plV v l[k]))∧(∀ i,inN v.length i→¬ Km l k i→i≠l[k]→befP (plV v l[k]) (plV v i)):=by
 refine ⟨fun i hi=>?_,hr.val.1 (List.getElem_mem hk),fun hp=>?_,fun i hi=>?_,fun i hi h1 h2=>?_⟩
 ·obtain ⟨j,hj,_,rfl⟩:=hi
  exact hr.val.1 (List.getElem_mem hj)
 ·obtain ⟨j,hj,h1,e⟩:=hp
  have:=hr.inj hk hj e
  omega
 ·obtain ⟨j,hj,h1,rfl⟩:=hi
  exact hr.lt hj hk h1
 ·obtain ⟨j,hj,rfl⟩:=List.getElem_of_mem (hr.val.2 hi)
  refine hr.lt hk hj ?_
  rcases Nat.lt_trichotomy j k with c | c | c
  ·exact absurd ⟨j,hj,c,rfl⟩ h1
  ·subst c;exact absurd rfl h2
  ·exact c
/-- Which sides of the rim the place sees, as a list. -/
def visB (v:List Ae) (p:Int) (s:Ab):Bool:=decide (0 < crs (plV v s.a0) (plV v s.a1) (plV v p))
theorem Ash (hv:Gb v) (hn:v.length≤1024) {F:List (Ab × Bool)} {b:Aj} {rl:List Ab} {m:Mp} (hm:MapN v.length m) {p:Int} (hp:inN v.length p) (hrl:∀ s∈rl,inN v.length s.a0∧inN v.length s.a1) (hlen:rl.length≤2000000) :
  lfix (Do (b,rl) p) (v,m,F,0)=some (v,putAll m p (rl.filter (visB v p)),F):=by
 have hM:∀ k,MapN v.length (putAll m p ((rl.take k).filter (visB v p))):=fun k=>hm.putAll hp fun s hs=>hrl s (List.mem_of_mem_take (List.mem_filter.1 hs).1)
 have:=Aae (B:=Do (b,rl) p) (fun k=>(v,putAll m p ((rl.take k).filter (visB v p)),F,(k:Int))) (v,putAll m p (rl.filter (visB v p)),F) rl.length (fun k hk=>?_) ?_
 ·simpa [putAll] using this
 ·unfold Do
  have hs:=hrl rl[k] (List.getElem_mem hk)
  have e:(rl.take (k+1)).filter (visB v p)=(rl.take k).filter (visB v p)++if visB v p rl[k] then [rl[k]] else []:=by
   rw [List.take_succ_eq_append_getElem hk,List.filter_append,List.filter_cons,List.filter_nil]
  simp only
  rw [if_pos (by omega),jn_d,Bo hk,Ai,p_eq (b:=⟨v,_,F⟩) hs.1,Ai,p_eq (b:=⟨v,_,F⟩) hs.2,Ai,p_eq (b:=⟨v,_,F⟩) hp,Ai,turn_eq (hv.ok _ hs.1) (hv.ok _ hs.2) (hv.ok _ hp),Ai,Cw (by omega),e]
  by_cases c:0 < crs (plV v rl[k].a0) (plV v rl[k].a1) (plV v p)
  ·rw [Int.sign_eq_one_of_pos c,if_pos (by omega),Aes (b:=⟨v,putAll m p ((rl.take k).filter (visB v p)),F⟩) hn (hM k) hs.1 hs.2 hp,Ai,if_pos (by unfold visB;simpa using c)]
   dsimp only
   unfold putAll
   rw [List.foldl_append]
   rfl
  ·rw [if_neg (fun g=>c (by
    rcases Int.lt_trichotomy (crs (plV v rl[k].a0) (plV v rl[k].a1) (plV v p)) 0 with t | t | t
    ·rw [Int.sign_eq_neg_one_of_neg t] at g;omega
    ·rw [t] at g;simp at g
    ·exact t)),if_neg (by unfold visB;simpa using c),List.append_nil]
 ·unfold Do
  simp only
  rw [if_neg (by omega),List.take_length]
/-- One more place, by the program. -/
theorem Agf.step (hv:Gb v) (hn:v.length≤1024) (hr:Mg v l) {F:List (Ab × Bool)} {k:Nat} (hk:k < l.length) {m:Mp} (h:Agf v l k m) :
  ∃ m',(bnd (Hm ⟨v,m,F⟩) fun r498=>bnd (lfix (Do r498 l[k]) (r498.1.v,r498.1.apex,r498.1.fixed,0)) fun t=>some t)=some (v,m',F)∧Agf v l (k+1) m'∧(m≠[]→m'≠[]):=by
 obtain ⟨q1,q2,q3,q4,q5⟩:=hr.place hk
 have hA:=Api h.tri h.cov h.used q1 q2 q3 q4 q5
 have hsq:=Ac2 hn
 have hl:=h.map.len
 have hf:∀ q,(rimF m q).length≤1:=fun q=>by unfold rimF;split <;> simp
 have hmem:∀ x y:Int,(⟨x,y⟩:Ab)∈m.flatMap (rimF m)↔Rim (apM m) x y:=fun x y=>by
  rw [List.mem_flatMap]
  constructor
  ·rintro ⟨q,hq,hx⟩
   unfold rimF at hx
   split at hx
   ·cases hx
   ·rename_i hn
    rw [List.mem_singleton] at hx
    obtain ⟨⟨a,b⟩,c⟩:=q
    unfold rev2 at hx hn
    rw [Jl] at hx
    simp only at hx hn
    obtain ⟨rfl,rfl⟩:=hx
    refine ⟨⟨c,Rm h.map.ok hq⟩,?_⟩
    simpa [apM] using hn
  ·rintro ⟨⟨c,hc⟩,hn⟩
   refine ⟨(⟨y,x⟩,c),Is hc,?_⟩
   unfold rimF rev2
   rw [if_neg (by rw [show mget m (⟨x,y⟩:Ab)=none from hn];simp)]
   exact List.mem_singleton.2 rfl
 have hrl:∀ s∈Br cmp2 (m.flatMap (rimF m)),inN v.length s.a0∧inN v.length s.a1:=fun s hs=>by
  rw [Qy] at hs
  obtain ⟨x,y⟩:=s
  obtain ⟨⟨c,hc⟩,_⟩:=(hmem x y).1 hs
  have:=h.map.val hc
  exact ⟨this.2.1,this.1⟩
 have hlen:(Br cmp2 (m.flatMap (rimF m))).length≤2000000:=by
  rw [Eq]
  have:=Kl hf m
  omega
 rw [Asg (b:=⟨v,m,F⟩) hn h.map,Ai]
 dsimp only
 rw [Ash hv hn h.map q2 hrl hlen,Ai]
 have hvis:∀ s∈(Br cmp2 (m.flatMap (rimF m))).filter (visB v l[k]),Vis (plV v) (Rim (apM m)) l[k] s.a0 s.a1:=fun s hs=>by
  obtain ⟨h1,h2⟩:=List.mem_filter.1 hs
  rw [Qy] at h1
  exact ⟨(hmem s.a0 s.a1).1 h1,by unfold visB at h2;simpa using h2⟩
 have hmv:∀ x y:Int,(⟨x,y⟩:Ab)∈(Br cmp2 (m.flatMap (rimF m))).filter (visB v l[k])↔Vis (plV v) (Rim (apM m)) l[k] x y:=fun x y=>by
  constructor
  ·exact fun hs=>hvis _ hs
  ·rintro ⟨h1,h2⟩
   exact List.mem_filter.2 ⟨Qy.2 ((hmem x y).2 h1),by unfold visB;simpa using h2⟩
 obtain ⟨o1,o2⟩:=Age h.map.ok hA _ hvis
 have hN:∀ i j c,apM (putAll m l[k] ((Br cmp2 (m.flatMap (rimF m))).filter (visB v l[k]))) i j=some c↔apM m i j=some c∨New (plV v) (Rim (apM m)) l[k] i j c:=fun i j c=>by
  rw [o2,hmv,hmv,hmv]
  rfl
 refine ⟨_,rfl,⟨?_,hA.tri' hN,?_,?_⟩,fun hne=>?_⟩
 ·exact h.map.putAll q2 fun s hs=>hrl s (List.mem_filter.1 hs).1
 ·have:=hA.cov' hN h.cov
  intro i j c hc hn d hd
  exact this i j c hc hn d ((Km.succ hk).1 hd)
 ·intro i j c hc
  exact (Km.succ hk).2 (hA.used' hN i j c hc)
 ·obtain ⟨q,hq⟩:=List.exists_mem_of_ne_nil m hne
  intro e
  obtain ⟨⟨a,b⟩,c⟩:=q
  have hc:apM m a b=some c:=Rm h.map.ok hq
  have:=(hN a b c).2 (.inl hc)
  rw [e] at this
  cases this
end
end Go.Proofs.YtbkobeeileemjaaGreat
/- The sweep, run. -/
namespace Go.Proofs.YtbkobeeileemjaaGreat
open Go Go.RowKit
/-- All places lie on one line. -/
def Aet (v:List Ae):Prop:=∀ i j k,inN v.length i→inN v.length j→inN v.length k→crs (plV v i) (plV v j) (plV v k)=0
section
variable {v:List Ae} {l:List Int}
theorem Atn (hv:Gb v) (hn:v.length≤1024) (hr:Mg v l) (b:Aj) (hb:b.v=v):∃ n0:Nat,lfix (Fq l b) 2=some (n0:Int)∧2≤n0∧(∀ k,2≤k→k < n0→∃ (h0:0 < l.length) (h1:1 < l.length) (hk:k < l.length),crs (plV v l[0]) (plV v l[1]) (plV v l[k])=0) ∧
  (∀ (h0:0 < l.length) (h1:1 < l.length) (hk:n0 < l.length),crs (plV v l[0]) (plV v l[1]) (plV v l[n0])≠0)∧(n0≤l.length∨n0=2):=by
 have hlen:=hr.len
 have:=Cu (B:=Fq l b) (fun s=>l.length-s.toNat) (fun s=>∃ k:Nat,s=(k:Int)∧2≤k∧(k≤l.length∨k=2)∧∀ j,2≤j→j < k→∃ (h0:0 < l.length) (h1:1 < l.length) (hk:j < l.length),crs (plV v l[0]) (plV v l[1]) (plV v l[j])=0)
  (fun t=>∃ n0:Nat,t=(n0:Int)∧2≤n0∧(∀ k,2≤k→k < n0→∃ (h0:0 < l.length) (h1:1 < l.length) (hk:k < l.length),crs (plV v l[0]) (plV v l[1]) (plV v l[k])=0) ∧
   (∀ (h0:0 < l.length) (h1:1 < l.length) (hk:n0 < l.length),crs (plV v l[0]) (plV v l[1]) (plV v l[n0])≠0)∧(n0≤l.length∨n0=2)) (fun s hs=>by
   obtain ⟨k,rfl,h2,h3,h4⟩:=hs
   unfold Fq
   rw [jn_d]
   by_cases c:k < l.length
   ·have h0:0 < l.length:=by omega
    have h1:1 < l.length:=by omega
    have i0:idx l 0=some l[0]:=Bo (j:=0) h0
    have i1:idx l 1=some l[1]:=Bo (j:=1) h1
    have v0:=hr.val.1 (List.getElem_mem h0)
    have v1:=hr.val.1 (List.getElem_mem h1)
    have vk:=hr.val.1 (List.getElem_mem c)
    rw [← hb] at v0 v1 vk
    rw [if_pos (by omega),i0,Ai,i1,Ai,Bo c,Ai,p_eq v0,Ai,p_eq v1,Ai,p_eq vk,Ai,hb]
    rw [hb] at v0 v1 vk
    rw [turn_eq (hv.ok _ v0) (hv.ok _ v1) (hv.ok _ vk),Ai]
    by_cases z:crs (plV v l[0]) (plV v l[1]) (plV v l[k])=0
    ·left
     rw [decide_eq_true (by rw [z];rfl)]
     refine ⟨((k+1:Nat):Int),?_,⟨k+1,rfl,by omega,.inl (by omega),fun j hj hjk=>?_⟩,by omega⟩
     ·dsimp only
      rw [if_pos rfl,Cw (by omega)]
     ·by_cases e:j=k
      ·subst e;exact ⟨h0,h1,c,z⟩
      ·exact h4 j hj (by omega)
    ·right
     rw [decide_eq_false (by rwa [Int.sign_eq_zero_iff_zero])]
     exact ⟨(k:Int),rfl,k,rfl,h2,h4,fun _ _ _=>z,h3⟩
   ·right
    rw [if_neg (by omega)]
    exact ⟨(k:Int),rfl,k,rfl,h2,h4,fun _ _ hk=>absurd hk c,h3⟩) 2 ⟨2,rfl,by omega,.inr rfl,fun j h1 h2=>by omega⟩
 obtain ⟨t,h1,n0,rfl,h2⟩:=this
 exact ⟨n0,h1,h2⟩
/-- The places ahead of the first one beside the line. -/
structure Fan (v:List Ae) (l:List Int) (n0:Nat):Prop where
 two:2≤n0
 lt:n0 < l.length
 col:∀ i j k,Km l n0 i→Km l n0 j→Km l n0 k→crs (plV v i) (plV v j) (plV v k)=0
 off:crs (plV v l[0]) (plV v l[1]) (plV v l[n0])≠0
def fanS (v:List Ae) (l:List Int) (n0 i:Nat):Ab:=if 0 < crs (plV v (l.getD i 0)) (plV v (l.getD (i+1) 0)) (plV v (l.getD n0 0)) then ⟨l.getD i 0,l.getD (i+1) 0⟩ else ⟨l.getD (i+1) 0,l.getD i 0⟩
def fanL (v:List Ae) (l:List Int) (n0 k:Nat):List Ab:=(List.range k).map (fanS v l n0)
theorem Lc {l:List Int} {i:Nat} (h:i < l.length):l.getD i 0=l[i]:=by simp [h]
theorem Fan.place (hr:Mg v l) {n0:Nat} (hf:Fan v l n0) {i:Nat} (h:i < n0):Km l n0 (l.getD i 0):=by
 have:=hf.lt
 exact ⟨i,by omega,h,Lc (by omega)⟩
theorem Fan.bef (hr:Mg v l) {n0:Nat} (hf:Fan v l n0) {i j:Nat} (h:i < j) (hj:j < n0):befP (plV v (l.getD i 0)) (plV v (l.getD j 0)):=by
 have:=hf.lt
 rw [Lc (show i < l.length by omega),Lc (show j < l.length by omega)]
 exact hr.lt (by omega) (by omega) h
theorem Ato (hv:Gb v) (hn:v.length≤1024) (hr:Mg v l) {n0:Nat} (hf:Fan v l n0) {F:List (Ab × Bool)} :
  lfix (Ek (n0:Int) l) (v,[],F,0)=some (v,putAll [] (l.getD n0 0) (fanL v l n0 (n0-1)),F):=by
 have h2:=hf.two
 have hlt:=hf.lt
 have hlen:=hr.len
 have val:∀ i,i < l.length→inN v.length (l.getD i 0):=fun i hi=>by rw [Lc hi];exact hr.val.1 (List.getElem_mem hi)
 have hM:∀ k,k≤n0-1→MapN v.length (putAll [] (l.getD n0 0) (fanL v l n0 k)):=fun k hk=>by
  refine MapN.putAll (val n0 hlt) ⟨List.Pairwise.nil,fun q hq=>by cases hq⟩ fun s hs=>?_
  obtain ⟨i,hi,rfl⟩:=List.mem_map.1 hs
  rw [List.mem_range] at hi
  unfold fanS
  split
  ·exact ⟨val _ (by omega),val _ (by omega)⟩
  ·exact ⟨val _ (by omega),val _ (by omega)⟩
 refine Aae (B:=Ek (n0:Int) l) (fun k=>(v,putAll [] (l.getD n0 0) (fanL v l n0 k),F,(k:Int))) (v,putAll [] (l.getD n0 0) (fanL v l n0 (n0-1)),F) (n0-1) (fun k hk=>?_) ?_
 ·unfold Ek
  simp only
  rw [Cw (by omega),if_pos (by omega),jn_d,Bo (show k < l.length by omega),Ai,Bo (show k+1 < l.length by omega),Ai,Bo hlt,Ai]
  have v0:=val k (by omega)
  have v1:=val (k+1) (by omega)
  have vp:=val n0 hlt
  have e:putAll [] (l.getD n0 0) (fanL v l n0 (k+1))=putM (putAll [] (l.getD n0 0) (fanL v l n0 k)) (fanS v l n0 k).a0 (fanS v l n0 k).a1 (l.getD n0 0):=by
   unfold putAll fanL
   rw [List.range_succ,List.map_append,List.foldl_append]
   rfl
  rw [e]
  unfold fanS
  rw [Lc (show k < l.length by omega)] at v0 ⊢
  rw [Lc (show k+1 < l.length by omega)] at v1 ⊢
  rw [Lc hlt] at vp ⊢
  have hM':=hM k (by omega)
  rw [Lc hlt] at hM'
  rw [p_eq (b:=⟨v,_,F⟩) v0,Ai,p_eq (b:=⟨v,_,F⟩) v1,Ai,p_eq (b:=⟨v,_,F⟩) vp,Ai,turn_eq (hv.ok _ v0) (hv.ok _ v1) (hv.ok _ vp),Ai]
  by_cases c:0 < crs (plV v l[k]) (plV v l[k+1]) (plV v l[n0])
  ·rw [Int.sign_eq_one_of_pos c,if_pos (by omega),if_pos c,Ai,Ai,Ai,Aes (b:=⟨v,putAll [] l[n0] (fanL v l n0 k),F⟩) hn hM' v0 v1 vp,Ai]
  ·rw [if_neg (fun g=>c (by
    rcases Int.lt_trichotomy (crs (plV v l[k]) (plV v l[k+1]) (plV v l[n0])) 0 with t | t | t
    ·rw [Int.sign_eq_neg_one_of_neg t] at g;omega
    ·rw [t] at g;simp at g
    ·exact t)),if_neg c,Ai,Ai,Ai,Aes (b:=⟨v,putAll [] l[n0] (fanL v l n0 k),F⟩) hn hM' v1 v0 vp,Ai]
 ·unfold Ek
  simp only
  rw [Cw (by omega),if_neg (by omega)]
/-- The fan is a triangulation. -/
theorem Fan.swept (hv:Gb v) (hn:v.length≤1024) (hr:Mg v l) {n0:Nat} (hf:Fan v l n0):Agf v l (n0+1) (putAll [] (l.getD n0 0) (fanL v l n0 (n0-1)))∧putAll [] (l.getD n0 0) (fanL v l n0 (n0-1))≠[]:=by
 have h2:=hf.two
 have hlt:=hf.lt
 have hlen:=hr.len
 have val:∀ i,i < l.length→inN v.length (l.getD i 0):=fun i hi=>by rw [Lc hi];exact hr.val.1 (List.getElem_mem hi)
 obtain ⟨q1,q2,q3,q4,q5⟩:=hr.place hlt
 rw [← Lc hlt] at q2 q3 q4 q5
 have hoff:=hf.off
 rw [← Lc (show 0 < l.length by omega),← Lc (show 1 < l.length by omega),← Lc hlt] at hoff
 generalize hp:l.getD n0 0=p at *
 have he:∀ i j,apM [] i j=none:=fun i j=>rfl
 have hS:∀ i,Km l n0 i↔∃ k,k < n0∧i=l.getD k 0:=fun i=>by
  constructor
  ·rintro ⟨j,hj,h1,rfl⟩;exact ⟨j,h1,(Lc hj).symm⟩
  ·rintro ⟨k,hk,rfl⟩;exact hf.place hr hk
 -- all Pv are seen from one side
 have same:∀ i,i+1 < n0→(0 < crs (plV v (l.getD 0 0)) (plV v (l.getD 1 0)) (plV v p)→0 < crs (plV v (l.getD i 0)) (plV v (l.getD (i+1) 0)) (plV v p)) ∧
   (crs (plV v (l.getD 0 0)) (plV v (l.getD 1 0)) (plV v p) < 0→crs (plV v (l.getD i 0)) (plV v (l.getD (i+1) 0)) (plV v p) < 0):=by
  intro i
  induction i with
  | zero=>exact fun _=>⟨fun h=>h,fun h=>h⟩
  | succ i ih =>
   intro hi
   obtain ⟨i1,i2⟩:=ih (by omega)
   have b1:=hf.bef hr (show i < i+1 by omega) (by omega)
   have b2:=hf.bef hr (show i+1 < i+2 by omega) hi
   have c0:=hf.col _ _ _ (hf.place hr (show i < n0 by omega)) (hf.place hr (show i+1 < n0 by omega)) (hf.place hr hi)
   exact ⟨fun h=>Am1 b1 b2 c0 (i1 h),fun h=>Afq b1 b2 c0 (i2 h)⟩
 -- an order in which the place sees them,and that the fan has them
 have key:∃ R,Adds (plV v) (inN v.length) (Km l n0) (apM []) R p∧∀ x y:Int,(⟨x,y⟩:Ab)∈fanL v l n0 (n0-1)↔Vis (plV v) R p x y:=by
  rcases Int.lt_or_gt_of_ne hoff with c | c
  ·refine ⟨Ai4 (fun j=>l.getD (n0-1-j) 0) n0,Aff he (fun i=>?_) (fun a b c h1 h2 h3=>hf.col a b c h1 h2 h3) (fun i hi=>?_) q1 q2 q3 q4 q5,fun x y=>?_⟩
   ·rw [hS]
    constructor
    ·rintro ⟨k,hk,rfl⟩;exact ⟨n0-1-k,by omega,by (try dsimp only);rw [show n0-1-(n0-1-k)=k by omega]⟩
    ·rintro ⟨k,hk,rfl⟩;exact ⟨n0-1-k,by omega,rfl⟩
   ·have:=(same (n0-2-i) (by omega)).2 c
    rw [show n0-2-i+1=n0-1-i by omega] at this
    try dsimp only
    rw [show n0-1-(i+1)=n0-2-i by omega,Df]
    omega
   ·unfold fanL Vis Ai4
    rw [List.mem_map]
    constructor
    ·rintro ⟨i,hi,e⟩
     rw [List.mem_range] at hi
     have hneg:=(same i (by omega)).2 c
     unfold fanS at e
     rw [hp,if_neg (by omega),Jl] at e
     obtain ⟨rfl,rfl⟩:=e
     refine ⟨⟨n0-2-i,by omega,by (try dsimp only);rw [show n0-1-(n0-2-i)=i+1 by omega],by (try dsimp only);rw [show n0-1-(n0-2-i+1)=i by omega]⟩,?_⟩
     rw [Df];omega
    ·rintro ⟨⟨i,hi,rfl,rfl⟩,_⟩
     refine ⟨n0-2-i,by rw [List.mem_range];omega,?_⟩
     have hneg:=(same (n0-2-i) (by omega)).2 c
     unfold fanS
     rw [hp,if_neg (by omega),Jl]
     exact ⟨by (try dsimp only);rw [show n0-2-i+1=n0-1-i by omega],by (try dsimp only);rw [show n0-1-(i+1)=n0-2-i by omega]⟩
  ·refine ⟨Ai4 (fun j=>l.getD j 0) n0,Aff he hS (fun a b c h1 h2 h3=>hf.col a b c h1 h2 h3) (fun i hi=>(same i hi).1 c) q1 q2 q3 q4 q5,fun x y=>?_⟩
   unfold fanL Vis Ai4
   rw [List.mem_map]
   constructor
   ·rintro ⟨i,hi,e⟩
    rw [List.mem_range] at hi
    have hpos:=(same i (by omega)).1 c
    unfold fanS at e
    rw [hp,if_pos hpos,Jl] at e
    obtain ⟨rfl,rfl⟩:=e
    exact ⟨⟨i,by omega,rfl,rfl⟩,hpos⟩
   ·rintro ⟨⟨i,hi,rfl,rfl⟩,hpos⟩
    refine ⟨i,by rw [List.mem_range];omega,?_⟩
    unfold fanS
    rw [hp,if_pos hpos]
 obtain ⟨R,hA,hmv⟩:=key
 obtain ⟨o1,o2⟩:=Age (m:=[]) List.Pairwise.nil hA (fanL v l n0 (n0-1)) fun s hs=>(hmv s.a0 s.a1).1 hs
 have hN:∀ i j c,apM (putAll [] p (fanL v l n0 (n0-1))) i j=some c↔apM [] i j=some c∨New (plV v) R p i j c:=fun i j c=>by
  rw [o2,hmv,hmv,hmv]
  rfl
 have hpl:p=l[n0]:=by rw [← hp,Lc hlt]
 refine ⟨⟨?_,hA.tri' hN,?_,?_⟩,fun e=>?_⟩
 ·refine MapN.putAll q2 ⟨List.Pairwise.nil,fun q hq=>by cases hq⟩ fun s hs=>?_
  have:=(hA.r1 _ _ ((hmv s.a0 s.a1).1 hs).1)
  exact ⟨q1 _ this.1,q1 _ this.2.1⟩
 ·have:=hA.cov' hN (fun i j k hk=>by cases hk)
  intro i j c hc hn d hd
  refine this i j c hc hn d ?_
  rw [hpl]
  exact (Km.succ hlt).1 hd
 ·intro i j c hc
  refine (Km.succ hlt).2 ?_
  rw [← hpl]
  exact hA.used' hN i j c hc
 ·have h0:fanS v l n0 0∈fanL v l n0 (n0-1):=List.mem_map.2 ⟨0,by rw [List.mem_range];omega,rfl⟩
  have:=(o2 (fanS v l n0 0).a0 (fanS v l n0 0).a1 p).2 (.inr (.inl ⟨h0,rfl⟩))
  rw [e] at this
  cases this
end
end Go.Proofs.YtbkobeeileemjaaGreat
/- The mesh of vertices without lines. -/
namespace Go.Proofs.YtbkobeeileemjaaGreat
open Go Go.RowKit
variable {v:List Ae} {l:List Int}
theorem Aof (hv:Gb v) (hn:v.length≤1024) (hr:Mg v l) (F:List (Ab × Bool)) :
  ∃ m,Ib ⟨v,[],F⟩ l=some ⟨v,m,F⟩∧((Aet v∧m=[])∨(¬ Aet v∧MapN v.length m∧Tri (plV v) (inN v.length) (apM m)∧Cov (plV v) (inN v.length) (apM m)∧m≠[])):=by
 have hlen:=hr.len
 obtain ⟨n0,h1,h2,h3,h4,h5⟩:=Atn hv hn hr ⟨v,[],F⟩ rfl
 unfold Ib
 rw [jn_d,h1,Ai]
 dsimp only
 by_cases c:l.length≤n0
 ·rw [if_pos (by omega)]
  refine ⟨[],rfl,.inl ⟨?_,rfl⟩⟩
  by_cases c2:2≤l.length
  ·-- all on the line of the first two
   have g0:0 < l.length:=by omega
   have g1:1 < l.length:=by omega
   have on:∀ i,inN v.length i→crs (plV v l[0]) (plV v l[1]) (plV v i)=0:=fun i hi=>by
    obtain ⟨k,hk,rfl⟩:=List.getElem_of_mem (hr.val.2 hi)
    by_cases e0:k=0
    ·subst e0;exact Fh _ _
    ·by_cases e1:k=1
     ·subst e1;exact De _ _
     ·obtain ⟨_,_,_,g⟩:=h3 k (by omega) (by omega)
      exact g
   have hne:¬ Dk (plV v l[0]) (plV v l[1]):=fun e=>by
    have:=hr.lt g0 g1 (by omega)
    unfold befP Dk at *
    omega
   exact fun i j k hi hj hk=>Abx hne (on i hi) (on j hj) (on k hk)
  ·intro i j k hi hj hk
   unfold inN at hi hj hk
   have:i=j:=by omega
   subst this
   exact Vh _ _
 ·rw [if_neg (by omega),jn_d]
  have g0:0 < l.length:=by omega
  have g1:1 < l.length:=by omega
  have gn:n0 < l.length:=by omega
  have off:=h4 g0 g1 gn
  have hne:¬ Dk (plV v l[0]) (plV v l[1]):=fun e=>by
   have:=hr.lt g0 g1 (by omega)
   unfold befP Dk at *
   omega
  have hf:Fan v l n0:=by
   refine ⟨h2,gn,fun i j k hi hj hk=>?_,off⟩
   have on:∀ i,Km l n0 i→crs (plV v l[0]) (plV v l[1]) (plV v i)=0:=fun i hi=>by
    obtain ⟨k,hk,hk2,rfl⟩:=hi
    by_cases e0:k=0
    ·subst e0;exact Fh _ _
    ·by_cases e1:k=1
     ·subst e1;exact De _ _
     ·obtain ⟨_,_,_,g⟩:=h3 k (by omega) hk2
      exact g
   exact Abx hne (on i hi) (on j hj) (on k hk)
  obtain ⟨s1,s2⟩:=hf.swept hv hn hr
  rw [Ato hv hn hr hf,Ai]
  dsimp only
  rw [Cw (by omega),gd_t ⟨by omega,by omega⟩]
  have ht:subl l (((n0+1:Nat):Int)) ((l.length:Nat):Int)=l.drop (n0+1):=by unfold subl;simp
  rw [ht]
  have:=Cu (B:=He l (n0:Int)) (fun s=>l.length-s.2.2.2.2.toNat) (fun s=>∃ (k:Nat) (m:Mp),n0+1≤k∧k≤l.length∧s=(v,m,F,l.drop (n0+1),((k-(n0+1):Nat):Int))∧Agf v l k m∧m≠[])
   (fun t=>∃ m:Mp,t=⟨v,m,F⟩∧Agf v l l.length m∧m≠[]) (fun s hs=>by
    obtain ⟨k,m,k1,k2,rfl,k3,k4⟩:=hs
    unfold He
    dsimp only
    rw [Cw (by omega)]
    by_cases c2:k < l.length
    ·left
     obtain ⟨m',e1,e2,e3⟩:=k3.step hv hn hr (F:=F) c2
     have hi:idx (l.drop (n0+1)) (((k-(n0+1):Nat):Int))=some l[k]:=by
      rw [Bo (by rw [List.length_drop];omega),List.getElem_drop]
      congr 2
      omega
     rw [if_pos (by simp;omega),jn_d,hi,Ai]
     refine ⟨(v,m',F,l.drop (n0+1),((k+1-(n0+1):Nat):Int)),?_,⟨k+1,m',by omega,by omega,rfl,e2,e3 k4⟩,by dsimp only;omega⟩
     obtain ⟨r,hr1,hr2⟩:=Ac e1
     obtain ⟨t,ht1,ht2⟩:=Ac hr2
     cases ht2
     rw [hr1,Ai,ht1,Ai,Cw (by omega),show k-(n0+1)+1=k+1-(n0+1) by omega]
    ·right
     rw [if_neg (by simp;omega)]
     have:k=l.length:=by omega
     subst this
     exact ⟨_,rfl,m,rfl,k3,k4⟩) (v,putAll [] (l.getD n0 0) (fanL v l n0 (n0-1)),F,l.drop (n0+1),0) ⟨n0+1,_,by omega,by omega,by simp,s1,s2⟩
  obtain ⟨t,e1,m,rfl,e2,e3⟩:=this
  rw [e1,Ai]
  refine ⟨m,rfl,.inr ⟨fun hfl=>?_,e2.map,e2.tri,fun i j k hk hnn d hd=>?_,e3⟩⟩
  ·exact off (hfl _ _ _ (hr.val.1 (List.getElem_mem g0)) (hr.val.1 (List.getElem_mem g1)) (hr.val.1 (List.getElem_mem gn)))
  ·obtain ⟨j',hj',rfl⟩:=List.getElem_of_mem (hr.val.2 hd)
   exact e2.cov _ _ _ hk hnn _ ⟨j',hj',hj',rfl⟩
/-- A triangle whose circle is empty. -/
def Del (v:List Ae) (a b c:Int):Prop:=inN v.length a∧inN v.length b∧inN v.length c∧0 < crs (plV v a) (plV v b) (plV v c)∧∀ d,inN v.length d→d≠a→d≠b→d≠c→DH (plV v) (hV v) a b c d < 0
theorem Del.rot {a b c:Int} (h:Del v a b c):Del v b c a:=by
 obtain ⟨h1,h2,h3,h4,h5⟩:=h
 exact ⟨h2,h3,h1,by rw [Co];exact h4,fun d hd n1 n2 n3=>by rw [Aao];exact h5 d hd n3 n1 n2⟩
/-- The triangles of a mesh without lines. -/
structure Xv (v:List Ae) (T:List Am):Prop where
 ord:T.Pairwise fun x y=>¬ cmp3 y x < 0
 nd:T.Nodup
 mem:∀ t,t∈T↔t.a0 < t.a1∧t.a0 < t.a2∧Del v t.a0 t.a1 t.a2
theorem Xv.unique {T T':List Am} (h:Xv v T) (h':Xv v T'):T=T' :=
 Ack tot3 (fun _ _=>trivial) h.ord h'.ord ((List.perm_ext_iff_of_nodup h.nd h'.nd).2 fun t=>(h.mem t).trans (h'.mem t).symm)
/-- A settled triangulation has the triangles with empty circles. -/
theorem Aig (hv:Gb v) {m:Mp} (hm:MapN v.length m) (ht:Tri (plV v) (inN v.length) (apM m)) (hc:Cov (plV v) (inN v.length) (apM m)) (hl:∀ i j k l,apM m i j=some k→apM m j i=some l→DH (plV v) (hV v) i j k l < 0) (hne:m≠[]) (a b c:Int) :
  apM m a b=some c↔Del v a b c:=by
 have mem:∀ a b c:Int,(a,b,c)∈(m.map fun q=>(q.1.a0,q.1.a1,q.2))↔apM m a b=some c:=fun a b c=>by
  rw [List.mem_map]
  constructor
  ·rintro ⟨⟨⟨x,y⟩,z⟩,hq,e⟩
   cases e
   exact Rm hm.ok hq
  ·intro h
   exact ⟨(⟨a,b⟩,c),Is h,rfl⟩
 have hX:Afb (plV v) (m.map fun q=>(q.1.a0,q.1.a1,q.2)):=⟨fun a b c h=>(mem _ _ _).2 (ht.rot _ _ _ ((mem _ _ _).1 h)),fun a b c h=>(ht.ccw _ _ _ ((mem _ _ _).1 h)).2.2.2⟩
 have twin:∀ a b c,apM m a b=some c→∀ d,inN v.length d→crs (plV v a) (plV v b) (plV v d) < 0→∃ e,apM m b a=some e:=fun a b c h d hd hlt=>by
  rcases e:apM m b a with _ | x
  ·have:=hc a b c h e d hd;omega
  ·exact ⟨x,rfl⟩
 have G:=global (H:=hV v) (V:=inN v.length) hX (fun a b c h d hd n1 n2 n3=>ht.emp _ _ _ ((mem _ _ _).1 h) d hd n1 n2 n3) (fun a b c h d hd hlt=>by
  obtain ⟨e,he⟩:=twin a b c ((mem _ _ _).1 h) d hd hlt
  exact ⟨e,(mem _ _ _).2 he,hl _ _ _ _ ((mem _ _ _).1 h) he⟩)
 constructor
 ·intro h
  obtain ⟨k1,k2,k3,k4⟩:=ht.ccw _ _ _ h
  exact ⟨k1,k2,k3,k4,G a b c ((mem _ _ _).2 h)⟩
 ·rintro ⟨k1,k2,k3,k4,k5⟩
  refine (mem _ _ _).1 (Afc (H:=hV v) (V:=inN v.length) hX (fun a b c h=>?_) G (fun a b c h d hd hlt=>?_) ?_ k1 k2 k3 k4 k5)
  ·obtain ⟨q1,q2,q3,_⟩:=ht.ccw _ _ _ ((mem _ _ _).1 h)
   exact ⟨q1,q2,q3⟩
  ·obtain ⟨e,he⟩:=twin a b c ((mem _ _ _).1 h) d hd hlt
   exact ⟨e,(mem _ _ _).2 he⟩
  ·intro e
   rw [List.map_eq_nil_iff] at e
   exact hne e
theorem Aqn {m:Mp} (hm:MapN v.length m) (h:∀ a b c,apM m a b=some c↔Del v a b c):Xv v (Br cmp3 (m.flatMap triF)):=by
 have memt:∀ t:Am,t∈m.flatMap triF↔t.a0 < t.a1∧t.a0 < t.a2∧Del v t.a0 t.a1 t.a2:=fun t=>by
  rw [List.mem_flatMap]
  constructor
  ·rintro ⟨⟨⟨a,b⟩,c⟩,hq,ht⟩
   unfold triF at ht
   split at ht
   ·rename_i hlt
    rw [List.mem_singleton] at ht
    subst ht
    exact ⟨hlt.1,hlt.2,(h _ _ _).1 (Rm hm.ok hq)⟩
   ·cases ht
  ·rintro ⟨h1,h2,h3⟩
   refine ⟨(⟨t.a0,t.a1⟩,t.a2),Is ((h _ _ _).2 h3),?_⟩
   unfold triF
   rw [if_pos ⟨h1,h2⟩]
   exact List.mem_singleton.2 rfl
 refine ⟨Ol tot3 (fun _ _=>trivial),(Jk _ _).nodup_iff.2 ?_,fun t=>by rw [Qy,memt]⟩
 -- no triangle twice
 have:∀ l:Mp,Dx l→(l.flatMap triF).Nodup:=by
  intro l
  induction l with
  | nil=>intro _;exact List.Pairwise.nil
  | cons q r ih =>
   intro hl
   obtain ⟨h1,h2⟩:=List.pairwise_cons.1 hl
   rw [List.flatMap_cons,List.nodup_append]
   refine ⟨?_,ih h2,fun x hx y hy e=>?_⟩
   ·unfold triF
    split
    ·simp
    ·exact List.Pairwise.nil
   ·subst e
    obtain ⟨q',hq',hy⟩:=List.mem_flatMap.1 hy
    have key:∀ q:Ab × Int,x∈triF q→q.1=⟨x.a0,x.a1⟩:=fun q hq=>by
     unfold triF at hq
     split at hq
     ·rw [List.mem_singleton] at hq
      subst hq
      rfl
     ·cases hq
    exact h1 q' hq' (by rw [key _ hx,key _ hy])
 exact this m hm.ok
end Go.Proofs.YtbkobeeileemjaaGreat
/- Which vertices are valid: the program and the reference. -/
namespace Go.Proofs.YtbkobeeileemjaaGreat
open Go Go.RowKit
/-- A loop that looks for a number below N with p. -/
theorem Abk {β γ:Type} (N:Nat) (hN:N≤1000000000) (p:Nat→Bool) (B:Int→Option (Sum Int (Sum β γ))) (u:β) (w:γ) (h1:∀ k:Nat,k < N→B (k:Int)=if p k=true then some (.inr (.inr w)) else some (.inl ((k+1:Nat):Int)))
  (h2:B (N:Int)=some (.inr (.inl u))):lfix B 0=some (if (List.range N).any p then .inr w else .inl u):=by
 have key:∀ j k,j+k=N→lfix B (k:Int)=some (if ((List.range N).drop k).any p then .inr w else .inl u):=by
  intro j
  induction j with
  | zero =>
   intro k hk
   rw [Cj,show k=N by omega,h2,List.drop_eq_nil_of_le (by simp)]
   rfl
  | succ j ih =>
   intro k hk
   rw [Cj,h1 k (by omega),List.drop_eq_getElem_cons (by simp;omega),List.any_cons,List.getElem_range]
   by_cases c:p k=true
   ·rw [if_pos c,c];rfl
   ·rw [if_neg c]
    rw [Bool.not_eq_true] at c
    rw [c,Bool.false_or]
    exact ih (k+1) (by omega)
 have:=key N 0 (by omega)
 rwa [List.drop_zero] at this
def pP (x:Ae):Ad:=⟨x.X,x.Y⟩
def Kn (x:Ae):Prop:=okP (pP x)∧-268435456≤x.Z.Lo∧x.Z.Lo≤x.Z.Hi∧x.Z.Hi≤268435456
instance (x:Ae):Decidable (Kn x):=by unfold Kn;infer_instance
theorem Ajo {v:List Ae} {k:Nat} (hk:k < v.length):plV v (k:Int)=pP v[k]:=by unfold plV;rw [Bo hk];rfl
theorem Ag2 (x:Ae):Uw x=some (decide (Kn x)):=by
 unfold Uw La
 rw [Ai,Ai,Ai,Alf,Ai,jn_d]
 unfold Tw
 by_cases h:okP (⟨x.X,x.Y⟩:Ad)
 ·simp only [h,and_self,if_true]
  rw [jn_d]
  by_cases h1:-1152921504606846976≤x.Z.Lo
  ·rw [if_pos h1]
   by_cases h2:x.Z.Lo≤x.Z.Hi
   ·rw [if_pos h2]
    by_cases h3:x.Z.Hi≤1152921504606846976
    ·rw [decide_eq_true h3,Ai,if_pos rfl]
     by_cases h4:-268435456≤x.Z.Lo
     ·rw [if_pos h4]
      congr 1
      rw [Bool.eq_iff_iff,decide_eq_true_eq,decide_eq_true_eq]
      unfold Kn pP
      exact ⟨fun g=>⟨h,h4,h2,g⟩,fun g=>g.2.2.2⟩
     ·rw [if_neg h4,decide_eq_false (fun g:Kn x=>h4 g.2.1)]
    ·rw [decide_eq_false h3,Ai,if_neg (by simp),decide_eq_false (fun g:Kn x=>h3 (by have:=g.2.2.2;omega))]
   ·rw [if_neg h2,Ai,if_neg (by simp),decide_eq_false (fun g:Kn x=>h2 g.2.2.1)]
  ·rw [if_neg h1,Ai,if_neg (by simp),decide_eq_false (fun g:Kn x=>h1 (by have:=g.2.1;omega))]
 ·simp only [h,false_and,if_false]
  rw [if_neg (by decide),decide_eq_false (fun g:Kn x=>h g.1)]
/-- The first error of vertices. -/
def Qz (v:List Ae):Int:=if 1024 < v.length then 2 else if ¬ (∀ x∈v,Kn x) then 60 else if ¬ El v then 61 else 0
theorem Ac3 {v:List Ae} (h:Qz v=0):v.length≤1024∧(∀ x∈v,Kn x)∧Gb v:=by
 unfold Qz at h
 split at h
 ·omega
 ·split at h
  ·omega
  ·split at h
   ·omega
   ·rename_i h1 h2 h3
    have h2:=Classical.not_not.1 h2
    have h3:=Classical.not_not.1 h3
    refine ⟨by omega,h2,fun i hi=>?_,fun i j hi hj hs=>?_⟩
    ·obtain ⟨k,hk,rfl,_⟩:=Ip (v:=v) (i:=i) hi
     rw [Ajo hk]
     exact (h2 _ (List.getElem_mem hk)).1
    ·obtain ⟨a,ha,rfl,_⟩:=Ip (v:=v) (i:=i) hi
     obtain ⟨b,hb,rfl,_⟩:=Ip (v:=v) (i:=j) hj
     rw [Ajo ha,Ajo hb] at hs
     unfold El at h3
     rw [List.pairwise_iff_getElem] at h3
     rcases Nat.lt_trichotomy a b with c | c | c
     ·exact absurd hs (h3 a b ha hb c)
     ·rw [c]
     ·exact absurd ⟨hs.1.symm,hs.2.symm⟩ (h3 b a hb ha c)
theorem Adp {v:List Ae}:((List.range v.length).any fun k=>!decide (Kn (v.getD k ⟨0,0,⟨0,0⟩⟩)))=true↔¬ ∀ x∈v,Kn x:=by
 rw [List.any_eq_true]
 constructor
 ·rintro ⟨k,hk,h⟩ hall
  rw [List.mem_range] at hk
  simp [hk] at h
  exact h (hall _ (List.getElem_mem hk))
 ·intro h
  apply Classical.byContradiction
  intro hno
  apply h
  intro x hx
  obtain ⟨k,hk,rfl⟩:=List.getElem_of_mem hx
  apply Classical.byContradiction
  intro hb
  exact hno ⟨k,List.mem_range.2 hk,by simp [hk,hb]⟩
theorem Ag3 {v:List Ae}:(∃ i j,∃ (hi:i < v.length) (hj:j < v.length),j < i∧Vm v[i] v[j])↔¬ El v:=by
 unfold El
 rw [List.pairwise_iff_getElem]
 constructor
 ·rintro ⟨i,j,hi,hj,hji,hs⟩ h
  exact h j i hj hi hji ⟨hs.1.symm,hs.2.symm⟩
 ·intro h
  apply Classical.byContradiction
  intro hno
  apply h
  intro i j hi hj hij hs
  exact hno ⟨j,i,hj,hi,hij,hs.1.symm,hs.2.symm⟩
theorem Asi {v:List Ae} (c:v.length≤1024):lfix (Hk v) 0=some (if ((List.range v.length).any fun k=>!decide (Kn (v.getD k ⟨0,0,⟨0,0⟩⟩)))=true then .inr 60 else .inl ()):=by
 refine Abk v.length (by omega) (fun k=>!decide (Kn (v.getD k ⟨0,0,⟨0,0⟩⟩))) (Hk v) () 60 (fun k hk=>?_) ?_
 ·unfold Hk
  rw [if_pos (by omega),Bo hk,Ai,Ag2,Ai,Cw (by omega)]
  have e:v.getD k ⟨0,0,⟨0,0⟩⟩=v[k]:=by simp [hk]
  rw [e]
  by_cases g:Kn v[k]
  ·simp [g]
  ·simp [g]
 ·unfold Hk
  rw [if_neg (by omega)]
theorem Ac4 (v:List Ae):Od v=some (Qz v):=by
 unfold Od Qz
 by_cases c:1024 < v.length
 ·rw [if_pos (by omega),if_pos c]
 ·rw [if_neg (by omega),if_neg c,jn_d]
  rw [Asi (by omega),Ai]
  ·by_cases h:∀ x∈v,Kn x
   ·rw [if_neg (fun g=>Adp.1 g h),if_neg (not_not_intro h)]
    dsimp only
    rw [jn_d]
    have hL:=Cu (B:=Mj v) (fun s=>v.length-s.2.toNat) (fun s=>∃ k:Nat,k≤v.length∧s.2=(k:Int)∧Dx s.1∧s.1.length≤k∧(∀ x,(mget s.1 x).getD false=true↔∃ (j:Nat) (hj:j < v.length),j < k∧pP v[j]=x)∧∀ i j (hi:i < v.length) (hj:j < v.length),i < k→j < i→¬ Vm v[i] v[j])
     (fun t=>t=if ¬ El v then .inr 61 else .inl ()) (fun s hs=>by
      obtain ⟨m,k⟩:=s
      obtain ⟨k,h1,rfl,h2,h3,h4,h5⟩:=hs
      simp only at h1 h2 h3 h4
      unfold Mj
      dsimp only
      by_cases hk:k < v.length
      ·have hg:=(h _ (List.getElem_mem hk)).1
       have hr:(-9223372036854775808≤v[k].X∧v[k].X≤9223372036854775807)∧-9223372036854775808≤v[k].Y∧v[k].Y≤9223372036854775807:=by
        unfold okP pP at hg
        simp only at hg
        omega
       unfold La
       rw [if_pos (by omega),Bo hk,Ai,Ai,gd_t hr,Ai]
       have e4:=h4 (⟨v[k].X,v[k].Y⟩:Ad)
       by_cases hd:(mget m (⟨v[k].X,v[k].Y⟩:Ad)).getD false=true
       ·right
        rw [if_pos hd]
        obtain ⟨j,hj,hjk,he⟩:=e4.1 hd
        refine ⟨_,rfl,?_⟩
        rw [if_pos]
        refine Ag3.1 ⟨k,j,hk,hj,hjk,?_⟩
        unfold pP at he
        simp at he
        exact ⟨he.1.symm,he.2.symm⟩
       ·left
        rw [if_neg hd,Ai,gd_t hr,gd_t (by omega),Cw (by omega)]
        refine ⟨_,rfl,⟨k+1,hk,rfl,h2.put _ _,?_,fun x=>?_,fun i j hi hj hik hji=>?_⟩,by dsimp only;omega⟩
        ·dsimp only
         unfold mput mdel
         rw [List.length_cons]
         refine Nat.succ_le_succ (Nat.le_trans (List.length_filter_le _ m) h3)
        ·dsimp only
         rw [Mx h2]
         by_cases hx:x=⟨v[k].X,v[k].Y⟩
         ·rw [if_pos hx]
          simp only [Option.getD_some,true_iff]
          exact ⟨k,hk,by omega,hx.symm⟩
         ·rw [if_neg hx,h4]
          constructor
          ·rintro ⟨j,hj,h6,h7⟩;exact ⟨j,hj,by omega,h7⟩
          ·rintro ⟨j,hj,h6,h7⟩
           refine ⟨j,hj,?_,h7⟩
           by_cases e:j=k
           ·subst e;exact absurd h7.symm hx
           ·omega
        ·by_cases e:i=k
         ·subst e
          intro hs
          exact hd (e4.2 ⟨j,hj,hji,by unfold pP;rw [hs.1,hs.2]⟩)
         ·exact h5 i j hi hj (by omega) hji
      ·right
       rw [if_neg (by omega)]
       refine ⟨_,rfl,?_⟩
       rw [if_neg]
       intro hno
       obtain ⟨i,j,hi,hj,hji,hs⟩:=Ag3.2 hno
       exact h5 i j hi hj (by omega) hji hs) ([],0) ⟨0,by omega,rfl,List.Pairwise.nil,by simp,fun x=>by simp [mget],fun i j hi hj h1=>by omega⟩
    obtain ⟨t,h1,rfl⟩:=hL
    rw [h1,Ai]
    by_cases hd:El v
    ·rw [if_neg (not_not_intro hd),if_neg (not_not_intro hd)]
    ·rw [if_pos hd,if_pos hd]
   ·rw [if_pos (Adp.2 h),if_pos h]
end Go.Proofs.YtbkobeeileemjaaGreat
/- Build without lines, and with wrong vertices. -/
namespace Go.Proofs.YtbkobeeileemjaaGreat
open Go Go.RowKit
theorem Aeu (v:List Ae):Li v []=some 0:=by
 unfold Li
 rw [jn_d,Cj]
 unfold Ou
 try dsimp only
 rw [if_neg (by simp)]
 try dsimp only
 rw [Ai]
 try dsimp only
 rw [jn_d,Cj]
 unfold Oa
 try dsimp only
 rw [if_neg (by simp)]
 rfl
theorem Ajp:Rj []=some []:=by
 unfold Rj
 rw [jn_d,Cj]
 unfold Sw
 try dsimp only
 rw [if_neg (by simp)]
 try dsimp only
 rw [Ai]
 try dsimp only
 rw [gd_t (by simp)]
 rw [show Br cmp2 []=[] from by simp [Br]]
theorem Afr:lfix (Qi []) ()=some ():=by
 rw [Cj]
 unfold Qi
 rw [if_neg (by simp)]
theorem Aev {v:List Ae} (h:Aet v):Xv v [] :=
 ⟨List.Pairwise.nil,List.nodup_nil,fun t=>⟨fun h=>(by cases h),fun g=>(by have:=h _ _ _ g.2.2.1 g.2.2.2.1 g.2.2.2.2.1;have:=g.2.2.2.2.2.1;omega)⟩⟩
theorem Aog {v:List Ae} (h:Qz v=0):∃ T,Nc v []=some (⟨v,T,[]⟩,0)∧Xv v T:=by
 obtain ⟨hn,_,hv⟩:=Ac3 h
 obtain ⟨l,hl,hr⟩:=Aif hv hn
 obtain ⟨m,h1,h2⟩:=Aof hv hn hr []
 unfold Nc
 rw [Ac4,h,Ai,if_pos rfl,Aeu,Ai,if_pos rfl,Ajp,Ai,hl,Ai,h1,Ai,jn_d]
 dsimp only
 have hcl:Ns v=some v:=by
  unfold Ns
  rw [gd_t (by omega)]
 rcases h2 with ⟨h3,rfl⟩ | ⟨h3,h4,h5,h6,h7⟩
 ·rw [if_neg (by simp)]
  have ht:=Abj (n:=v.length) hn (b:=⟨v,[],[]⟩) ⟨List.Pairwise.nil,by simp⟩
  rw [hcl,Ai,ht,Ai]
  exact ⟨_,rfl,by simpa [Br] using Aev h3⟩
 ·have hpos:0 < m.length:=List.length_pos_iff.2 h7
  rw [if_pos (by omega),jn_d,Afr,Ai]
  obtain ⟨m',g1,g2,g3⟩:=Aml (b:=⟨v,m,[]⟩) hv hn h4 h5
  rw [g1,Ai]
  dsimp only at g1 g2 g3 ⊢
  have ht:=Abj (n:=v.length) hn (b:=⟨v,m',[]⟩) g2.map
  rw [hcl,Ai,ht,Ai]
  refine ⟨_,rfl,Aqn g2.map (Aig hv g2.map g2.tri (g3.cov _ h6) (fun i j k l hk hl=>?_) ?_)⟩
  ·rcases g2.pend i j k l hk hl with q | q | q
   ·cases q
   ·unfold Fx mget at q;simp at q
   ·exact q
  ·exact g3.ne h7
theorem Amm {v:List Ae} (lines:List Ab) (h:Qz v≠0):Nc v lines=some (⟨[],[],[]⟩,Qz v):=by
 unfold Nc
 rw [Ac4,Ai,if_neg h]
end Go.Proofs.YtbkobeeileemjaaGreat
/- Which vertices are valid: the reference. -/
namespace Go.Proofs.YtbkobeeileemjaaGreat
open Go Go.RowKit
theorem Adf (x:Ae):Fa x=some (decide (Kn x)):=by
 unfold Fa Be
 rw [jn_d,Ai,Aq4,Ai]
 by_cases h:okP (⟨x.X,x.Y⟩:Ad)
 ·rw [decide_eq_true h,if_pos rfl]
  by_cases h1:-268435456≤x.Z.Lo
  ·rw [if_pos h1]
   by_cases h2:x.Z.Lo≤x.Z.Hi
   ·rw [if_pos h2]
    congr 1
    rw [Bool.eq_iff_iff,decide_eq_true_eq,decide_eq_true_eq]
    exact ⟨fun g=>⟨h,h1,h2,g⟩,fun g=>g.2.2.2⟩
   ·rw [if_neg h2,decide_eq_false (fun g:Kn x=>h2 g.2.2.1)]
  ·rw [if_neg h1,decide_eq_false (fun g:Kn x=>h1 g.2.1)]
 ·rw [decide_eq_false h,if_neg (by simp),decide_eq_false (fun g:Kn x=>h g.1)]
theorem Aqo {v:List Ae} (c:v.length≤1024):lfix (Ee v) 0=some (if ((List.range v.length).any fun k=>!decide (Kn (v.getD k ⟨0,0,⟨0,0⟩⟩)))=true then .inr 60 else .inl ()):=by
 refine Abk v.length (by omega) (fun k=>!decide (Kn (v.getD k ⟨0,0,⟨0,0⟩⟩))) (Ee v) () 60 (fun k hk=>?_) ?_
 ·unfold Ee
  rw [if_pos (by omega),Bo hk,Ai,Adf,Ai,Cw (by omega)]
  have e:v.getD k ⟨0,0,⟨0,0⟩⟩=v[k]:=by simp [hk]
  rw [e]
  by_cases g:Kn v[k]
  ·simp [g]
  ·simp [g]
 ·unfold Ee
  rw [if_neg (by omega)]
theorem Adg (v:List Ae):Hd v=some (Qz v):=by
 unfold Hd Qz
 by_cases c:1024 < v.length
 ·rw [if_pos (by omega),if_pos c]
 ·rw [if_neg (by omega),if_neg c,jn_d]
  rw [Aqo (by omega),Ai]
  ·by_cases h:∀ x∈v,Kn x
   ·rw [if_neg (fun g=>Adp.1 g h),if_neg (not_not_intro h)]
    dsimp only
    rw [jn_d]
    have hin:∀ i (hi:i < v.length),lfix (Ex (i:Int) v) 0=some (if (List.range i).any (fun j=>decide (Vm v[i] (v.getD j ⟨0,0,⟨0,0⟩⟩))) then .inr 61 else .inl ()):=fun i hi=>by
     refine Abk i (by omega) _ _ () 61 (fun k hk=>?_) ?_
     ·unfold Ex
      have e:v.getD k ⟨0,0,⟨0,0⟩⟩=v[k]'(by omega):=by simp [show k < v.length by omega]
      rw [if_pos (by omega),jn_d,Bo hi,Ai,Bo (show k < v.length by omega),Ai,Cw (by omega),e]
      unfold Vm
      by_cases g1:v[i].X=v[k].X
      ·rw [if_pos g1,Ai,Ai]
       by_cases g2:v[i].Y=v[k].Y
       ·simp [g1,g2]
       ·simp [g2]
      ·rw [if_neg g1]
       simp [g1]
     ·unfold Ex
      rw [if_neg (by omega)]
    have hout:lfix (Dv v) 0=some (if ((List.range v.length).any fun i=>(List.range i).any fun j=>decide (Vm (v.getD i ⟨0,0,⟨0,0⟩⟩) (v.getD j ⟨0,0,⟨0,0⟩⟩)))=true then .inr 61 else .inl ()):=by
     refine Abk v.length (by omega) (fun i=>(List.range i).any fun j=>decide (Vm (v.getD i ⟨0,0,⟨0,0⟩⟩) (v.getD j ⟨0,0,⟨0,0⟩⟩))) (Dv v) () 61 (fun i hi=>?_) ?_
     ·unfold Dv
      have e:v.getD i ⟨0,0,⟨0,0⟩⟩=v[i]:=by simp [hi]
      rw [if_pos (by omega),jn_d,hin i hi,Ai,Cw (by omega),e]
      by_cases g:((List.range i).any fun j=>decide (Vm v[i] (v.getD j ⟨0,0,⟨0,0⟩⟩)))=true
      ·rw [if_pos g,if_pos g]
      ·rw [if_neg g,if_neg g]
     ·unfold Dv
      rw [if_neg (by omega)]
    rw [hout,Ai]
    ·have hd:((List.range v.length).any fun i=>(List.range i).any fun j=>decide (Vm (v.getD i ⟨0,0,⟨0,0⟩⟩) (v.getD j ⟨0,0,⟨0,0⟩⟩)))=true↔¬ El v:=by
      rw [← Ag3,List.any_eq_true]
      constructor
      ·rintro ⟨i,hi,hj⟩
       rw [List.any_eq_true] at hj
       obtain ⟨j,hj,hs⟩:=hj
       rw [List.mem_range] at hi hj
       rw [decide_eq_true_eq] at hs
       refine ⟨i,j,hi,by omega,hj,?_⟩
       simpa [hi,show j < v.length by omega] using hs
      ·rintro ⟨i,j,hi,hj,hji,hs⟩
       refine ⟨i,List.mem_range.2 hi,?_⟩
       rw [List.any_eq_true]
       exact ⟨j,List.mem_range.2 hji,by simpa [hi,hj] using hs⟩
     by_cases g:El v
     ·rw [if_neg (fun q=>hd.1 q g),if_neg (not_not_intro g)]
     ·rw [if_pos (hd.2 g),if_pos g]
   ·rw [if_pos (Adp.2 h),if_pos h]
end Go.Proofs.YtbkobeeileemjaaGreat
