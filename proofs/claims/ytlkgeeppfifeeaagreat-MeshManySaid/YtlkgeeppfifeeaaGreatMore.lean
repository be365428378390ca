/- Ghost steps of the judgement T: cases, cuts, elements of slices. -/
import Derived.Test.YtlkgeeppfifeeaaGreatDraw
import Derived.LoopN
namespace Go.Proofs.YtlkgeeppfifeeaaGreat
open Go Go.RowKit

section
variable {P : Program} {n : Nat} {N : Act → World → Prop} {Q : Exit → Act → World → Prop} {fr : List (Nat × Value)} {L : List Ent}

theorem Fr.known {a s v} (h : Fr n fr a) (hs : look fr s = some v) : Fr n ((s, v) :: fr) a := by
  refine ⟨h.nod, h.size, fun t u hu => ?_⟩
  simp only [look] at hu
  cases hb : Nat.beq s t with
  | true =>
    rw [hb] at hu
    have e := Nat.eq_of_beq_eq_true hb
    subst e
    simp only [cond_true, Option.some.injEq] at hu
    subst hu
    exact h.val _ _ hs
  | false => rw [hb] at hu; exact h.val t u hu
theorem T_caseB {s : Nat} {b : Bool} (hs : look fr s = some (.bool b)) (ht : b = true → T n N ((s, .bool true) :: fr) L) (hf : b = false → T n N ((s, .bool false) :: fr) L) : T n N fr L := by
  intro a w ha hw
  cases b with
  | true => exact ht rfl a w (ha.known hs) hw
  | false => exact hf rfl a w (ha.known hs) hw
theorem T_caseP {s : Nat} {p : Prop} [Decidable p] (hs : look fr s = some (.bool (decide p))) (ht : p → T n N ((s, .bool true) :: fr) L) (hf : ¬ p → T n N ((s, .bool false) :: fr) L) : T n N fr L :=
  T_caseB hs (fun h => ht (of_decide_eq_true h)) (fun h => hf (of_decide_eq_false h))
theorem T_caseNB {s : Nat} {b : Bool} (hs : look fr s = some (.bool (!b))) (ht : b = false → T n N ((s, .bool true) :: fr) L) (hf : b = true → T n N ((s, .bool false) :: fr) L) : T n N fr L :=
  T_caseB hs (fun h => ht (by simpa using h)) (fun h => hf (by simpa using h))
theorem T_caseNP {s : Nat} {p : Prop} [Decidable p] (hs : look fr s = some (.bool (!decide p))) (ht : ¬ p → T n N ((s, .bool true) :: fr) L) (hf : p → T n N ((s, .bool false) :: fr) L) : T n N fr L :=
  T_caseNB hs (fun h => ht (of_decide_eq_false h)) (fun h => hf (of_decide_eq_true h))

/-! how exits pass -/
theorem T_outX {K : Act → World → Prop} {id : Nat} (k : T n (Q (.exit id)) fr L) : T n (Exit.then K Q (.exit id)) fr L := k
theorem T_outR {K : Act → World → Prop} (k : T n (Q .ret) fr L) : T n (Exit.then K Q .ret) fr L := k
theorem T_inR {id : Nat} (k : T n (Q .ret) fr L) : T n (Exit.inBlock id Q .ret) fr L := k
theorem T_inN {id : Nat} (k : T n (Q .normal) fr L) : T n (Exit.inBlock id Q .normal) fr L := k

/-- What a slot holds may be written otherwise. -/
theorem T_slot {s : Nat} {v v' : Value} (hs : look fr s = some v) (he : v = v') (k : T n N ((s, v') :: fr) L) : T n N fr L := fun a w ha hw => k a w (ha.known (by rw [hs, he])) hw
/-- So may an entry. -/
theorem SetE.same {i : Nat} {e e' : Ent} {L L'} (hL : SetE L i e e' L') : e = e' → L' = L := by
  induction hL with
  | here => intro h; rw [h]
  | there _ ih => intro h; rw [ih h]
theorem T_ent {i : Nat} {e e' : Ent} {L'} (hL : SetE L i e e' L') (he : e = e') (k : T n N fr L') : T n N fr L := by
  rw [hL.same he] at k; exact k
theorem T_drop {L'} (hs : HSub L L') (k : T n N fr L') : T n N fr L := fun a w ha hw => k a w ha (hw.sub hs)
theorem T_perm {L'} (hs : L.Perm L') (k : T n N fr L') : T n N fr L := fun a w ha hw => k a w ha (hw.perm hs)

/-- A cut behind the first part of a sequence. -/
theorem T_cut {σ : Type} (I : σ → List (Nat × Value)) (H : σ → List Ent) (C : σ → Prop) {x y : Code} (k2 : ∀ s, C s → T n (y.wp P Q) (I s) (H s))
    (k : T n (x.wp P (Exit.then (fun a w => ∃ s, C s ∧ Fr n (I s) a ∧ Heap (H s) w) Q)) fr L) : T n ((Code.seq x y).wp P Q) fr L := by
  intro a w ha hw
  refine wp_seq (wp_mono (k a w ha hw) ?_)
  intro e a' w' hq
  cases e with
  | normal => obtain ⟨s, h1, h2, h3⟩ := hq; exact k2 s h1 a' w' h2 h3
  | _ => exact hq
theorem T_met {σ : Type} {I : σ → List (Nat × Value)} {H : σ → List Ent} {C : σ → Prop} {Q' : Exit → Act → World → Prop} (s : σ) (hC : C s) (hF : SubF (I s) fr) (hH : HSub L (H s)) :
    T n (Exit.then (fun a w => ∃ s, C s ∧ Fr n (I s) a ∧ Heap (H s) w) Q' .normal) fr L := fun _ _ ha hw => ⟨s, hC, ha.sub hF, hw.sub hH⟩
/-- A cut anywhere. -/
theorem T_met0 {σ : Type} {I : σ → List (Nat × Value)} {H : σ → List Ent} {C : σ → Prop} (s : σ) (hC : C s) (hF : SubF (I s) fr) (hH : HSub L (H s)) :
    T n (fun a w => ∃ s, C s ∧ Fr n (I s) a ∧ Heap (H s) w) fr L := fun _ _ ha hw => ⟨s, hC, ha.sub hF, hw.sub hH⟩

/-- An element of a slice that can be read. -/
theorem T_elem {α : Type} {K : List Ent} {A : Option Addr} {m c sz : Nat} {enc : α → List Value} {l : List α} {ix : Operand} {k : IntKind} {i : Int} {j : Nat} (hi : evo fr ix = some (.int k i)) (hj : i = (j : Int)) (h : Has K A m c sz enc l) (hlt : j < l.length)
    (kk : ∀ b o, A = some ⟨b, o, none⟩ → Pt K b (o + j * sz) (enc l[j]) → T n N fr L) : T n N fr L := by
  obtain ⟨b, o, hA, hp⟩ := h.elem hlt
  exact kk b o hA hp
/-- The own row at place i, as a list. -/
theorem T_rowH {α : Type} (enc : α → List Value) (l : List α) {i A m c t sz} (hi : nthE L i = some (.r A m c t sz (l.flatMap enc))) (hz : 0 < sz) (he : ∀ x, (enc x).length = sz)
    (k : m = l.length → Has [.r A m c t sz (l.flatMap enc)] A m c sz enc l → T n N fr L) : T n N fr L := by
  intro a w ha hw
  have hok := hw.ok _ (nthE_mem hi)
  have hlen : (l.flatMap enc).length = l.length * sz := by
    clear hi k hok
    induction l with
    | nil => simp
    | cons x r ih => rw [List.flatMap_cons, List.length_append, he x, ih, List.length_cons, Nat.succ_mul]; omega
  have hm : m = l.length := by
    have h1 := hok.1
    rw [hlen] at h1
    exact (Nat.eq_of_mul_eq_mul_right hz h1).symm
  subst hm
  exact k rfl (Has.ofR hz (fun x _ => he x) hok) a w ha hw
/-- A store into an own row, at the element j. -/
theorem Wh_storeN {α : Type} (enc : α → List Value) (l : List α) (u : α) (j sz : Nat) {m : Nat} {x y g o A c t v ty' i L'} {ty : TypeId} {pos : String} {after : Array Edge} {guard : Option (Nat × Bool)}
    (hx : evo fr x = some (.pointer (some ⟨g, o, none⟩))) (hy : evo fr y = some v) (hv : v.cells = (enc u).toArray)
    (hL : SetE L i (.r A m c t sz (l.flatMap enc)) (.r A m c t sz ((l.set j u).flatMap enc)) L') (hm : m = l.length) (hA : A = some ⟨g, 0, none⟩) (ho : o = j * sz) (hj : j < l.length)
    (he : ∀ x ∈ l, (enc x).length = sz) (hu : (enc u).length = sz) (hz : 0 < sz) (h1 : allOne (enc u) = true) (hsz : ∀ w, (sizeOf ty').run P w = .ok sz w)
    (k : T n N fr L') : Wh P Q n ⟨none, .store ty' x y, ty, pos, after, guard⟩ fr L N := by
  subst hm
  exact Wh_storeR u hx hy hv hL hA ho hj he hu hz h1 hsz k
/-- A loop of a fixed number of rounds, walked round by round. -/
theorem T_loopN (k : Nat) {c : Code} (h : T n (Code.rounds P c Q k) fr L) : T n ((Code.loop c).wp P Q) fr L := fun a w ha hw => wp_loop_rounds k (h a w ha hw)
theorem T_rounds {k : Nat} {c : Code} (h : T n (c.wp P (Exit.then (Code.rounds P c Q k) Q)) fr L) : T n (Code.rounds P c Q (k + 1)) fr L := h
theorem T_again {k : Nat} {c : Code} {Q' : Exit → Act → World → Prop} (h : T n (c.wp P (Exit.then (Code.rounds P c Q k) Q)) fr L) : T n (Exit.then (Code.rounds P c Q (k + 1)) Q' .normal) fr L := h
/-- A row of nothing, of no block. -/
theorem Ent.ok_none (w : World) (t : TypeId) (sz : Nat) : Ent.ok w (.r none 0 0 t sz []) := ⟨by simp, .inl ⟨rfl, rfl⟩⟩
theorem T_none (t : TypeId) (sz : Nat) (k : T n N fr (.r none 0 0 t sz [] :: L)) : T n N fr L := by
  intro a w ha hw
  refine k a w ha ⟨fun e he => ?_, ?_⟩
  · rcases List.mem_cons.1 he with rfl | he
    · exact Ent.ok_none w t sz
    · exact hw.ok e he
  · rw [List.pairwise_cons]
    exact ⟨fun x hx => ⟨fun g hg => (by cases hg), fun g hg => ⟨Nat.zero_le _, fun h => (by cases h)⟩⟩, hw.sep⟩
/-- A contradiction. -/
theorem T_absurd (h : False) : T n N fr L := h.elim
end
end Go.Proofs.YtlkgeeppfifeeaaGreat
