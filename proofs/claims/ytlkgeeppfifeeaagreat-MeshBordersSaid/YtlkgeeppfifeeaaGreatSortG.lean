/- slices.SortFunc of an own row, by a comparator of a total order that may look at what the world holds beside the row. -/
import Derived.Test.YtlkgeeppfifeeaaGreatSortK
import Derived.Shelf.SlSortCmp.NoneTotal
namespace Go.Proofs.YtlkgeeppfifeeaaGreat
open Go Go.RowKit Go.Shelf Go.Sort
/-- The list, sorted by a comparator of a total order. -/
def sortBy {α : Type} (cf : α → α → Int) (l : List α) : List α := l.mergeSort fun x y => !(ltOf cf) y x
theorem sortBy_len {α : Type} {cf : α → α → Int} {l : List α} : (sortBy cf l).length = l.length := by simp [sortBy]
/-- A total order of what p holds. -/
structure TotOn {β : Type} (p : β → Prop) (cf : β → β → Int) : Prop where
  irr : ∀ x, p x → ¬ cf x x < 0
  trans : ∀ x y z, p x → p y → p z → cf x y < 0 → cf y z < 0 → cf x z < 0
  tot : ∀ x y, p x → p y → ¬ cf x y < 0 → ¬ cf y x < 0 → x = y
theorem ltOf_iff {α : Type} {cf : α → α → Int} {x y : α} : ltOf cf x y = true ↔ cf x y < 0 := by simp [ltOf]
theorem ltOf_not {α : Type} {cf : α → α → Int} {x y : α} : ltOf cf x y = false ↔ ¬ cf x y < 0 := by simp [ltOf]
theorem TotOn.swo {β : Type} {p : β → Prop} {cf : β → β → Int} (h : TotOn p cf) : SWO (ltOf fun x y : {x // p x} => cf x.1 y.1) where
  irrefl x := ltOf_not.2 (h.irr x.1 x.2)
  trans x y z h1 h2 := ltOf_iff.2 (h.trans x.1 y.1 z.1 x.2 y.2 z.2 (ltOf_iff.1 h1) (ltOf_iff.1 h2))
  ntrans x y z h1 h2 := by
    rw [ltOf_not] at h1 h2 ⊢
    intro h3
    by_cases h4 : cf y.1 x.1 < 0
    · exact h2 (h.trans y.1 x.1 z.1 y.2 x.2 z.2 h4 h3)
    · have := h.tot x.1 y.1 x.2 y.2 h1 h4
      rw [this] at h3
      exact h2 h3
theorem TotOn.one {β : Type} {p : β → Prop} {cf : β → β → Int} (h : TotOn p cf) (x y : {x // p x}) (h1 : ltOf (fun x y : {x // p x} => cf x.1 y.1) x y = false) (h2 : ltOf (fun x y : {x // p x} => cf x.1 y.1) y x = false) : x = y :=
  Subtype.ext (h.tot x.1 y.1 x.2 y.2 (ltOf_not.1 h1) (ltOf_not.1 h2))
/-- What the sort does to its row. -/
def Sorts (P : Program) (f : FuncId) (A : Option Addr) (m c : Nat) (t : TypeId) (k : Nat) (gf : Nat) (cb : Array Value) (w : World) (xs ys : List Value) : Prop :=
  Calls P f #[.slice A m c, .func (.func gf) #[] cb] w fun e w' => e = .returned (.tuple #[]) ∧ w.grownBy w' (Ent.blk (.r A m c t k xs)) ∧ w.drawn ≤ w'.drawn ∧ Ent.ok w' (.r A m c t k ys)
/-- What the comparator does, in every world that the sort passes through. -/
def CmpIn (P : Program) {β : Type} (p : β → Prop) (cf : β → β → Int) (arg : β → Value) (A : Option Addr) (m c : Nat) (t : TypeId) (k : Nat) (gf : Nat) (cb : Array Value) (w : World) (xs : List Value) : Prop :=
  ∀ (ys : List Value) W, Ent.ok W (.r A m c t k ys) → w.grownBy W (Ent.blk (.r A m c t k xs)) → w.drawn ≤ W.drawn → ∀ x y, p x → p y → Calls P gf (#[arg x, arg y] ++ cb) W fun e w' => e = .returned (.int .i64 (cf x y)) ∧ Gw W w'
theorem sortWorldK_drawn {α : Type} [Inhabited α] (enc : α → List Value) (k : Nat) (w : World) (g off n : Nat) (d : Array α) (os : Array Obj) : w.drawn ≤ (sortWorldK enc k w g off n d os).drawn := Nat.le_add_right _ _
theorem map_sortBy {β : Type} {p : β → Prop} {cf : β → β → Int} (l' : List {x // p x}) : sortBy cf (l'.map Subtype.val) = (sortBy (fun x y : {x // p x} => cf x.1 y.1) l').map Subtype.val := by
  unfold sortBy
  rw [List.map_mergeSort]
  intro a _ b _
  rfl
/-- Rows of structs. -/
theorem sortK_runs {P : Program} {ρ : Ren} (L : SlLaysF0.n6 P ρ) {β : Type} {p : β → Prop} {k : Nat} (aE : ∀ w, (isAgg (ρ.t 24)).run P w = .ok true w) (zE : ∀ w, (Go.sizeOf (ρ.t 24)).run P w = .ok k w) {enc : β → List Value} (hk : ∀ x, (enc x).length = k) (h0 : 0 < k)
    (h1 : ∀ x, ∀ v ∈ enc x, v.oneCell' = true) {cf : β → β → Int} (hT : TotOn p cf) {gf : Nat} {cb : Array Value} (eg : ∀ args w, (callFunc gf args).run P w = .ok (.enter gf args) w)
    (l : List β) (hb : l.length ≤ 1000000000) (hp : ∀ x ∈ l, p x) {A : Option Addr} {m c : Nat} {t : TypeId} (w : World) (hok : Ent.ok w (.r A m c t k (l.flatMap enc)))
    (hcmp : CmpIn P p cf (fun x => .agg (enc x).toArray) A m c t k gf cb w (l.flatMap enc)) : Sorts P (ρ.f 6) A m c t k gf cb w (l.flatMap enc) ((sortBy cf l).flatMap enc) := by
  obtain ⟨hl, h2⟩ := hok
  rw [flat_len hk] at hl
  have hm : l.length = m := Nat.eq_of_mul_eq_mul_right h0 hl
  subst hm
  by_cases hl0 : l = []
  · subst hl0
    refine (AnyF.slices_SortFunc_none L A c _ w).mono ?_
    rintro e w' ⟨rfl, rfl⟩
    exact ⟨rfl, ⟨rfl, rfl, rfl, Nat.le_refl _, fun _ _ _ => rfl⟩, Nat.le_refl _, by rw [show sortBy cf ([] : List β) = [] by simp [sortBy]]; exact ⟨by simp, h2⟩⟩
  · obtain ⟨l', hl'⟩ : ∃ l' : List {x // p x}, l = l'.map Subtype.val := ⟨l.attach.map fun x => ⟨x.1, hp x.1 x.2⟩, by simp only [List.map_map, Function.comp_def]; exact (List.attach_map_subtype_val _).symm⟩
    obtain ⟨x0, hx0⟩ := List.exists_mem_of_ne_nil l hl0
    have : Inhabited {x // p x} := ⟨⟨x0, hp x0 hx0⟩⟩
    clear hl0 hx0
    subst hl'
    have hf : ∀ q : List {x // p x}, (q.map Subtype.val).flatMap enc = q.flatMap fun x => enc x.1 := fun q => by rw [List.flatMap_map]
    have hk' : ∀ x : {x // p x}, (enc x.1).length = k := fun x => hk x.1
    rcases h2 with ⟨hv, hz⟩ | ⟨g, cap, cur, hv, hbg, hh, h3, h4, h5, h6⟩
    · injection hv with e1 e2 e3
      subst e1; subst e3
      rw [hz]
      have hl0 : l' = [] := by simpa using hz
      subst hl0
      refine (AnyF.slices_SortFunc_none L none 0 _ w).mono ?_
      rintro e w' ⟨rfl, rfl⟩
      exact ⟨rfl, ⟨rfl, rfl, rfl, Nat.le_refl _, fun _ _ _ => rfl⟩, Nat.le_refl _, by simp [sortBy], .inl ⟨rfl, rfl⟩⟩
    · injection hv with e1 e2 e3
      subst e1; subst e3
      unfold CmpIn at hcmp
      unfold Sorts
      rw [map_sortBy, hf, hf]
      rw [hf] at h6 hcmp
      rw [List.length_map] at h3 h6 hl hb hcmp ⊢
      have hH : HoldsK (fun x : {x // p x} => enc x.1) k w g 0 l'.toArray := row_holds hk' h0 l'.toArray hh (by simpa using h6)
      have hcl : CmpLays P gf cb (fun x : {x // p x} => enc x.1) k (fun x y => cf x.1 y.1) g 0 l'.toArray.size w := fun q os dk hdk x y => by
        have hr := row_sorted hk' h0 (d := l'.toArray) (d' := dk) (n := q) (os := os) hdk hh (by simpa using h3) h4 h5
        simp only [List.size_toArray] at hr
        exact hcmp _ _ hr.1 hr.2 (sortWorldK_drawn _ _ _ _ _ _ _ _) x.1 y.1 x.2 y.2
      have := AnyQ.slices_SortFunc_total L k aE zE (fun x : {x // p x} => enc x.1) hk' (fun x => h1 x.1) (fun x y => cf x.1 y.1) hT.swo gf cb g 0 c l'.toArray w eg hcl hH (lt_of_heap hh) (by simp; omega) hT.one
      rw [show l'.toArray.size = l'.length by simp] at this
      refine this.mono ?_
      rintro e w' ⟨rfl, n, os, rfl⟩
      have hs : (l'.toArray.toList.mergeSort fun x y => !(ltOf fun x y : {x // p x} => cf x.1 y.1) y x).toArray.size = l'.toArray.size := by simp
      have hr := row_sorted hk' h0 (d := l'.toArray) (d' := (l'.toArray.toList.mergeSort fun x y => !(ltOf fun x y : {x // p x} => cf x.1 y.1) y x).toArray) (n := n) (os := os) hs hh (by simpa using h3) h4 h5
      refine ⟨rfl, hr.2, sortWorldK_drawn _ _ _ _ _ _ _ _, ?_⟩
      have h7 := hr.1
      simp only [List.size_toArray] at h7
      exact h7
section
variable {P : Program} {n : Nat} {N : Act → World → Prop} {Q : Exit → Act → World → Prop} {fr : List (Nat × Value)} {L L' : List Ent}
/-- The call of a sort. -/
theorem Wh_sortG {β : Type} {p : β → Prop} {enc : β → List Value} {arg : β → Value} {cf : β → β → Int} {k f gf : Nat} {cb : Array Value} (l : List β) {i m c : Nat} {A : Option Addr} {t : TypeId} {xs : List Operand} {ts : Array TypeId} {ty' : TypeId} {pos : String} {after : Array Edge} {guard : Option (Nat × Bool)}
    (he : Enters P f) (hs : ∀ w, Ent.ok w (.r A m c t k (l.flatMap enc)) → CmpIn P p cf arg A m c t k gf cb w (l.flatMap enc) → Sorts P f A m c t k gf cb w (l.flatMap enc) ((sortBy cf l).flatMap enc))
    (Lf : List Value → List Ent) (hLf : ∀ ys, SetE L i (.r A m c t k (l.flatMap enc)) (.r A m c t k ys) (Lf ys)) (hc : ∀ ys W, Heap (Lf ys) W → ∀ x y, p x → p y → ∃ xs, xs.toArray = #[arg x, arg y] ++ cb ∧ CtL P gf xs W fun v Ln => v = .int .i64 (cf x y) ∧ Ln = [] ∧ True)
    (hx : evos fr xs = some [.slice A m c, .func (.func gf) #[] cb]) (hL : Lf ((sortBy cf l).flatMap enc) = L')
    {d : Nat} (hd : Nat.blt d n = true) (kk : T n N ((d, .tuple #[]) :: fr) L') : Wh P Q n ⟨some d, .call ⟨.value (.func f), xs.toArray, ts⟩, ty', pos, after, guard⟩ fr L N := by
  intro a w ha hw
  subst hL
  have turn : ∀ ys W, Ent.ok W (.r A m c t k ys) → w.grownBy W (Ent.blk (.r A m c t k (l.flatMap enc))) → w.drawn ≤ W.drawn → Heap (Lf ys) W := fun ys W h1 h2 h3 =>
    Heap.turn (e := .r A m c t k (l.flatMap enc)) (e' := .r A m c t k ys) h2 h1 (Nat.le_refl _) (fun _ hg => .inl hg) (hLf ys) hw (hd := h3)
  simp only [Oper.wp, run_call he ha hx, Oper.upon_enter]
  refine (hs w (hw.ok _ (hLf []).mem) fun ys W h1 h2 h3 x y px py => ?_).mono ?_
  · obtain ⟨xs, e, h⟩ := hc ys W (turn ys W h1 h2 h3) x y px py
    rw [← e]
    exact h.grows
  · rintro e w' ⟨rfl, hg, hdr, hok⟩
    exact kk _ _ (ha.put hd) (turn _ _ hok hg hdr)
end
end Go.Proofs.YtlkgeeppfifeeaaGreat
