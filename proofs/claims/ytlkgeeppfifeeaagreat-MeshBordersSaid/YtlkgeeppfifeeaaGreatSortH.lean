/- slices.SortFunc of an own row of values of one cell. -/
import Derived.Test.YtlkgeeppfifeeaaGreatSortG
import Derived.Shelf.SlSortCmp.Whole1
namespace Go.Proofs.YtlkgeeppfifeeaaGreat
open Go Go.RowKit Go.Shelf Go.Sort
theorem flat_cell {α : Type} {f : α → Value} : ∀ l : List α, l.flatMap (fun x => [f x]) = l.map f
  | [] => rfl
  | x :: r => by rw [List.flatMap_cons, flat_cell r]; rfl
section
variable {α : Type} [Inhabited α] {enc : α → Value}
theorem row1_holds {w : World} {g : Nat} {cur : Array Value} {t : TypeId} (l : List α) (hh : w.heap[g]? = some (.cells cur t (0, 0))) (h6 : cur.toList.take l.length = l.map enc) : Holds enc w g 0 l.toArray := fun j hj => by
  have hj' : j < l.length := by simpa using hj
  refine ⟨?_, ?_⟩
  · have h7 : (cur.toList.take l.length)[j]? = some (enc l[j]) := by rw [h6]; simp [hj']
    rw [List.getElem?_take, if_pos hj'] at h7
    have h8 : cur[j]? = some (enc l[j]) := by simpa using h7
    simp [World.cell?, hh, h8, hj']
  · simp [World.frozen?, hh]
theorem row1_sorted {w : World} {g c n : Nat} {cur : Array Value} {t : TypeId} {d : List α} {d' : Array α} {os : Array Obj} (hs : d'.size = d.length) (hh : w.heap[g]? = some (.cells cur t (0, 0))) (h3 : d.length ≤ c) (h4 : c ≤ maxLen) (h5 : cur.size = c) :
    Ent.ok (sortWorld enc w g 0 n d' os) (.r (some ⟨g, 0, none⟩) d.length c t 1 (d'.toList.map enc)) ∧ w.grownBy (sortWorld enc w g 0 n d' os) (some g) := by
  have hlt := lt_of_heap hh
  have hg0 : ∀ k, k < w.heap.size → (sortWorld enc w g 0 n d' os).heap[k]? = (w.heap.modify g (onCells (putCells enc 0 d')))[k]? := fun k hk => by
    show (((Go.Sort.ahead w n).heap.modify g (onCells (putCells enc 0 d'))) ++ os)[k]? = _
    rw [Array.getElem?_append_left (by rw [Array.size_modify]; exact hk)]
    rfl
  refine ⟨⟨by rw [List.length_map, Array.length_toList, hs, Nat.mul_one], .inr ⟨g, c, putCells enc 0 d' cur, rfl, Nat.zero_le _, ?_, h3, h4, ?_, ?_⟩⟩, ⟨rfl, rfl, rfl, ?_, fun k hk hne => ?_⟩⟩
  · rw [hg0 g hlt, Array.getElem?_modify, if_pos rfl, hh]; rfl
  · simp [putCells, h5]
  · rw [Nat.mul_one]
    apply List.ext_getElem?
    intro j
    rw [List.getElem?_take]
    by_cases hj : j < d.length
    · rw [if_pos hj]
      have hj' : j < d'.size := by omega
      have hjc : j < cur.size := by omega
      rw [List.getElem?_map, Array.getElem?_toList, show d'.toList[j]? = some d'[j] by simp [hj']]
      simp only [putCells, Array.getElem?_mapIdx, Array.getElem?_eq_getElem hjc, Option.map_some]
      rw [if_pos ⟨Nat.zero_le _, by omega⟩]
      simp [hj']
    · rw [if_neg hj, List.getElem?_eq_none (by rw [List.length_map, Array.length_toList]; omega)]
  · show w.heap.size ≤ (((Go.Sort.ahead w n).heap.modify g (onCells (putCells enc 0 d'))) ++ os).size
    rw [Array.size_append, Array.size_modify]
    exact Nat.le_add_right _ _
  · rw [hg0 k hk, Array.getElem?_modify]
    rw [if_neg (fun he => hne (by rw [he]))]
end
theorem sortWorld_drawn {α : Type} [Inhabited α] (enc : α → Value) (w : World) (g off n : Nat) (d : Array α) (os : Array Obj) : w.drawn ≤ (sortWorld enc w g off n d os).drawn := Nat.le_add_right _ _
/-- Rows of values of one cell. -/
theorem sort1_runs {P : Program} {ρ : Ren} (L : SlLaysF.n6 P ρ) {β : Type} {p : β → Prop} {enc : β → Value} (h1 : ∀ x, (enc x).oneCell' = true) {cf : β → β → Int} (hT : TotOn p cf) {gf : Nat} {cb : Array Value} (eg : ∀ args w, (callFunc gf args).run P w = .ok (.enter gf args) w)
    (l : List β) (hb : l.length ≤ 1000000000) (hp : ∀ x ∈ l, p x) {A : Option Addr} {m c : Nat} {t : TypeId} (w : World) (hok : Ent.ok w (.r A m c t 1 (l.flatMap fun x => [enc x])))
    (hcmp : CmpIn P p cf enc A m c t 1 gf cb w (l.flatMap fun x => [enc x])) : Sorts P (ρ.f 6) A m c t 1 gf cb w (l.flatMap fun x => [enc x]) ((sortBy cf l).flatMap fun x => [enc x]) := by
  rw [flat_cell] at hok hcmp ⊢
  rw [flat_cell]
  obtain ⟨hl, h2⟩ := hok
  rw [List.length_map, Nat.mul_one] at hl
  subst hl
  by_cases hl0 : l = []
  · subst hl0
    refine (AnyF.slices_SortFunc_none { L with } A c _ w).mono ?_
    rintro e w' ⟨rfl, rfl⟩
    exact ⟨rfl, ⟨rfl, rfl, rfl, Nat.le_refl _, fun _ _ _ => rfl⟩, Nat.le_refl _, by rw [show sortBy cf ([] : List β) = [] by simp [sortBy]]; exact ⟨by simp, h2⟩⟩
  · obtain ⟨l', hl'⟩ : ∃ l' : List {x // p x}, l = l'.map Subtype.val := ⟨l.attach.map fun x => ⟨x.1, hp x.1 x.2⟩, by simp only [List.map_map, Function.comp_def]; exact (List.attach_map_subtype_val _).symm⟩
    obtain ⟨x0, hx0⟩ := List.exists_mem_of_ne_nil l hl0
    have : Inhabited {x // p x} := ⟨⟨x0, hp x0 hx0⟩⟩
    clear hx0
    subst hl'
    rcases h2 with ⟨hv, hz⟩ | ⟨g, cap, cur, hv, hbg, hh, h3, h4, h5, h6⟩
    · exact absurd (List.eq_nil_of_length_eq_zero hz) hl0
    · injection hv with e1 e2 e3
      subst e1; subst e3
      unfold CmpIn at hcmp
      unfold Sorts
      rw [map_sortBy, List.map_map, List.map_map]
      rw [List.map_map] at h6 hcmp
      rw [List.length_map] at h3 h6 hb hcmp ⊢
      rw [Nat.mul_one] at h5 h6
      have hH : Holds (fun x : {x // p x} => enc x.1) w g 0 l'.toArray := row1_holds l' hh h6
      have hcl : CmpLays1 P gf cb (fun x : {x // p x} => enc x.1) (fun x y => cf x.1 y.1) g 0 l'.toArray.size w := fun q os dk hdk x y => by
        have hr := row1_sorted (enc := fun x : {x // p x} => enc x.1) (d := l') (d' := dk) (n := q) (os := os) (by simpa using hdk) hh h3 h4 h5
        exact hcmp _ _ hr.1 hr.2 (sortWorld_drawn _ _ _ _ _ _ _) x.1 y.1 x.2 y.2
      have := Any.slices_SortFunc_total L (fun x : {x // p x} => enc x.1) (fun x => h1 x.1) (fun x y => cf x.1 y.1) hT.swo gf cb g 0 c l'.toArray w eg hcl hH (lt_of_heap hh) (by simp; omega) hT.one
      rw [show l'.toArray.size = l'.length by simp] at this
      refine this.mono ?_
      rintro e w' ⟨rfl, n, os, rfl⟩
      have hr := row1_sorted (enc := fun x : {x // p x} => enc x.1) (d := l') (d' := (sortBy (fun x y : {x // p x} => cf x.1 y.1) l').toArray) (n := n) (os := os) (by simp [sortBy_len]) hh h3 h4 h5
      exact ⟨rfl, hr.2, sortWorld_drawn _ _ _ _ _ _ _, by simpa [sortBy] using hr.1⟩
end Go.Proofs.YtlkgeeppfifeeaaGreat
