/- slices.Sort of an own row of ints, by its contract. -/
import Derived.Test.YtdkjcoonmgjpfaaJ1
import Derived.Test.YtdkjcoonmgjpfaaFlow6
import Derived.Test.YtdkjcoonmgjpfaaSl
import Derived.Shelf.Sort.Plain
import Derived.Shelf.Slices.In.SortNone
namespace Go.Proofs.Ytdkjcoonmgjpfaa
open Go Go.RowKit Go.Shelf Go.Sort
def sortI (l : List Int) : List Int := l.mergeSort fun x y => decide (x ≤ y)
theorem sortI_len {l : List Int} : (sortI l).length = l.length := by simp [sortI]
theorem flat_i64 : ∀ l : List Int, l.flatMap e_i64 = l.map (Value.int .i64)
  | [] => rfl
  | x :: r => by rw [List.flatMap_cons, flat_i64 r]; rfl
theorem sort_runs (l : List Int) (hb : l.length ≤ 1000000) {A : Option Addr} {m c : Nat} {t : TypeId} (w : World) (hok : Ent.ok w (.r A m c t 1 (l.flatMap e_i64))) :
    Calls Try.prog 56 #[.slice A m c] w fun e w' => e = .returned (.tuple #[]) ∧ w.grownBy w' (Ent.blk (.r A m c t 1 (l.flatMap e_i64))) ∧ Ent.ok w' (.r A m c t 1 ((sortI l).flatMap e_i64)) := by
  obtain ⟨hl, h2⟩ := hok
  rw [flat_i64, List.length_map, Nat.mul_one] at hl
  subst hl
  rcases h2 with ⟨hv, h0⟩ | ⟨g, cap, cur, hv, hbg, hh, h3, h4, h5, h6⟩
  · injection hv with e1 e2 e3
    subst e1; subst e3
    have hl0 : l = [] := List.eq_nil_of_length_eq_zero h0
    subst hl0
    refine (calls_of_every_depth fun D => AnyS.slices_Sort_int_none_alone Try.laysSort D none 0 w).mono ?_
    rintro e w' ⟨rfl, rfl⟩
    refine ⟨rfl, ⟨rfl, rfl, rfl, Nat.le_refl _, fun _ _ _ => rfl⟩, by simp [sortI], .inl ⟨rfl, rfl⟩⟩
  · injection hv with e1 e2 e3
    subst e1; subst e3
    rw [flat_i64, Nat.mul_one] at h6
    rw [Nat.mul_one] at h5
    have hlt := lt_of_heap hh
    have hcell : ∀ j, (hj : j < l.length) → cur[j]? = some (Value.int .i64 l[j]) := fun j hj => by
      have h7 : (cur.toList.take l.length)[j]? = some (Value.int .i64 l[j]) := by rw [h6]; simp [hj]
      rw [List.getElem?_take, if_pos hj] at h7
      simpa using h7
    have hH : Holds (Value.int .i64) w g 0 l.toArray := fun j hj => by
      have hj' : j < l.length := by simpa using hj
      refine ⟨?_, ?_⟩
      · have := hcell j hj'
        simp [World.cell?, hh, this, hj']
      · simp [World.frozen?, hh]
    refine (Any.slices_Sort_int Try.laysSort g 0 c l w hH hlt (by omega)).mono ?_
    rintro e w' ⟨rfl, q, os, rfl⟩
    rw [show (l.mergeSort fun x y => decide (x ≤ y)) = sortI l from rfl]
    have hsz : (sortI l).length = l.length := sortI_len
    have hg0 : ∀ k, k < w.heap.size → (grow (putRow (Value.int .i64) (Go.Sort.ahead w q) g 0 (sortI l).toArray) os).heap[k]? = (w.heap.modify g (onCells (putCells (Value.int .i64) 0 (sortI l).toArray)))[k]? := fun k hk => by
      show (((Go.Sort.ahead w q).heap.modify g (onCells (putCells (Value.int .i64) 0 (sortI l).toArray))) ++ os)[k]? = _
      rw [Array.getElem?_append_left (by rw [Array.size_modify]; exact hk)]
      rfl
    refine ⟨rfl, ⟨rfl, rfl, rfl, ?_, fun k hk hne => ?_⟩, by rw [flat_i64, List.length_map, hsz, Nat.mul_one], .inr ⟨g, c, putCells (Value.int .i64) 0 (sortI l).toArray cur, rfl, Nat.zero_le _, ?_, h3, h4, ?_, ?_⟩⟩
    · show w.heap.size ≤ (((Go.Sort.ahead w q).heap.modify g (onCells (putCells (Value.int .i64) 0 (sortI l).toArray))) ++ os).size
      rw [Array.size_append, Array.size_modify]
      exact Nat.le_add_right _ _
    · rw [hg0 k hk, Array.getElem?_modify]
      rw [if_neg (fun he => hne (by rw [he]; rfl))]
    · rw [hg0 g hlt, Array.getElem?_modify, if_pos rfl, hh]; rfl
    · simp [putCells, h5]
    · rw [Nat.mul_one, flat_i64]
      apply List.ext_getElem?
      intro j
      rw [List.getElem?_take]
      by_cases hj : j < l.length
      · rw [if_pos hj]
        have hj2 : j < (sortI l).length := by omega
        have hcj := hcell j hj
        have : (putCells (Value.int .i64) 0 (sortI l).toArray cur)[j]? = some (Value.int .i64 (sortI l)[j]) := by
          simp only [putCells, Array.getElem?_mapIdx, hcj, Option.map_some]
          rw [if_pos ⟨Nat.zero_le _, by simpa using hj2⟩]
          simp [hj2]
        rw [← Array.getElem?_toList] at this
        rw [this]
        simp [hj2]
      · rw [if_neg hj]
        rw [List.getElem?_eq_none (by rw [List.length_map, hsz]; omega)]
section
variable {n : Nat} {N : Act → World → Prop} {Q : Exit → Act → World → Prop} {fr : List (Nat × Value)} {L L' : List Ent}
theorem Wh_sort (l : List Int) {d i m c : Nat} {A : Option Addr} {t : TypeId} {xs : List Operand} {ts : Array TypeId} {ty' : TypeId} {pos : String} {after : Array Edge} {guard : Option (Nat × Bool)}
    (hx : evos fr xs = some [.slice A m c]) (hb : l.length ≤ 1000000) (hL : SetE L i (.r A m c t 1 (l.flatMap e_i64)) (.r A m c t 1 ((sortI l).flatMap e_i64)) L') (hd : Nat.blt d n = true)
    (k : T n N ((d, .tuple #[]) :: fr) L') : Wh Try.prog Q n ⟨some d, .call ⟨.value (.func 56), xs.toArray, ts⟩, ty', pos, after, guard⟩ fr L N := by
  intro a w ha hw
  have he : Enters Try.prog 56 := ⟨_, Try.func56, rfl, rfl⟩
  simp only [Oper.wp, run_call he ha hx, Oper.upon_enter]
  refine (sort_runs l hb w (hw.ok _ hL.mem)).mono ?_
  rintro e w' ⟨rfl, hg, hok⟩
  exact k _ _ (ha.put hd) (Heap.turn (e := .r A m c t 1 (l.flatMap e_i64)) (e' := .r A m c t 1 ((sortI l).flatMap e_i64)) hg hok (Nat.le_refl _) (fun _ hg => .inl hg) hL hw)
end
end Go.Proofs.Ytdkjcoonmgjpfaa
