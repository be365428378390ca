/- An own row, sorted by a comparator: the row behind the shelf's contract. -/
import Derived.Test.YtlkgeeppfifeeaaGreatFlow14
import Derived.Shelf.SlSortCmp.WholeK
namespace Go.Proofs.YtlkgeeppfifeeaaGreat
open Go Go.RowKit Go.Shelf Go.Sort
variable {α : Type} [Inhabited α]
theorem flatK_eq {enc : α → List Value} {k : Nat} (hk : ∀ x, (enc x).length = k) (h0 : 0 < k) (d : Array α) : flatK enc k d = (d.toList.flatMap enc).toArray := by
  have hl : (d.toList.flatMap enc).length = d.size * k := by rw [flat_len hk, Array.length_toList]
  apply Array.ext
  · simp only [size_flatK, List.size_toArray, hl]
  · intro t h1 h2
    have ht : t < d.size * k := by simpa using h1
    have hq : t / k < d.size := by rw [Nat.div_lt_iff_lt_mul h0]; exact ht
    have hr : t % k < k := Nat.mod_lt _ h0
    have hg := get_flatK enc k d t ht
    rw [getElem!_pos _ t h1] at hg
    rw [hg]
    have hx : (enc d[t / k]!)[t % k]? = some (enc d[t / k]!)[t % k]! := by
      rw [getElem!_pos (enc d[t / k]!) (t % k) (by rw [hk]; exact hr)]
      exact List.getElem?_eq_getElem _
    have hd : d[t / k]! = d.toList[t / k]'(by simpa using hq) := by
      rw [getElem!_pos d _ hq]; simp
    rw [hd] at hx ⊢
    have := flat_at (enc := enc) d.toList (t / k) (by simpa using hq) (fun x _ => hk x) (t % k) _ hx
    rw [Nat.mul_comm, Nat.div_add_mod] at this
    have h3 := (List.getElem?_eq_some_iff.1 this).2
    rw [← h3]
    simp
/-- What the row holds ahead of the sort. -/
theorem row_holds {enc : α → List Value} {k : Nat} (hk : ∀ x, (enc x).length = k) (h0 : 0 < k) {w : World} {g : Nat} {cur : Array Value} {t : TypeId} (d : Array α) (hh : w.heap[g]? = some (.cells cur t (0, 0)))
    (hc : cur.toList.take (d.size * k) = d.toList.flatMap enc) : HoldsK enc k w g 0 d := by
  intro j hj
  rw [flatK_eq hk h0] at hj ⊢
  have hl : (d.toList.flatMap enc).length = d.size * k := by rw [flat_len hk, Array.length_toList]
  have hj' : j < d.size * k := by simpa [hl] using hj
  have hjl : j < (d.toList.flatMap enc).length := by rw [hl]; exact hj'
  refine ⟨?_, ?_⟩
  · have h7 : (cur.toList.take (d.size * k))[j]? = (d.toList.flatMap enc)[j]? := by rw [hc]
    rw [List.getElem?_take, if_pos hj'] at h7
    have h8 : cur[j]? = some (d.toList.flatMap enc)[j] := by rw [← Array.getElem?_toList, h7]; exact List.getElem?_eq_getElem hjl
    have h9 : w.cell? ⟨g, 0 + j, none⟩ = cur[j]? := by simp [World.cell?, hh]
    rw [h9, h8, getElem!_pos _ j hj]
    simp
  · simp [World.frozen?, hh]
/-- What the row is behind the sort. -/
theorem row_sorted {enc : α → List Value} {k : Nat} (hk : ∀ x, (enc x).length = k) (h0 : 0 < k) {w : World} {g c n : Nat} {cur : Array Value} {t : TypeId} {d d' : Array α} {os : Array Obj} (hs : d'.size = d.size) (hh : w.heap[g]? = some (.cells cur t (0, 0)))
    (hm : d.size ≤ c) (hcm : c ≤ maxLen) (hz : cur.size = c * k) :
    Ent.ok (sortWorldK enc k w g 0 n d' os) (.r (some ⟨g, 0, none⟩) d.size c t k (d'.toList.flatMap enc)) ∧ w.grownBy (sortWorldK enc k w g 0 n d' os) (some g) := by
  have hl : (d'.toList.flatMap enc).length = d.size * k := by rw [flat_len hk, Array.length_toList, hs]
  have hlt := lt_of_heap hh
  have hg0 : ∀ q, q < w.heap.size → (sortWorldK enc k w g 0 n d' os).heap[q]? = (w.heap.modify g (onCells (putCells id 0 (flatK enc k d'))))[q]? := fun q hq => by
    show (((Go.Sort.ahead w n).heap.modify g (onCells (putCells id 0 (flatK enc k d')))) ++ os)[q]? = _
    rw [Array.getElem?_append_left (by rw [Array.size_modify]; exact hq)]
    rfl
  refine ⟨⟨hl, .inr ⟨g, c, putCells id 0 (flatK enc k d') cur, rfl, Nat.zero_le _, ?_, hm, hcm, ?_, ?_⟩⟩, ⟨rfl, rfl, rfl, ?_, fun q hq hne => ?_⟩⟩
  · rw [hg0 g hlt, Array.getElem?_modify, if_pos rfl, hh]; rfl
  · simp [putCells, hz]
  · apply List.ext_getElem?
    intro j
    rw [List.getElem?_take]
    by_cases hj : j < d.size * k
    · rw [if_pos hj]
      have hjl : j < (d'.toList.flatMap enc).length := by rw [hl]; exact hj
      have hjc : j < cur.size := by
        rw [hz]; exact Nat.lt_of_lt_of_le hj (Nat.mul_le_mul_right _ hm)
      have hsz : j < (flatK enc k d').size := by rw [size_flatK, hs]; exact hj
      have h1 : (flatK enc k d')[j]! = (d'.toList.flatMap enc)[j] := by
        rw [flatK_eq hk h0, getElem!_pos _ j (by simpa using hjl)]
        simp
      rw [Array.getElem?_toList, List.getElem?_eq_getElem hjl]
      simp only [putCells, Array.getElem?_mapIdx, Array.getElem?_eq_getElem hjc, Option.map_some]
      rw [if_pos ⟨Nat.zero_le _, by simpa using hsz⟩]
      simp only [Nat.sub_zero, id, h1]
    · rw [if_neg hj, List.getElem?_eq_none (by rw [hl]; omega)]
  · show w.heap.size ≤ (((Go.Sort.ahead w n).heap.modify g (onCells (putCells id 0 (flatK enc k d')))) ++ os).size
    rw [Array.size_append, Array.size_modify]
    exact Nat.le_add_right _ _
  · rw [hg0 q hq, Array.getElem?_modify]
    rw [if_neg (fun he => hne (by rw [he]))]
end Go.Proofs.YtlkgeeppfifeeaaGreat
