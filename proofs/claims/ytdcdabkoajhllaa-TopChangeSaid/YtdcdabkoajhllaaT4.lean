/- Plain laws: what groups are. -/
import Derived.Test.YtdcdabkoajhllaaT3
import Derived.Test.YtdcdabkoajhllaaKQ4
namespace Go.Proofs.Ytdcdabkoajhllaa
open Go Go.RowKit
/-- The first nodes of the groups. -/
noncomputable def firsts (X Y : Nat) (m : Nat → Int) : List Nat := (List.range (X * Y)).filter (isFirst X Y m)
noncomputable def groupAt (X Y : Nat) (m : Nat → Int) (k : Nat) : List Nat := compOf X Y m ((firsts X Y m).getD k 0)
section
variable {X Y : Nat} {m : Nat → Int}
theorem comps_len : (comps X Y m).length = (firsts X Y m).length := by simp [comps, compsTo, firsts]
theorem comps_at {k : Nat} (h : k < (firsts X Y m).length) : (comps X Y m)[k]'(by rw [comps_len]; exact h) = nInts (groupAt X Y m k) := by
  unfold groupAt
  have e : (firsts X Y m).getD k 0 = (firsts X Y m)[k] := by simp [h]
  rw [e]
  simp [comps, compsTo, firsts]
theorem firsts_len : (firsts X Y m).length ≤ X * Y := by
  have := List.length_filter_le (isFirst X Y m) (List.range (X * Y))
  simpa [firsts] using this
theorem mem_firsts {i : Nat} : i ∈ firsts X Y m ↔ i < X * Y ∧ isFirst X Y m i = true := by simp [firsts, List.mem_filter, List.mem_range]
theorem firsts_at {k : Nat} (h : k < (firsts X Y m).length) : (firsts X Y m).getD k 0 ∈ firsts X Y m := by
  have e : (firsts X Y m).getD k 0 = (firsts X Y m)[k] := by simp [h]
  rw [e]; exact List.getElem_mem h
theorem firsts_lt {j k : Nat} (h : j < k) (hk : k < (firsts X Y m).length) : (firsts X Y m).getD j 0 < (firsts X Y m).getD k 0 := by
  have e1 : (firsts X Y m).getD j 0 = (firsts X Y m)[j]'(by omega) := by simp [show j < (firsts X Y m).length by omega]
  have e2 : (firsts X Y m).getD k 0 = (firsts X Y m)[k] := by simp [hk]
  rw [e1, e2]
  have hs : (firsts X Y m).Pairwise (· < ·) := List.Pairwise.filter _ List.pairwise_lt_range
  exact List.pairwise_iff_getElem.1 hs j k (by omega) hk h
/-- Every node with a mark lies in a group. -/
theorem has_first {i : Nat} (hi : i < X * Y) (hm : m i ≠ 0) : ∃ f, f ∈ firsts X Y m ∧ Reach X Y m f i := by
  induction i using Nat.strongRecOn with
  | _ i ih =>
    by_cases h : isFirst X Y m i = true
    · exact ⟨i, mem_firsts.2 ⟨hi, h⟩, .refl⟩
    · have : ∃ j, j < i ∧ Reach X Y m i j := by
        by_cases hj : ∃ j, j < i ∧ Reach X Y m i j
        · exact hj
        · exact absurd (isFirst_iff.2 ⟨hm, fun j h1 h2 => hj ⟨j, h1, h2⟩⟩) h
      obtain ⟨j, h1, h2⟩ := this
      obtain ⟨f, hf, hr⟩ := ih j h1 (h2.lt hi) (by rw [h2.mark]; exact hm)
      exact ⟨f, hf, hr.trans (h2.symm hi)⟩
theorem mem_group {k j : Nat} (h : k < (firsts X Y m).length) : j ∈ groupAt X Y m k ↔ Reach X Y m ((firsts X Y m).getD k 0) j := by
  unfold groupAt
  exact mem_compOf (mem_firsts.1 (firsts_at h)).1
theorem group_min {k j : Nat} (h : k < (firsts X Y m).length) (hj : j ∈ groupAt X Y m k) : (firsts X Y m).getD k 0 ≤ j := by
  have hf := mem_firsts.1 (firsts_at h)
  rcases Nat.lt_or_ge j ((firsts X Y m).getD k 0) with h1 | h1
  · exact absurd ((mem_group h).1 hj) ((isFirst_iff.1 hf.2).2 j h1)
  · exact h1
theorem group_head {k : Nat} (h : k < (firsts X Y m).length) : ∃ r, groupAt X Y m k = (firsts X Y m).getD k 0 :: r := by
  have hmem : (firsts X Y m).getD k 0 ∈ groupAt X Y m k := (mem_group h).2 .refl
  have hs : (groupAt X Y m k).Pairwise (· < ·) := compOf_sorted
  cases hg : groupAt X Y m k with
  | nil => rw [hg] at hmem; simp at hmem
  | cons x r =>
    have h1 := group_min h (j := x) (by rw [hg]; simp)
    rw [hg] at hmem hs
    rcases List.mem_cons.1 hmem with h2 | h2
    · exact ⟨r, by rw [h2]⟩
    · have := (List.pairwise_cons.1 hs).1 _ h2
      omega
theorem group_mark {k j : Nat} (h : k < (firsts X Y m).length) (hj : j ∈ groupAt X Y m k) : m j ≠ 0 := by
  have hf := mem_firsts.1 (firsts_at h)
  rw [((mem_group h).1 hj).mark]
  exact (isFirst_iff.1 hf.2).1
theorem group_lt {k j : Nat} (h : k < (firsts X Y m).length) (hj : j ∈ groupAt X Y m k) : j < X * Y := ((mem_group h).1 hj).lt (mem_firsts.1 (firsts_at h)).1
theorem group_disj {k k' j : Nat} (h : k < k') (h' : k' < (firsts X Y m).length) (hj : j ∈ groupAt X Y m k) : j ∉ groupAt X Y m k' := by
  intro hj'
  have h1 := (mem_group (by omega)).1 hj
  have h2 := (mem_group h').1 hj'
  have hf := mem_firsts.1 (firsts_at h')
  have hf0 := mem_firsts.1 (firsts_at (X := X) (Y := Y) (m := m) (show k < (firsts X Y m).length by omega))
  exact (isFirst_iff.1 hf.2).2 _ (firsts_lt h h') (h2.trans (h1.symm hf0.1))
theorem mem_some {i : Nat} (hi : i < X * Y) : m i ≠ 0 ↔ ∃ k, k < (firsts X Y m).length ∧ i ∈ groupAt X Y m k := by
  constructor
  · intro hm
    obtain ⟨f, hf, hr⟩ := has_first hi hm
    obtain ⟨k, hk, rfl⟩ := List.getElem_of_mem hf
    refine ⟨k, hk, (mem_group hk).2 ?_⟩
    have e : (firsts X Y m).getD k 0 = (firsts X Y m)[k] := by simp [hk]
    rw [e]; exact hr
  · rintro ⟨k, hk, h⟩
    exact group_mark hk h
theorem group_len {k : Nat} : (groupAt X Y m k).length ≤ X * Y := by
  have := List.length_filter_le (fun j => @decide (Reach X Y m ((firsts X Y m).getD k 0) j) (Classical.propDecidable _)) (List.range (X * Y))
  rw [List.length_range] at this
  unfold groupAt compOf
  exact this
end

end Go.Proofs.Ytdcdabkoajhllaa
