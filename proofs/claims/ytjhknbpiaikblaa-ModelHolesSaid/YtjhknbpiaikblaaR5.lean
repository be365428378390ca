/- The statement ModelHoles in plain Lean. -/
import Derived.Test.YtjhknbpiaikblaaR4
import Derived.Test.YtjhknbpiaikblaaN12
namespace Go.Proofs.Ytjhknbpiaikblaa
open Go Go.RowKit
theorem good_eq (g : S_api_Grid) : lidarlaw09_good g = some (decide (g.Cells.length ≤ 100) && validP g) := by
  unfold lidarlaw09_good
  simp only [jn_d]
  by_cases h : g.Cells.length ≤ 100
  · rw [if_pos (by omega), refValid_eq, bnd_s]; simp [h]
  · rw [if_neg (by omega)]; simp [h]
section
variable {g : S_api_Grid} {X Y : Nat} {m : Nat → Int}
theorem holes_len : (holes X Y m).length = (firsts X Y m).length := by simp [holes]
theorem holes_idx {k : Nat} (h : k < (firsts X Y m).length) : idx (holes X Y m) (k : Int) = some (hole X Y k (groupAt X Y m k)) := by
  rw [idx_nat (by rw [holes_len]; exact h)]; simp [holes]
theorem getD_cell {l : List S_api_Cell} {j : Nat} (h : j < l.length) : l[j] = l.getD j default := by simp [h]
theorem holes_l15 (hn : g.Cells.length = X * Y) (h9 : X * Y ≤ 4096) (hm : ∀ i, i < X * Y → (m i ≠ 0 ↔ (g.Cells.getD i default).Void = true)) {k : Nat} (hk : k < (firsts X Y m).length) (x0 : Int) (s3 : List Bool × Int × Int) (hs3 : s3.2.2 = (k : Int)) (seen : List Bool) (hs : seen.length = X * Y) (hfree : ∀ j ∈ groupAt X Y m k, sb seen j = false) :
    ∃ seen2, lfix (lidarlaw09_ModelHoles_l15 (holes X Y m, 0) s3 g x0) (seen, 0) = some (.inl (seen2, x0)) ∧ seen2.length = X * Y ∧ ∀ j, sb seen2 j = true ↔ sb seen j = true ∨ j ∈ groupAt X Y m k := by
  have hgl := group_len (X := X) (Y := Y) (m := m) (k := k)
  have hnd : (groupAt X Y m k).Nodup := compOf_sorted.imp (fun h => by omega)
  obtain ⟨t, ht, seen2, rfl, q1, q2⟩ := lfix_ind (B := lidarlaw09_ModelHoles_l15 (holes X Y m, 0) s3 g x0) (fun s => (groupAt X Y m k).length - s.2.toNat)
    (fun s => ∃ (j : Nat) (seen2 : List Bool), s = (seen2, (j : Int)) ∧ j ≤ (groupAt X Y m k).length ∧ seen2.length = X * Y ∧ ∀ q, sb seen2 q = true ↔ sb seen q = true ∨ q ∈ (groupAt X Y m k).take j)
    (fun t => ∃ seen2, t = .inl (seen2, x0) ∧ seen2.length = X * Y ∧ ∀ j, sb seen2 j = true ↔ sb seen j = true ∨ j ∈ groupAt X Y m k) (by
      rintro s ⟨j, seen2, rfl, hj, c1, c2⟩
      unfold lidarlaw09_ModelHoles_l15
      simp only [jn_d, hs3]
      rw [holes_idx hk, bnd_s]
      simp only [hole, nInts_len]
      by_cases hlt : j < (groupAt X Y m k).length
      · left
        have hmem := List.getElem_mem hlt
        have hlx := group_lt hk hmem
        have htk : ∀ q, q ∈ (groupAt X Y m k).take (j + 1) ↔ q ∈ (groupAt X Y m k).take j ∨ q = (groupAt X Y m k)[j] := fun q => by rw [List.take_succ_eq_append_getElem hlt, List.mem_append, List.mem_singleton]
        have hnot : (groupAt X Y m k)[j] ∉ (groupAt X Y m k).take j := fun hq => by
          obtain ⟨i, hi, he⟩ := List.getElem_of_mem hq
          rw [List.length_take] at hi
          rw [List.getElem_take] at he
          have := List.pairwise_iff_getElem.1 hnd i j (by omega) hlt (by omega)
          exact this he
        have hfr : sb seen2 (groupAt X Y m k)[j] = false := by
          cases hq : sb seen2 (groupAt X Y m k)[j]
          · rfl
          · rcases (c2 _).1 hq with h | h
            · rw [hfree _ hmem] at h; cases h
            · exact absurd h hnot
        have hvo := (hm _ hlx).1 (group_mark hk hmem)
        refine ⟨_, ?_, ⟨j + 1, setI seen2 (((groupAt X Y m k)[j] : Nat) : Int) true, rfl, by omega, by rw [setI_len]; exact c1, fun q => ?_⟩, by simp only [Int.toNat_natCast]; omega⟩
        · rw [if_pos (by omega), bnd_s]
          simp only []
          rw [idx_nInts hlt, bnd_s, if_neg (by omega), if_neg (by omega), idx_s (by omega), bnd_s, if_neg (by rw [hfr]; simp), idx_nat (l := g.Cells) (by omega), bnd_s, getD_cell (by omega), hvo, if_neg (by simp), bnd_s, w64_succ (by omega)]
        · rw [sb_set (by omega), c2 q, htk q, or_assoc]
      · right
        obtain rfl : j = (groupAt X Y m k).length := by omega
        rw [if_neg (by omega)]
        exact ⟨_, rfl, seen2, rfl, c1, by rw [List.take_length] at c2; exact c2⟩)
    (seen, 0) ⟨0, seen, rfl, by omega, hs, by simp⟩
  exact ⟨seen2, ht, q1, q2⟩
theorem holes_l9 (hn : g.Cells.length = X * Y) (h9 : X * Y ≤ 4096) (hm : ∀ i, i < X * Y → (m i ≠ 0 ↔ (g.Cells.getD i default).Void = true)) :
    ∃ seen, lfix (lidarlaw09_ModelHoles_l9 (holes X Y m, 0) g) (List.replicate (X * Y) false, -1, 0) = some (.inl seen) ∧ seen.length = X * Y ∧ ∀ j, sb seen j = true ↔ ∃ k, k < (firsts X Y m).length ∧ j ∈ groupAt X Y m k := by
  have hfl := firsts_len (X := X) (Y := Y) (m := m)
  obtain ⟨t, ht, seen, rfl, q1, q2⟩ := lfix_ind (B := lidarlaw09_ModelHoles_l9 (holes X Y m, 0) g) (fun s => (firsts X Y m).length - s.2.2.toNat)
    (fun s => ∃ (i : Nat) (seen : List Bool) (last : Int), s = (seen, last, (i : Int)) ∧ i ≤ (firsts X Y m).length ∧ seen.length = X * Y ∧ (∀ j, sb seen j = true ↔ ∃ k, k < i ∧ j ∈ groupAt X Y m k) ∧ (i < (firsts X Y m).length → last < ((firsts X Y m).getD i 0 : Nat)))
    (fun t => ∃ seen, t = .inl seen ∧ seen.length = X * Y ∧ ∀ j, sb seen j = true ↔ ∃ k, k < (firsts X Y m).length ∧ j ∈ groupAt X Y m k) (by
      rintro s ⟨i, seen, last, rfl, hi, c1, c2, c3⟩
      unfold lidarlaw09_ModelHoles_l9
      simp only [jn_d, holes_len]
      by_cases hlt : i < (firsts X Y m).length
      · left
        obtain ⟨r, hr⟩ := group_head hlt
        have hfree : ∀ j ∈ groupAt X Y m i, sb seen j = false := fun j hj => by
          cases hq : sb seen j
          · rfl
          · obtain ⟨k, ha, hb⟩ := (c2 j).1 hq
            exact absurd hj (group_disj ha hlt hb)
        obtain ⟨seen2, hL, d1, d2⟩ := holes_l15 hn h9 hm hlt (((firsts X Y m).getD i 0 : Nat) : Int) (seen, last, (i : Int)) rfl seen c1 hfree
        have h0 : idx (nInts (groupAt X Y m i)) 0 = some (((firsts X Y m).getD i 0 : Nat) : Int) := by rw [hr]; rfl
        have hlast := c3 hlt
        have hlen : (groupAt X Y m i).length ≠ 0 := by rw [hr]; simp
        refine ⟨(seen2, (((firsts X Y m).getD i 0 : Nat) : Int), ((i + 1 : Nat) : Int)), ?_, ⟨i + 1, seen2, _, rfl, by omega, d1, fun j => ?_, fun h => by have := firsts_lt (X := X) (Y := Y) (m := m) (show i < i + 1 by omega) h; omega⟩, by simp only [Int.toNat_natCast]; omega⟩
        · rw [if_pos (by omega), holes_idx hlt]
          simp only [bnd_s, hole, nInts_len]
          rw [w64_succ (by omega), if_pos rfl, if_neg (by omega), h0]
          simp only [bnd_s]
          rw [if_neg (by rw [decide_eq_true_eq]; omega), hL]
          rfl
        · rw [d2 j, c2 j]
          exact ⟨fun h => by
            rcases h with ⟨k, ha, hb⟩ | h
            · exact ⟨k, by omega, hb⟩
            · exact ⟨i, by omega, h⟩, fun ⟨k, ha, hb⟩ => by
            rcases Nat.lt_or_ge k i with h | h
            · exact .inl ⟨k, h, hb⟩
            · obtain rfl : k = i := by omega
              exact .inr hb⟩
      · right
        obtain rfl : i = (firsts X Y m).length := by omega
        rw [if_neg (by omega)]
        exact ⟨_, rfl, seen, rfl, c1, c2⟩)
    (List.replicate (X * Y) false, -1, 0) ⟨0, _, -1, rfl, by omega, by simp, fun j => ⟨fun h => by simp [sb, List.getD_eq_getElem?_getD, List.getElem?_replicate] at h; split at h <;> simp at h, fun ⟨k, a, _⟩ => by omega⟩, fun _ => by omega⟩
  exact ⟨seen, ht, q1, q2⟩
end
theorem modelHoles_eq (g : S_api_Grid) : lidarlaw09_ModelHoles g = some true := by
  unfold lidarlaw09_ModelHoles
  rw [good_eq, bnd_s, first_eq]
  simp only [bnd_s, jn_d]
  by_cases hgo : (decide (g.Cells.length ≤ 100) && validP g) = true
  · rw [if_pos hgo]
    simp only [Bool.and_eq_true, decide_eq_true_eq] at hgo
    have hv := hgo.2
    have hl := validP_cells hv
    have hg := goodF_of hl.2.2.2
    obtain ⟨X, hX⟩ : ∃ X : Nat, g.Raster.NX = (X : Int) := ⟨g.Raster.NX.toNat, by have := hg.nx; omega⟩
    obtain ⟨Y, hY⟩ : ∃ Y : Nat, g.Raster.NY = (Y : Int) := ⟨g.Raster.NY.toNat, by have := hg.ny; omega⟩
    have hn : g.Cells.length = X * Y := by have := hl.1; rw [hX, hY] at this; exact_mod_cast this
    have hm : ∀ i, i < X * Y → (mAt (vmarks g.Cells) i ≠ 0 ↔ (g.Cells.getD i default).Void = true) := fun i hi => vmark_iff (by omega)
    rw [voids_eq hv hX hY, bnd_s]
    simp only []
    rw [if_pos trivial, gd_t ⟨by omega, by omega⟩, Int.toNat_natCast, hn]
    obtain ⟨seen, hL, d1, d2⟩ := holes_l9 (m := mAt (vmarks g.Cells)) hn (by omega) hm
    rw [hL, bnd_s]
    simp only []
    have e : lfix (lidarlaw09_ModelHoles_l22 seen g) 0 = some (.inl ()) := by
      refine lfix_same (β := Unit) (X * Y) (by omega) _ (fun j hj => ?_) ?_
      · unfold lidarlaw09_ModelHoles_l22
        rw [d1, if_pos (by omega), idx_nat (l := g.Cells) (by omega), bnd_s, idx_s (by omega), bnd_s, getD_cell (by omega)]
        have h1 := hm j hj
        have h2 := mem_some (X := X) (Y := Y) (m := mAt (vmarks g.Cells)) hj
        have h3 := d2 j
        have h4 : (g.Cells.getD j default).Void = true ↔ sb seen j = true := by rw [← h1, h2, h3]
        have h5 : (g.Cells.getD j default).Void = sb seen j := by
          cases ha : (g.Cells.getD j default).Void <;> cases hb : sb seen j <;> simp_all
        rw [h5, if_pos (by simp), w64_succ (by omega)]
      · unfold lidarlaw09_ModelHoles_l22
        rw [d1, if_neg (by omega)]
    rw [e, bnd_s]
  · rw [if_neg hgo]
end Go.Proofs.Ytjhknbpiaikblaa
