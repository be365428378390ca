/- The statement ModelVoids in plain Lean. -/
import Derived.Test.YtjhknbpiaikblaaT5
import Derived.Test.YtjhknbpiaikblaaT6
namespace Go.Proofs.Ytjhknbpiaikblaa
open Go Go.RowKit
theorem sameInts_refl (l : List Int) (h9 : l.length ≤ 1000000) : lidarlaw09_sameInts l l = some true := by
  unfold lidarlaw09_sameInts
  rw [if_pos rfl]
  simp only [jn_d]
  have e : lfix (lidarlaw09_sameInts_l4 l l) 0 = some (.inl ()) := by
    refine lfix_same (β := Unit) l.length h9 _ (fun j hj => ?_) ?_
    · unfold lidarlaw09_sameInts_l4
      rw [if_pos (by omega), idx_nat hj, bnd_s, bnd_s, if_pos rfl, w64_succ (by omega)]
    · unfold lidarlaw09_sameInts_l4
      rw [if_neg (by omega)]
  rw [e, bnd_s]
section
variable {g : S_api_Grid} {X Y : Nat}
theorem rvoids_l6 (h9 : g.Cells.length ≤ 4096) : lfix (lidarref09_Voids_l6 g) (List.replicate g.Cells.length 0, 0) = some (vmarks g.Cells) := by
  obtain ⟨t, ht, hR⟩ := lfix_ind (B := lidarref09_Voids_l6 g) (fun s => g.Cells.length - s.2.toNat)
    (fun s => ∃ j : Nat, j ≤ g.Cells.length ∧ s = ((vmarks g.Cells).take j ++ List.replicate (g.Cells.length - j) 0, (j : Int)))
    (fun t => t = vmarks g.Cells) (by
      rintro s ⟨j, hj, rfl⟩
      unfold lidarref09_Voids_l6
      have hvl : (vmarks g.Cells).length = g.Cells.length := by simp [vmarks]
      have hll : ((vmarks g.Cells).take j ++ List.replicate (g.Cells.length - j) 0).length = g.Cells.length := by simp [hvl]; omega
      simp only [jn_d]
      rw [hll]
      by_cases hlt : j < g.Cells.length
      · left
        refine ⟨_, ?_, ⟨j + 1, by omega, rfl⟩, by simp only [Int.toNat_natCast]; omega⟩
        rw [if_pos (by omega), idx_nat hlt, bnd_s, idx_nat (by rw [hll]; exact hlt), bnd_s, w64_succ (by omega), setI_nat]
        have e : List.replicate (g.Cells.length - j) (0 : Int) = 0 :: List.replicate (g.Cells.length - (j + 1)) 0 := by
          rw [show g.Cells.length - j = (g.Cells.length - (j + 1)) + 1 by omega, List.replicate_succ]
        have e2 : (vmarks g.Cells).take (j + 1) = (vmarks g.Cells).take j ++ [if g.Cells[j].Void = true then 1 else 0] := by
          rw [List.take_succ_eq_append_getElem (by omega)]; simp [vmarks]
        have hjt : ((vmarks g.Cells).take j).length = j := by rw [List.length_take]; omega
        rw [e, e2]
        by_cases hv : g.Cells[j].Void = true
        · rw [if_pos hv, if_pos hv, List.set_append_right _ _ (by omega), hjt]
          simp
        · rw [if_neg hv, if_neg hv]
          simp
      · right
        obtain rfl : j = g.Cells.length := by omega
        rw [if_neg (by omega)]
        exact ⟨_, rfl, by rw [List.take_of_length_le (by omega)]; simp⟩)
    (List.replicate g.Cells.length 0, 0) ⟨0, by omega, by simp⟩
  rw [hR] at ht; exact ht
theorem rvoids_l17 {m : Nat → Int} (hX : g.Raster.NX = (X : Int)) (hY : g.Raster.NY = (Y : Int)) (h1 : 1 ≤ X ∧ X ≤ 64) (h2 : 1 ≤ Y ∧ Y ≤ 64) {k : Nat} (hk : k < (firsts X Y m).length) (s5 : List S_api_Hole × Int) (hs5 : s5.2 = (k : Int)) :
    lfix (lidarref09_Voids_l17 (comps X Y m) s5 g) (false, 0) = some ((groupAt X Y m k).any (edgeN X Y)) := by
  have hn : X * Y ≤ 64 * 64 := Nat.mul_le_mul h1.2 h2.2
  have hgl := group_len (X := X) (Y := Y) (m := m) (k := k)
  obtain ⟨t, ht, hR⟩ := lfix_ind (B := lidarref09_Voids_l17 (comps X Y m) s5 g) (fun s => (groupAt X Y m k).length - s.2.toNat)
    (fun s => ∃ j : Nat, j ≤ (groupAt X Y m k).length ∧ s = (((groupAt X Y m k).take j).any (edgeN X Y), (j : Int)))
    (fun t => t = (groupAt X Y m k).any (edgeN X Y)) (by
      rintro s ⟨j, hj, rfl⟩
      unfold lidarref09_Voids_l17
      simp only [jn_d, hs5]
      rw [comps_idx hk]
      simp only [bnd_s, nInts_len]
      by_cases hlt : j < (groupAt X Y m k).length
      · left
        refine ⟨_, ?_, ⟨j + 1, by omega, rfl⟩, by simp only [Int.toNat_natCast]; omega⟩
        have hb := group_lt hk (List.getElem_mem hlt)
        rw [if_pos (by omega), idx_nInts hlt]
        simp only [bnd_s]
        rw [gd_t (by omega), gd_t (by omega), w64_succ (by omega), List.take_succ_eq_append_getElem hlt, List.any_append]
        generalize (groupAt X Y m k)[j] = i at hb
        have e1 : Int.tdiv (i : Int) g.Raster.NX = ((i / X : Nat) : Int) := by rw [hX, Int.ofNat_tdiv]
        have e2 : Int.tmod (i : Int) g.Raster.NX = ((i % X : Nat) : Int) := by rw [hX, Int.ofNat_tmod]
        have hd : i / X ≤ i := Nat.div_le_self _ _
        rw [e1, e2, hX, hY, w64_nat (by omega), w64_id (x := (X : Int) - 1) (by omega) (by omega), w64_id (x := (Y : Int) - 1) (by omega) (by omega)]
        have hed : edgeN X Y i = (decide (i % X = 0) || decide (i % X + 1 = X) || decide (i / X = 0) || decide (i / X + 1 = Y)) := by
          unfold edgeN
          cases decide (i % X = 0) <;> cases decide (i / X = 0) <;> cases decide (i % X + 1 = X) <;> rfl
        simp only [List.any_cons, List.any_nil, Bool.or_false]
        rw [hed]
        generalize i / X = D
        generalize i % X = R
        by_cases hb : ((groupAt X Y m k).take j).any (edgeN X Y) = true
        · rw [if_pos hb, hb]; rfl
        · have hbf : ((groupAt X Y m k).take j).any (edgeN X Y) = false := by simpa using hb
          rw [if_neg hb, hbf, Bool.false_or]
          by_cases a : R = 0
          · rw [if_pos (by omega)]; simp [a]
          · rw [if_neg (by omega)]
            by_cases d : R + 1 = X
            · rw [if_pos (by omega)]; simp [d]
            · rw [if_neg (by omega)]
              by_cases b : D = 0
              · rw [if_pos (by omega)]; simp [b]
              · rw [if_neg (by omega)]
                simp only [a, b, d, decide_false, Bool.false_or]
                have : decide (((D : Nat) : Int) = (Y : Int) - 1) = decide (D + 1 = Y) := by congr 1; exact propext (by omega)
                rw [this]
      · right
        obtain rfl : j = (groupAt X Y m k).length := by omega
        rw [if_neg (by omega)]
        exact ⟨_, rfl, by rw [List.take_length]⟩)
    (false, 0) ⟨0, by omega, by simp⟩
  rw [hR] at ht; exact ht
theorem rvoids_eq (hv : validP g = true) (hX : g.Raster.NX = (X : Int)) (hY : g.Raster.NY = (Y : Int)) : lidarref09_Voids g = some (holes X Y (mAt (vmarks g.Cells)), 0) := by
  have hl := validP_cells hv
  have hg := goodF_of hl.2.2.2
  have h1 : 1 ≤ X ∧ X ≤ 64 := by have := hg.nx; omega
  have h2 : 1 ≤ Y ∧ Y ≤ 64 := by have := hg.ny; omega
  have hn : g.Cells.length = X * Y := by have := hl.1; rw [hX, hY] at this; exact_mod_cast this
  unfold lidarref09_Voids
  rw [refValid_eq, bnd_s, if_pos hv]
  simp only [jn_d, Int.toNat_natCast]
  rw [gd_t ⟨by omega, by omega⟩, rvoids_l6 hl.2.2.1, bnd_s, ref_groups_eq (Y := Y) hX h1 (by simp [vmarks, hn]) (by omega), bnd_s]
  have hfl := firsts_len (X := X) (Y := Y) (m := mAt (vmarks g.Cells))
  rw [lfix_build (firsts X Y (mAt (vmarks g.Cells))).length (fun k => hole X Y k (groupAt X Y (mAt (vmarks g.Cells)) k))]
  · rw [bnd_s]; rfl
  · intro j hj acc hacc
    unfold lidarref09_Voids_l13
    simp only [jn_d, comps_len]
    rw [if_pos (by omega), comps_idx hj, bnd_s, rvoids_l17 hX hY h1 h2 hj _ rfl, bnd_s, gd_t (by omega), w64_succ (by omega)]
    rfl
  · intro acc hacc
    unfold lidarref09_Voids_l13
    simp only [comps_len]
    rw [if_neg (by omega)]
theorem holes_len {m : Nat → Int} : (holes X Y m).length = (firsts X Y m).length := by simp [holes]
theorem holes_idx {m : Nat → Int} {k : Nat} (h : k < (firsts X Y m).length) : idx (holes X Y m) (k : Int) = some (hole X Y k (groupAt X Y m k)) := by
  rw [idx_nat (by rw [holes_len]; exact h)]; simp [holes]
end
theorem modelVoids_eq (g : S_api_Grid) : lidarlaw09_ModelVoids g = some true := by
  unfold lidarlaw09_ModelVoids
  rw [heavy_eq, bnd_s, first_eq]
  simp only [bnd_s, jn_d]
  split
  · rfl
  · by_cases hv : validP g = true
    · have hl := validP_cells hv
      have hg := goodF_of hl.2.2.2
      obtain ⟨X, hX⟩ : ∃ X : Nat, g.Raster.NX = (X : Int) := ⟨g.Raster.NX.toNat, by have := hg.nx; omega⟩
      obtain ⟨Y, hY⟩ : ∃ Y : Nat, g.Raster.NY = (Y : Int) := ⟨g.Raster.NY.toNat, by have := hg.ny; omega⟩
      have hn : g.Cells.length = X * Y := by have := hl.1; rw [hX, hY] at this; exact_mod_cast this
      rw [voids_eq hv hX hY, rvoids_eq hv hX hY, valid_eq, refValid_eq]
      simp only [bnd_s]
      rw [if_pos (by simp), if_pos trivial, if_neg (by simp)]
      have hfl := firsts_len (X := X) (Y := Y) (m := mAt (vmarks g.Cells))
      have e : lfix (lidarlaw09_ModelVoids_l8 (holes X Y (mAt (vmarks g.Cells)), 0) (holes X Y (mAt (vmarks g.Cells)), 0)) 0 = some (.inl ()) := by
        refine lfix_same (β := Unit) (holes X Y (mAt (vmarks g.Cells))).length (by rw [holes_len]; omega) _ (fun j hj => ?_) ?_
        · rw [holes_len] at hj
          have hgl := group_len (X := X) (Y := Y) (m := mAt (vmarks g.Cells)) (k := j)
          unfold lidarlaw09_ModelVoids_l8
          simp only [jn_d]
          rw [if_pos (by rw [holes_len]; omega), holes_idx hj]
          simp only [bnd_s, hole]
          rw [if_pos trivial, if_pos (by simp), sameInts_refl _ (by rw [nInts_len]; omega), bnd_s, if_neg (by simp), w64_succ (by omega)]
        · unfold lidarlaw09_ModelVoids_l8
          simp only [jn_d]
          rw [if_neg (by omega)]
      rw [e, bnd_s]
    · have e1 : model_Voids g = some ([], 90) := by
        unfold model_Voids
        rw [valid_eq, bnd_s, if_neg hv]
      have e2 : lidarref09_Voids g = some ([], 90) := by
        unfold lidarref09_Voids
        rw [refValid_eq, bnd_s, if_neg hv]
      rw [e1, e2, valid_eq, refValid_eq]
      simp only [bnd_s]
      rw [if_pos (by simp), if_pos trivial, if_neg (by simp)]
      have e : lfix (lidarlaw09_ModelVoids_l8 ([], 90) ([], 90)) 0 = some (.inl ()) := by
        rw [lfix_eq]
        have : lidarlaw09_ModelVoids_l8 ([], 90) ([], 90) 0 = some (.inr (.inl ())) := by
          unfold lidarlaw09_ModelVoids_l8
          rfl
        rw [this]
      rw [e, bnd_s]
end Go.Proofs.Ytjhknbpiaikblaa
