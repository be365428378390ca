/- The statement ModelRegions in plain Lean. -/
import Derived.Test.YtjhknbpiaikblaaT8
import Derived.Test.YtjhknbpiaikblaaT6
import Derived.Test.YtjhknbpiaikblaaS28
import Derived.Test.YtjhknbpiaikblaaM15
namespace Go.Proofs.Ytjhknbpiaikblaa
open Go Go.RowKit
theorem sameInts_refl (l : List Int) (h9 : l.length ≤ 1000000) : lidarlaw09_sameInts l l = some true := by
  unfold lidarlaw09_sameInts
  rw [if_pos rfl]
  simp only [jn_d]
  have e : lfix (lidarlaw09_sameInts_l4 l l) 0 = some (.inl ()) := by
    refine lfix_same (β := Unit) l.length h9 _ (fun j hj => ?_) ?_
    · unfold lidarlaw09_sameInts_l4
      rw [if_pos (by omega), idx_nat hj, bnd_s, bnd_s, if_pos rfl, w64_succ (by omega)]
    · unfold lidarlaw09_sameInts_l4
      rw [if_neg (by omega)]
  rw [e, bnd_s]
theorem refState_eq (a b : S_api_Cell) : lidarref09_State a b = some (stateP a b) := by
  unfold lidarref09_State jn stateP; grind
theorem state_vals (a b : S_api_Cell) : stateP a b = 2 ∨ stateP a b = 1 ∨ stateP a b = -1 ∨ stateP a b = 0 := by
  unfold stateP; grind
section
variable {a b : S_api_Grid} {X Y : Nat}
theorem changed_l3 (hl : a.Cells.length = b.Cells.length) (h9 : a.Cells.length ≤ 4096) : lfix (lidarref09_Changed_l3 a b) (List.replicate a.Cells.length 0, 0) = some (rmarks a.Cells b.Cells) := by
  have hrl : (rmarks a.Cells b.Cells).length = a.Cells.length := by rw [rmarks, List.length_map, states_len hl]
  obtain ⟨t, ht, hR⟩ := lfix_ind (B := lidarref09_Changed_l3 a b) (fun s => a.Cells.length - s.2.toNat)
    (fun s => ∃ j : Nat, j ≤ a.Cells.length ∧ s = ((rmarks a.Cells b.Cells).take j ++ List.replicate (a.Cells.length - j) 0, (j : Int)))
    (fun t => t = rmarks a.Cells b.Cells) (by
      rintro s ⟨j, hj, rfl⟩
      unfold lidarref09_Changed_l3
      have hll : ((rmarks a.Cells b.Cells).take j ++ List.replicate (a.Cells.length - j) 0).length = a.Cells.length := by rw [List.length_append, List.length_take, hrl, List.length_replicate]; omega
      simp only [jn_d]
      rw [hll]
      by_cases hlt : j < a.Cells.length
      · left
        refine ⟨_, ?_, ⟨j + 1, by omega, rfl⟩, by simp only [Int.toNat_natCast]; omega⟩
        rw [if_pos (by omega), idx_nat hlt, bnd_s, idx_nat (by omega), bnd_s, refState_eq, bnd_s, idx_nat (by rw [hll]; exact hlt), bnd_s, w64_succ (by omega), setI_nat]
        have e : List.replicate (a.Cells.length - j) (0 : Int) = 0 :: List.replicate (a.Cells.length - (j + 1)) 0 := by
          rw [show a.Cells.length - j = (a.Cells.length - (j + 1)) + 1 by omega, List.replicate_succ]
        have e2 : (rmarks a.Cells b.Cells).take (j + 1) = (rmarks a.Cells b.Cells).take j ++ [known2 (stateP a.Cells[j] (b.Cells[j]'(by omega)))] := by
          rw [List.take_succ_eq_append_getElem (by omega)]; simp [rmarks, statesP]
        have hjt : ((rmarks a.Cells b.Cells).take j).length = j := by rw [List.length_take]; omega
        rw [e, e2]
        rcases state_vals a.Cells[j] (b.Cells[j]'(by omega)) with h | h | h | h
        · rw [h, if_neg (by decide), if_neg (by decide)]; simp [known2]
        · rw [h, if_pos rfl, if_pos trivial, List.set_append_right _ _ (by omega), hjt]; simp [known2]
        · rw [h, if_neg (by decide), if_pos (by decide), List.set_append_right _ _ (by omega), hjt]; simp [known2]
        · rw [h, if_neg (by decide), if_neg (by decide)]; simp [known2]
      · right
        obtain rfl : j = a.Cells.length := by omega
        rw [if_neg (by omega)]
        exact ⟨_, rfl, by rw [List.take_of_length_le (by omega)]; simp⟩)
    (List.replicate a.Cells.length 0, 0) ⟨0, by omega, by simp⟩
  rw [hR] at ht; exact ht
theorem changed_eq' {few : Int} (hp : pairP a b = 0) (hX : a.Raster.NX = (X : Int)) (hY : a.Raster.NY = (Y : Int)) :
    lidarref09_Changed a b few = some ((keptTo X Y (mAt (rmarks a.Cells b.Cells)) few (firsts X Y (mAt (rmarks a.Cells b.Cells))).length).map (fun k => nInts (groupAt X Y (mAt (rmarks a.Cells b.Cells)) k)), (keptTo X Y (mAt (rmarks a.Cells b.Cells)) few (firsts X Y (mAt (rmarks a.Cells b.Cells))).length).map (fun k => mAt (rmarks a.Cells b.Cells) ((firsts X Y (mAt (rmarks a.Cells b.Cells))).getD k 0))) := by
  have h3 := pairP_zero hp
  have hl := validP_cells h3.1
  have hll := pairP_len hp
  have hg := goodF_of hl.2.2.2
  have h1 : 1 ≤ X ∧ X ≤ 64 := by have := hg.nx; omega
  have h2 : 1 ≤ Y ∧ Y ≤ 64 := by have := hg.ny; omega
  have hn : a.Cells.length = X * Y := by have := hl.1; rw [hX, hY] at this; exact_mod_cast this
  have hml : (rmarks a.Cells b.Cells).length = X * Y := by rw [rmarks, List.length_map, states_len hll.1, hn]
  have hgr := ref_groups_eq (f := a.Raster) (Y := Y) hX h1 hml (by omega)
  unfold lidarref09_Changed
  simp only [jn_d, Int.toNat_natCast]
  rw [gd_t ⟨by omega, by omega⟩, changed_l3 hll.1 hll.2, bnd_s, hgr, bnd_s]
  generalize hm : mAt (rmarks a.Cells b.Cells) = m
  have hfl := firsts_len (X := X) (Y := Y) (m := m)
  obtain ⟨t, ht, hR⟩ := lfix_ind (B := lidarref09_Changed_l12 (comps X Y m) few (rmarks a.Cells b.Cells)) (fun s => (firsts X Y m).length - s.2.2.toNat)
    (fun s => ∃ j : Nat, j ≤ (firsts X Y m).length ∧ s = ((keptTo X Y m few j).map (fun k => nInts (groupAt X Y m k)), (keptTo X Y m few j).map (fun k => m ((firsts X Y m).getD k 0)), (j : Int)))
    (fun t => t = ((keptTo X Y m few (firsts X Y m).length).map (fun k => nInts (groupAt X Y m k)), (keptTo X Y m few (firsts X Y m).length).map (fun k => m ((firsts X Y m).getD k 0)))) (by
      rintro s ⟨j, hj, rfl⟩
      unfold lidarref09_Changed_l12
      simp only [jn_d, comps_len]
      by_cases hlt : j < (firsts X Y m).length
      · left
        refine ⟨_, ?_, ⟨j + 1, by omega, rfl⟩, by simp only [Int.toNat_natCast]; omega⟩
        have hkl := keptTo_len (X := X) (Y := Y) (m := m) (few := few) (j := j)
        have hfm := mem_firsts.1 (firsts_at hlt)
        rw [if_pos (by omega), comps_idx' hlt]
        simp only [bnd_s]
        rw [w64_succ (by omega), keptTo_succ, List.map_append, List.map_append, nInts_len]
        by_cases hk : few ≤ ((groupAt X Y m j).length : Int)
        · rw [if_pos hk, if_pos (show keepG X Y m few j = true from decide_eq_true hk), gd_t (by rw [List.length_map]; omega), head_idx hlt, bnd_s, idx_m (by rw [hml]; exact hfm.1), bnd_s, gd_t (by rw [List.length_map]; omega), hm]
          rfl
        · rw [if_neg hk, if_neg (show ¬ keepG X Y m few j = true from by unfold keepG; rw [decide_eq_true_eq]; exact hk)]
          simp
      · right
        obtain rfl : j = (firsts X Y m).length := by omega
        rw [if_neg (by omega)]
        exact ⟨_, rfl, rfl⟩)
    ([], [], 0) ⟨0, by omega, by simp [keptTo]⟩
  rw [ht, bnd_s, hR]
theorem amt_digs {m : Nat → Int} (hp : pairP a b = 0) (hn : a.Cells.length = X * Y) (h9 : X * Y ≤ 4096) {k : Nat} (hk : k < (firsts X Y m).length) :
    (dig 65536 (a.Raster.Step * a.Raster.Step * sumA (loA a.Cells b.Cells) (nInts (groupAt X Y m k))).natAbs).length ≤ 512 ∧ (dig 65536 (a.Raster.Step * a.Raster.Step * sumA (hiA a.Cells b.Cells) (nInts (groupAt X Y m k))).natAbs).length ≤ 512 := by
  have h3 := pairP_zero hp
  have hg := goodF_of (validP_cells h3.1).2.2.2
  have hK := known_group (m := m) hp hn hk
  have hgl := group_len (X := X) (Y := Y) (m := m) (k := k)
  have b1 := sumA_bd (loA a.Cells b.Cells) (nInts (groupAt X Y m k)) (fun i hi => (hK i hi).2.1)
  have b2 := sumA_bd (hiA a.Cells b.Cells) (nInts (groupAt X Y m k)) (fun i hi => (hK i hi).2.2)
  rw [nInts_len] at b1 b2
  have n1 := area_bd (s := a.Raster.Step) (z := sumA (loA a.Cells b.Cells) (nInts (groupAt X Y m k))) (N := 2684354559999) hg.st.1 hg.st.2 (by omega) (by omega)
  have n2 := area_bd (s := a.Raster.Step) (z := sumA (hiA a.Cells b.Cells) (nInts (groupAt X Y m k))) (N := 2684354559999) hg.st.1 hg.st.2 (by omega) (by omega)
  have d1 := digs (z := a.Raster.Step * a.Raster.Step * sumA (loA a.Cells b.Cells) (nInts (groupAt X Y m k))) (by omega) (by omega)
  have d2 := digs (z := a.Raster.Step * a.Raster.Step * sumA (hiA a.Cells b.Cells) (nInts (groupAt X Y m k))) (by omega) (by omega)
  omega
theorem kept_at {m : Nat → Int} {few : Int} {j : Nat} (h : j < (keptTo X Y m few (firsts X Y m).length).length) : (keptTo X Y m few (firsts X Y m).length)[j] < (firsts X Y m).length := by
  have := List.getElem_mem h
  simp only [keptTo, List.mem_filter, List.mem_range] at this
  exact this.1
theorem map_idx {α : Type} {l : List Nat} {f : Nat → α} {j : Nat} (h : j < l.length) : idx (l.map f) (j : Int) = some (f l[j]) := by
  rw [idx_nat (by rw [List.length_map]; exact h)]; simp
theorem refRegions_eq {few : Int} (hp : pairP a b = 0) (hf : 1 ≤ few) (hX : a.Raster.NX = (X : Int)) (hY : a.Raster.NY = (Y : Int)) :
    lidarref09_Regions a b few = some ((keptTo X Y (mAt (rmarks a.Cells b.Cells)) few (firsts X Y (mAt (rmarks a.Cells b.Cells))).length).map (regAt a b X Y (mAt (rmarks a.Cells b.Cells))), 0) := by
  have h3 := pairP_zero hp
  have hl := validP_cells h3.1
  have hg := goodF_of hl.2.2.2
  have hn : a.Cells.length = X * Y := by have := hl.1; rw [hX, hY] at this; exact_mod_cast this
  unfold lidarref09_Regions
  rw [refPair_eq, bnd_s, if_pos hp, if_neg (by omega), changed_eq' hp hX hY, bnd_s]
  generalize hm : mAt (rmarks a.Cells b.Cells) = m
  have hfl := firsts_len (X := X) (Y := Y) (m := m)
  have hkl := keptTo_len (X := X) (Y := Y) (m := m) (few := few) (j := (firsts X Y m).length)
  simp only [jn_d]
  rw [lfix_build (keptTo X Y m few (firsts X Y m).length).length (fun j => regAt a b X Y m ((keptTo X Y m few (firsts X Y m).length).getD j 0))]
  · rw [bnd_s]
    congr 2
    apply List.ext_getElem
    · simp
    · intro j h1 h2
      have h1' : j < (keptTo X Y m few (firsts X Y m).length).length := by simpa using h1
      simp [h1']
  · intro j hj acc hacc
    have hk := kept_at hj
    have hgl := group_len (X := X) (Y := Y) (m := m) (k := (keptTo X Y m few (firsts X Y m).length)[j])
    have hd := amt_digs (m := m) hp hn (by omega) hk
    unfold lidarref09_Regions_l9
    simp only [jn_d, List.length_map]
    rw [if_pos (by omega), map_idx hj, bnd_s, refAmount_eq (by rw [nInts_len]; omega) (known_group hp hn hk) hg.st.1 hg.st.2, bnd_s]
    have o1 := out_Q _ hd.1
    have o2 := out_Q _ hd.2
    simp only [QZ] at o1 o2 ⊢
    rw [o1, bnd_s, o2, bnd_s, map_idx hj, bnd_s, bnd_s, gd_t (by omega), w64_succ (by omega)]
    have e : (keptTo X Y m few (firsts X Y m).length).getD j 0 = (keptTo X Y m few (firsts X Y m).length)[j] := by simp [hj]
    rw [e]; rfl
  · intro acc hacc
    unfold lidarref09_Regions_l9
    simp only [List.length_map]
    rw [if_neg (by omega)]
theorem refRegions_no {few : Int} (hp : pairP a b ≠ 0) : lidarref09_Regions a b few = some ([], pairP a b) := by
  unfold lidarref09_Regions
  rw [refPair_eq, bnd_s, if_neg hp]
theorem refRegions_few {few : Int} (hp : pairP a b = 0) (hf : few < 1) : lidarref09_Regions a b few = some ([], 2) := by
  unfold lidarref09_Regions
  rw [refPair_eq, bnd_s, if_pos hp, if_pos hf]
theorem law_regions {few : Int} (hp : pairP a b = 0) (hX : a.Raster.NX = (X : Int)) (hY : a.Raster.NY = (Y : Int)) (m : Nat → Int) (q : List Int) :
    lfix (lidarlaw09_ModelRegions_l11 ((keptTo X Y m few (firsts X Y m).length).map (regAt a b X Y m), 0) ((keptTo X Y m few (firsts X Y m).length).map (regAt a b X Y m), 0) ((keptTo X Y m few (firsts X Y m).length).map (fun k => nInts (groupAt X Y m k)), q) a b) 0 = some (.inl ()) := by
  have h3 := pairP_zero hp
  have hl := validP_cells h3.1
  have hg := goodF_of hl.2.2.2
  have hn : a.Cells.length = X * Y := by have := hl.1; rw [hX, hY] at this; exact_mod_cast this
  have hfl := firsts_len (X := X) (Y := Y) (m := m)
  have hkl := keptTo_len (X := X) (Y := Y) (m := m) (few := few) (j := (firsts X Y m).length)
  refine lfix_same (β := Unit) (keptTo X Y m few (firsts X Y m).length).length (by omega) _ (fun j hj => ?_) ?_
  · have hk := kept_at hj
    have hgl := group_len (X := X) (Y := Y) (m := m) (k := (keptTo X Y m few (firsts X Y m).length)[j])
    have hd := amt_digs (m := m) hp hn (by omega) hk
    unfold lidarlaw09_ModelRegions_l11
    simp only [jn_d, List.length_map]
    rw [if_pos (by omega), map_idx hj, bnd_s, refAmount_eq (by rw [nInts_len]; omega) (known_group hp hn hk) hg.st.1 hg.st.2, bnd_s, map_idx hj]
    have o1 := same_Q _ hd.1
    have o2 := same_Q _ hd.2
    simp only [bnd_s, regAt]
    rw [if_pos trivial, sameInts_refl _ (by rw [nInts_len]; omega), bnd_s, if_pos rfl]
    simp only [QZ] at o1 o2 ⊢
    rw [o1, bnd_s, if_pos rfl, o2, bnd_s, if_neg (by simp), w64_succ (by omega)]
  · unfold lidarlaw09_ModelRegions_l11
    simp only [jn_d, List.length_map]
    rw [if_neg (by omega)]
end
theorem modelRegions_eq (a b : S_api_Grid) (few : Int) : lidarlaw09_ModelRegions a b few = some true := by
  unfold lidarlaw09_ModelRegions
  rw [heavy_eq, heavy_eq, first_eq]
  simp only [bnd_s, jn_d]
  split
  · rfl
  · split
    · rfl
    · by_cases hp : pairP a b = 0
      · have h3 := pairP_zero hp
        have hl := validP_cells h3.1
        have hg := goodF_of hl.2.2.2
        obtain ⟨X, hX⟩ : ∃ X : Nat, a.Raster.NX = (X : Int) := ⟨a.Raster.NX.toNat, by have := hg.nx; omega⟩
        obtain ⟨Y, hY⟩ : ∃ Y : Nat, a.Raster.NY = (Y : Int) := ⟨a.Raster.NY.toNat, by have := hg.ny; omega⟩
        by_cases hf : few < 1
        · rw [regions_few hp hf, refRegions_few hp hf]
          simp only [bnd_s]
          rw [if_pos trivial, if_neg (by simp), if_neg (by decide)]
        · rw [regions_eq hp (by omega) hX hY, refRegions_eq hp (by omega) hX hY, changed_eq' hp hX hY]
          simp only [bnd_s]
          rw [if_pos trivial, if_neg (by simp), if_pos trivial, law_regions hp hX hY, bnd_s]
      · rw [regions_no hp, refRegions_no hp]
        simp only [bnd_s]
        rw [if_pos trivial, if_neg (by simp), if_neg hp]
end Go.Proofs.Ytjhknbpiaikblaa
