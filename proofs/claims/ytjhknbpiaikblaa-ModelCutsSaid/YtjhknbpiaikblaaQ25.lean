/- The statement ModelCuts in plain Lean. -/
import Derived.Test.YtjhknbpiaikblaaN8
import Derived.Test.YtjhknbpiaikblaaQ24
namespace Go.Proofs.Ytjhknbpiaikblaa
open Go Go.RowKit
/-- The known ones of the first cells. -/
def knC (l : List S_api_Cell) : Nat → List Int
  | 0 => []
  | j + 1 => if (l.getD j default).Void = true then knC l j else knC l j ++ [(j : Int)]
theorem knC_succ {l : List S_api_Cell} {j : Nat} : knC l (j + 1) = if (l.getD j default).Void = true then knC l j else knC l j ++ [(j : Int)] := rfl
theorem knC_mem {l : List S_api_Cell} {i : Int} : ∀ {j : Nat}, i ∈ knC l j → 0 ≤ i ∧ i < (j : Int)
  | 0, h => by simp [knC] at h
  | j + 1, h => by
    unfold knC at h
    split at h
    · have := knC_mem h; omega
    · rcases List.mem_append.1 h with h | h
      · have := knC_mem h; omega
      · simp at h; omega
theorem knC_len {l : List S_api_Cell} : ∀ {j : Nat}, (knC l j).length ≤ j
  | 0 => by simp [knC]
  | j + 1 => by
    have := knC_len (l := l) (j := j)
    unfold knC
    split
    · omega
    · simp; omega
def flatG (g : S_api_Grid) (base : Int) : S_api_Grid := ⟨g.Raster, List.replicate g.Cells.length ⟨false, ⟨base, base⟩⟩⟩
theorem flat_at' {g : S_api_Grid} {base i : Int} (h0 : 0 ≤ i) (h1 : i < (g.Cells.length : Int)) : cellD (flatG g base).Cells i = ⟨false, ⟨base, base⟩⟩ := by
  have : i.toNat < g.Cells.length := by omega
  simp [cellD, flatG, this]
theorem lo_flat {g : S_api_Grid} {base i : Int} (h0 : 0 ≤ i) (h1 : i < (g.Cells.length : Int)) : loA (flatG g base).Cells g.Cells i = (cellD g.Cells i).Z.Lo - base := by
  unfold loA; rw [flat_at' h0 h1]
theorem hi_flat {g : S_api_Grid} {base i : Int} (h0 : 0 ≤ i) (h1 : i < (g.Cells.length : Int)) : hiA (flatG g base).Cells g.Cells i = (cellD g.Cells i).Z.Hi - base := by
  unfold hiA; rw [flat_at' h0 h1]
theorem known_flat {g : S_api_Grid} {base : Int} (hv : validP g = true) (hb : coordP base = true) : Known (flatG g base) g (knC g.Cells g.Cells.length) := by
  intro i hi
  have h1 := knC_mem hi
  have c2 := cell_rng hv i h1.1 h1.2
  simp only [coordP, decide_eq_true_eq] at hb
  rw [lo_flat h1.1 h1.2, hi_flat h1.1 h1.2]
  have : (flatG g base).Cells.length = g.Cells.length := by simp [flatG]
  omega
theorem cut_l7 {g : S_api_Grid} {base : Int} (hv : validP g = true) (hb : coordP base = true) :
    lfix (model_Cut_l7 g base) (0, 0, 0) = some (sumA (loA (flatG g base).Cells g.Cells) (knC g.Cells g.Cells.length), sumA (hiA (flatG g base).Cells g.Cells) (knC g.Cells g.Cells.length)) := by
  have hl := validP_cells hv
  have hb' := hb
  simp only [coordP, decide_eq_true_eq] at hb'
  obtain ⟨t, ht, hR⟩ := lfix_ind (B := model_Cut_l7 g base) (fun s => g.Cells.length - s.2.2.toNat)
    (fun s => ∃ j : Nat, j ≤ g.Cells.length ∧ s = (sumA (loA (flatG g base).Cells g.Cells) (knC g.Cells j), sumA (hiA (flatG g base).Cells g.Cells) (knC g.Cells j), (j : Int)))
    (fun t => t = (sumA (loA (flatG g base).Cells g.Cells) (knC g.Cells g.Cells.length), sumA (hiA (flatG g base).Cells g.Cells) (knC g.Cells g.Cells.length))) (by
      rintro s ⟨j, hj, rfl⟩
      unfold model_Cut_l7
      simp only [jn_d]
      by_cases hlt : j < g.Cells.length
      · left
        refine ⟨_, ?_, ⟨j + 1, by omega, rfl⟩, by simp only [Int.toNat_natCast]; omega⟩
        have hi := idx_D (l := g.Cells) (i := (j : Int)) (by omega) (by omega)
        rw [if_pos (by omega), hi, bnd_s, w64_succ (by omega)]
        simp only [Int.toNat_natCast]
        have hk : ∀ i ∈ knC g.Cells j, 0 ≤ i ∧ i < (g.Cells.length : Int) := fun i hi => by have := knC_mem hi; omega
        have hb1 : ∀ i ∈ knC g.Cells j, -536870912 ≤ loA (flatG g base).Cells g.Cells i ∧ loA (flatG g base).Cells g.Cells i ≤ 536870912 := fun i hi => by
          have c := cell_rng hv i (hk i hi).1 (hk i hi).2
          rw [lo_flat (hk i hi).1 (hk i hi).2]; omega
        have hb2 : ∀ i ∈ knC g.Cells j, -536870912 ≤ hiA (flatG g base).Cells g.Cells i ∧ hiA (flatG g base).Cells g.Cells i ≤ 536870912 := fun i hi => by
          have c := cell_rng hv i (hk i hi).1 (hk i hi).2
          rw [hi_flat (hk i hi).1 (hk i hi).2]; omega
        have b1 := sumA_bd _ _ hb1
        have b2 := sumA_bd _ _ hb2
        have b3 := knC_len (l := g.Cells) (j := j)
        have c := cell_rng hv (j : Int) (by omega) (by omega)
        have f1 := lo_flat (g := g) (base := base) (i := (j : Int)) (by omega) (by omega)
        have f2 := hi_flat (g := g) (base := base) (i := (j : Int)) (by omega) (by omega)
        simp only [cellD, Int.toNat_natCast] at c f1 f2
        rw [knC_succ]
        by_cases hvo : (g.Cells.getD j default).Void = true
        · rw [if_pos hvo, if_pos hvo]
        · rw [if_neg hvo, if_neg hvo, sumA_app, sumA_app, f1, f2]
          rw [w64_id (x := (g.Cells.getD j default).Z.Lo - base) (by omega) (by omega), w64_id (x := (g.Cells.getD j default).Z.Hi - base) (by omega) (by omega), w64_id (by omega) (by omega), w64_id (by omega) (by omega)]
      · right
        obtain rfl : j = g.Cells.length := by omega
        rw [if_neg (by omega)]
        exact ⟨_, rfl, rfl⟩)
    (0, 0, 0) ⟨0, by omega, by simp [knC, sumA]⟩
  rw [hR] at ht; exact ht
theorem cut_eq (g : S_api_Grid) (base : Int) : model_Cut g base = some (
    if validP g = true then
      if coordP base = true then (Z32 (g.Raster.Step * g.Raster.Step * sumA (loA (flatG g base).Cells g.Cells) (knC g.Cells g.Cells.length)), Z32 (g.Raster.Step * g.Raster.Step * sumA (hiA (flatG g base).Cells g.Cells) (knC g.Cells g.Cells.length)), 0)
      else (⟨false, [], []⟩, ⟨false, [], []⟩, 2)
    else (⟨false, [], []⟩, ⟨false, [], []⟩, 90)) := by
  unfold model_Cut
  rw [valid_eq, bnd_s]
  by_cases hv : validP g = true
  · rw [if_pos hv, if_pos hv, validCoord_eq, bnd_s]
    by_cases hb : coordP base = true
    · have hl := validP_cells hv
      have hg := goodF_of hl.2.2.2
      have hK := known_flat hv hb
      have b1 := sumA_bd _ _ (fun i hi => (hK i hi).2.1)
      have b2 := sumA_bd _ _ (fun i hi => (hK i hi).2.2)
      have b3 := knC_len (l := g.Cells) (j := g.Cells.length)
      rw [if_pos hb, if_pos hb]
      simp only [jn_d]
      rw [cut_l7 hv hb, bnd_s]
      simp only []
      rw [times_eq hg.st.1 hg.st.2 (by omega) (by omega), bnd_s, times_eq hg.st.1 hg.st.2 (by omega) (by omega), bnd_s]
    · rw [if_neg hb, if_neg hb]
  · rw [if_neg hv, if_neg hv]
theorem cuts_l11 {g : S_api_Grid} {base : Int} (hl : g.Cells.length ≤ 4096) : lfix (lidarlaw09_ModelCuts_l11 g base) ([], [], 0) = some ((flatG g base).Cells, knC g.Cells g.Cells.length) := by
  obtain ⟨t, ht, hR⟩ := lfix_ind (B := lidarlaw09_ModelCuts_l11 g base) (fun s => g.Cells.length - s.2.2.toNat)
    (fun s => ∃ j : Nat, j ≤ g.Cells.length ∧ s = (List.replicate j ⟨false, ⟨base, base⟩⟩, knC g.Cells j, (j : Int)))
    (fun t => t = ((flatG g base).Cells, knC g.Cells g.Cells.length)) (by
      rintro s ⟨j, hj, rfl⟩
      unfold lidarlaw09_ModelCuts_l11
      simp only [jn_d]
      by_cases hlt : j < g.Cells.length
      · left
        refine ⟨_, ?_, ⟨j + 1, by omega, rfl⟩, by simp only [Int.toNat_natCast]; omega⟩
        have hi := idx_D (l := g.Cells) (i := (j : Int)) (by omega) (by omega)
        have b3 := knC_len (l := g.Cells) (j := j)
        rw [if_pos (by omega), show lidarlaw09_known base base = some ⟨false, ⟨base, base⟩⟩ from rfl, bnd_s, gd_t (by rw [List.length_replicate]; omega), hi, bnd_s, w64_succ (by omega), gd_t (by omega)]
        simp only [Int.toNat_natCast]
        rw [List.replicate_succ']
        rw [knC_succ]
        by_cases hvo : (g.Cells.getD j default).Void = true
        · rw [if_pos hvo, if_pos hvo]
        · rw [if_neg hvo, if_neg hvo]
      · right
        obtain rfl : j = g.Cells.length := by omega
        rw [if_neg (by omega)]
        exact ⟨_, rfl, rfl⟩)
    ([], [], 0) ⟨0, by omega, by simp [knC]⟩
  rw [hR] at ht; exact ht
theorem modelCuts_eq (g : S_api_Grid) (base : Int) : lidarlaw09_ModelCuts g base = some true := by
  unfold lidarlaw09_ModelCuts
  simp only [jn_d]
  rw [heavy_eq, bnd_s, first_eq]
  simp only [bnd_s]
  split
  · rfl
  · rw [cut_eq, bnd_s, refValid_eq, bnd_s]
    by_cases hv : validP g = true
    · have hl := validP_cells hv
      have hg := goodF_of hl.2.2.2
      rw [if_pos hv, if_pos hv]
      by_cases hb : coordP base = true
      · have hb' := hb
        simp only [coordP, decide_eq_true_eq] at hb'
        have hK := known_flat hv hb
        have b1 := sumA_bd _ _ (fun i hi => (hK i hi).2.1)
        have b2 := sumA_bd _ _ (fun i hi => (hK i hi).2.2)
        have b3 := knC_len (l := g.Cells) (j := g.Cells.length)
        have n1 := area_bd (s := g.Raster.Step) (z := sumA (loA (flatG g base).Cells g.Cells) (knC g.Cells g.Cells.length)) (N := 2684354559999) hg.st.1 hg.st.2 (by omega) (by omega)
        have n2 := area_bd (s := g.Raster.Step) (z := sumA (hiA (flatG g base).Cells g.Cells) (knC g.Cells g.Cells.length)) (N := 2684354559999) hg.st.1 hg.st.2 (by omega) (by omega)
        rw [if_pos hb, if_neg (by omega), if_neg (by rw [decide_eq_true_eq]; omega), cuts_l11 (by omega), bnd_s]
        have hr := refAmount_eq (a := flatG g base) (b := g) (p := knC g.Cells g.Cells.length) (by omega) hK hg.st.1 hg.st.2
        have hr' : lidarref09_Amount (⟨g.Raster, (flatG g base).Cells⟩ : S_api_Grid) g (knC g.Cells g.Cells.length) = _ := hr
        simp only []
        rw [hr', bnd_s]
        have e1 : (flatG g base).Raster = g.Raster := rfl
        rw [e1, if_pos trivial, same_Q _ (by have := digs (z := g.Raster.Step * g.Raster.Step * sumA (loA (flatG g base).Cells g.Cells) (knC g.Cells g.Cells.length)) (by omega) (by omega); omega), bnd_s, if_pos rfl, same_Q _ (by have := digs (z := g.Raster.Step * g.Raster.Step * sumA (hiA (flatG g base).Cells g.Cells) (knC g.Cells g.Cells.length)) (by omega) (by omega); omega), bnd_s, if_pos rfl]
      · rw [if_neg hb]
        have hb' : ¬ (-268435456 ≤ base ∧ base ≤ 268435456) := by simpa [coordP] using hb
        by_cases h1 : base < -268435456
        · rw [if_pos h1]; rfl
        · rw [if_neg h1, if_pos (by rw [decide_eq_true_eq]; omega)]; rfl
    · rw [if_neg hv, if_neg hv]; rfl
end Go.Proofs.Ytjhknbpiaikblaa
