/- The statement ModelAmounts in plain Lean. -/
import Derived.Test.YtjhknbpiaikblaaP23
namespace Go.Proofs.Ytjhknbpiaikblaa
open Go Go.RowKit
theorem first_eq : lidarlaw09_first = some true := rfl
theorem cell_rng {g : S_api_Grid} (h : validP g = true) (i : Int) (h0 : 0 ≤ i) (h1 : i < (g.Cells.length : Int)) : -268435456 ≤ (cellD g.Cells i).Z.Lo ∧ (cellD g.Cells i).Z.Lo ≤ 268435456 ∧ -268435456 ≤ (cellD g.Cells i).Z.Hi ∧ (cellD g.Cells i).Z.Hi ≤ 268435456 := by
  have hn : i.toNat < g.Cells.length := by omega
  have hc : cellD g.Cells i = g.Cells[i.toNat] := by simp [cellD, hn]
  rw [hc]
  simp only [validP, Bool.and_eq_true, List.all_eq_true] at h
  have := h.2 _ (List.getElem_mem hn)
  simp only [cellP, coordP] at this
  grind
theorem known_of {a b : S_api_Grid} {p : List Int} (hp : pairP a b = 0) (hall : p.all (inN a.Cells.length) = true) : Known a b p := by
  intro i hi
  have h1 := List.all_eq_true.1 hall i hi
  simp only [inN, decide_eq_true_eq] at h1
  have h2 := pairP_len hp
  have h3 := pairP_zero hp
  have c1 := cell_rng h3.1 i h1.1 h1.2
  have c2 := cell_rng h3.2.1 i h1.1 (by omega)
  simp only [loA, hiA]
  omega
/-- What the program's Amount returns. -/
theorem modelAmount_eq {a b : S_api_Grid} {p : List Int} (h9 : p.length ≤ 5000) : model_Amount a b p = some (
    if pairP a b = 0 then
      if p.all (inN a.Cells.length) = true then
        if freeP a.Cells b.Cells (List.replicate a.Cells.length false) p = true then (Z32 (a.Raster.Step * a.Raster.Step * sumA (loA a.Cells b.Cells) p), Z32 (a.Raster.Step * a.Raster.Step * sumA (hiA a.Cells b.Cells) p), 0)
        else (⟨false, [], []⟩, ⟨false, [], []⟩, 2)
      else (⟨false, [], []⟩, ⟨false, [], []⟩, 92)
    else (⟨false, [], []⟩, ⟨false, [], []⟩, pairP a b)) := by
  unfold model_Amount
  rw [pair_eq, bnd_s]
  by_cases hp : pairP a b = 0
  · have hl := pairP_len hp
    have h3 := pairP_zero hp
    have hg := goodF_of (validP_cells h3.1).2.2.2
    rw [if_pos hp, if_pos hp]
    simp only [jn_d]
    rw [amt_l5 (by omega) hl.2, bnd_s]
    by_cases hall : p.all (inN a.Cells.length) = true
    · rw [if_pos hall, if_pos hall]
      simp only [Int.toNat_natCast]
      rw [gd_t ⟨by omega, by omega⟩, amt_l12 (by omega) hall hl.1, bnd_s]
      by_cases hf : freeP a.Cells b.Cells (List.replicate a.Cells.length false) p = true
      · rw [if_pos hf, if_pos hf]
        simp only []
        rw [amount_eq h9 (known_of hp hall) hg.st.1 hg.st.2, bnd_s]
      · rw [if_neg hf, if_neg hf]
    · rw [if_neg hall, if_neg hall]
  · rw [if_neg hp, if_neg hp]
theorem modelAmounts_eq (a b : S_api_Grid) (p : List Int) : lidarlaw09_ModelAmounts a b p = some true := by
  unfold lidarlaw09_ModelAmounts
  simp only [jn_d]
  rw [heavy_eq, heavy_eq, bnd_s, bnd_s, first_eq]
  simp only [bnd_s]
  split
  · rw [if_pos trivial]
  · split
    · rw [if_pos trivial]
    · by_cases h9 : 1000 < (p.length : Int)
      · rw [if_pos (by simpa using h9)]
      · rw [if_neg (by simpa using h9), modelAmount_eq (by omega), bnd_s, refPair_eq, bnd_s]
        by_cases hp : pairP a b = 0
        · have hl := pairP_len hp
          have h3 := pairP_zero hp
          have hg := goodF_of (validP_cells h3.1).2.2.2
          rw [law_l6 (by omega) _ hp, bnd_s, if_pos hp]
          by_cases hall : p.all (inN a.Cells.length) = true
          · rw [if_pos hall, if_pos hall, if_pos rfl]
            simp only [Int.toNat_natCast]
            rw [gd_t ⟨by omega, by omega⟩, law_l13 (by omega) hall hl.1, bnd_s]
            by_cases hf : freeP a.Cells b.Cells (List.replicate a.Cells.length false) p = true
            · rw [if_pos hf, if_pos hf, if_pos rfl, refAmount_eq (by omega) (known_of hp hall) hg.st.1 hg.st.2, bnd_s]
              have hK := known_of hp hall
              have b1 := sumA_bd (loA a.Cells b.Cells) p (fun i hi => (hK i hi).2.1)
              have b2 := sumA_bd (hiA a.Cells b.Cells) p (fun i hi => (hK i hi).2.2)
              have n1 := area_bd (s := a.Raster.Step) (z := sumA (loA a.Cells b.Cells) p) (N := 2684354559999) hg.st.1 hg.st.2 (by omega) (by omega)
              have n2 := area_bd (s := a.Raster.Step) (z := sumA (hiA a.Cells b.Cells) p) (N := 2684354559999) hg.st.1 hg.st.2 (by omega) (by omega)
              rw [if_pos rfl, same_Q _ (by have := digs (z := a.Raster.Step * a.Raster.Step * sumA (loA a.Cells b.Cells) p) (by omega) (by omega); omega), bnd_s, if_pos rfl, same_Q _ (by have := digs (z := a.Raster.Step * a.Raster.Step * sumA (hiA a.Cells b.Cells) p) (by omega) (by omega); omega), bnd_s, if_pos rfl]
            · rw [if_neg hf, if_neg hf, if_neg (by decide), if_pos rfl]; rfl
          · rw [if_neg hall, if_neg hall, if_neg (by decide), if_neg (by decide), if_pos rfl]; rfl
        · have e : lfix (lidarlaw09_ModelAmounts_l6 p a) (pairP a b, 0) = some (pairP a b) := by
            rw [lfix_eq]
            have : lidarlaw09_ModelAmounts_l6 p a (pairP a b, 0) = some (.inr (pairP a b)) := by
              unfold lidarlaw09_ModelAmounts_l6
              simp only [jn_d]
              split
              · rw [if_neg (by simpa using hp)]
              · rw [if_neg (by simp)]
            rw [this]
          rw [e, bnd_s, if_neg hp, if_neg hp, if_neg hp]
          rw [if_pos rfl]; rfl
end Go.Proofs.Ytjhknbpiaikblaa
