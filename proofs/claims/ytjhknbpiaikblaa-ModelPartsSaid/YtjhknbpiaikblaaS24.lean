/- What the program's Amount returns, in plain Lean; the laws' own check. -/
import Derived.Test.YtjhknbpiaikblaaS23
namespace Go.Proofs.Ytjhknbpiaikblaa
open Go Go.RowKit
theorem cell_rng {g : S_api_Grid} (h : validP g = true) (i : Int) (h0 : 0 ≤ i) (h1 : i < (g.Cells.length : Int)) : -268435456 ≤ (cellD g.Cells i).Z.Lo ∧ (cellD g.Cells i).Z.Lo ≤ 268435456 ∧ -268435456 ≤ (cellD g.Cells i).Z.Hi ∧ (cellD g.Cells i).Z.Hi ≤ 268435456 := by
  have hn : i.toNat < g.Cells.length := by omega
  have hc : cellD g.Cells i = g.Cells[i.toNat] := by simp [cellD, hn]
  rw [hc]
  simp only [validP, Bool.and_eq_true, List.all_eq_true] at h
  have := h.2 _ (List.getElem_mem hn)
  simp only [cellP, coordP] at this
  grind
theorem known_of {a b : S_api_Grid} {p : List Int} (hp : pairP a b = 0) (hall : p.all (inN a.Cells.length) = true) : Known a b p := by
  intro i hi
  have h1 := List.all_eq_true.1 hall i hi
  simp only [inN, decide_eq_true_eq] at h1
  have h2 := pairP_len hp
  have h3 := pairP_zero hp
  have c1 := cell_rng h3.1 i h1.1 h1.2
  have c2 := cell_rng h3.2.1 i h1.1 (by omega)
  simp only [loA, hiA]
  omega
/-- What the program's Amount returns. -/
theorem modelAmount_eq {a b : S_api_Grid} {p : List Int} (h9 : p.length ≤ 5000) : model_Amount a b p = some (
    if pairP a b = 0 then
      if p.all (inN a.Cells.length) = true then
        if freeP a.Cells b.Cells (List.replicate a.Cells.length false) p = true then (Z32 (a.Raster.Step * a.Raster.Step * sumA (loA a.Cells b.Cells) p), Z32 (a.Raster.Step * a.Raster.Step * sumA (hiA a.Cells b.Cells) p), 0)
        else (⟨false, [], []⟩, ⟨false, [], []⟩, 2)
      else (⟨false, [], []⟩, ⟨false, [], []⟩, 92)
    else (⟨false, [], []⟩, ⟨false, [], []⟩, pairP a b)) := by
  unfold model_Amount
  rw [pair_eq, bnd_s]
  by_cases hp : pairP a b = 0
  · have hl := pairP_len hp
    have h3 := pairP_zero hp
    have hg := goodF_of (validP_cells h3.1).2.2.2
    rw [if_pos hp, if_pos hp]
    simp only [jn_d]
    rw [amt_l5 (by omega) hl.2, bnd_s]
    by_cases hall : p.all (inN a.Cells.length) = true
    · rw [if_pos hall, if_pos hall]
      simp only [Int.toNat_natCast]
      rw [gd_t ⟨by omega, by omega⟩, amt_l12 (by omega) hall hl.1, bnd_s]
      by_cases hf : freeP a.Cells b.Cells (List.replicate a.Cells.length false) p = true
      · rw [if_pos hf, if_pos hf]
        simp only []
        rw [amount_eq h9 (known_of hp hall) hg.st.1 hg.st.2, bnd_s]
      · rw [if_neg hf, if_neg hf]
    · rw [if_neg hall, if_neg hall]
  · rw [if_neg hp, if_neg hp]
theorem first_cmp : model_Compare ⟨⟨0, 0, 10, 2, 1⟩, [⟨false, ⟨1, 3⟩⟩, ⟨false, ⟨0, 1⟩⟩]⟩ ⟨⟨0, 0, 10, 2, 1⟩, [⟨false, ⟨4, 5⟩⟩, ⟨false, ⟨5, 7⟩⟩]⟩ = some ([1, 1], 0) := by
  rw [compare_eq]; decide
theorem first_amt : model_Amount ⟨⟨0, 0, 10, 2, 1⟩, [⟨false, ⟨1, 3⟩⟩, ⟨false, ⟨0, 1⟩⟩]⟩ ⟨⟨0, 0, 10, 2, 1⟩, [⟨false, ⟨4, 5⟩⟩, ⟨false, ⟨5, 7⟩⟩]⟩ [1] = some (Z32 400, Z32 700, 0) := by
  rw [modelAmount_eq (by decide), if_pos (by decide), if_pos (by decide), if_pos (by decide)]
  rfl
theorem first_eq : lidarlaw09_first = some true := by
  unfold lidarlaw09_first
  simp only [jn_d, show ∀ x y, lidarlaw09_known x y = some ⟨false, ⟨x, y⟩⟩ from fun _ _ => rfl, bnd_s]
  have hr : ∀ c d : S_api_Cell, lidarlaw09_row [c, d] = some ⟨⟨0, 0, 10, 2, 1⟩, [c, d]⟩ := fun _ _ => rfl
  rw [hr, bnd_s, hr, bnd_s, first_cmp, bnd_s, first_amt, bnd_s]
  rw [if_pos rfl, if_pos (by decide), show idx (([1, 1], 0) : List Int × Int).1 0 = some 1 from rfl, bnd_s, if_pos rfl, show idx (([1, 1], 0) : List Int × Int).1 1 = some 1 from rfl, bnd_s, if_pos rfl, if_pos rfl]
  rw [whole_eq (by decide) (by decide), bnd_s]
  rw [same_Q _ (by have := digs (z := 400) (by omega) (by omega); omega), bnd_s, if_pos rfl, whole_eq (by decide) (by decide), bnd_s, same_Q _ (by have := digs (z := 700) (by omega) (by omega); omega), bnd_s]
end Go.Proofs.Ytjhknbpiaikblaa
