/- LabelWithin, LabelPoints in plain Lean. -/
import Derived.Test.YtdkjcoonmgjpfaaX5
import Derived.Test.YtdkjcoonmgjpfaaJ5
namespace Go.Proofs.Ytdkjcoonmgjpfaa
open Go Go.RowKit
theorem labelWithin_eq (l : List S_api_XY) (c : S_api_XY) : lidarlaw07_LabelWithin l c = some true := by
  unfold lidarlaw07_LabelWithin
  by_cases h : 1000 < ((l.length : Nat) : Int)
  · rw [if_pos h, first_eq]; rfl
  · rw [if_neg h, Within_eq, bnd_s, rWithin_eq (by omega), bnd_s, first_eq]
    simp [jn_d, bnd_s]
theorem Sunk_eq (l : List S_api_Point) (r : S_api_Terrain) : label_Sunk l r = some (if okRules r = true then (if validL l = true then (sortI ((sunkL l r).map (·.Id)), 0) else ([], 70)) else ([], 71)) := by
  simp only [label_Sunk, checked_eq, bnd_s]
  by_cases hr : okRules r = true
  · by_cases hl : validL l = true
    · have hf : Fit (sunkL l r) := (Fit.of hl).filter _
      simp only [hr, hl, if_true, parted_eq hl hr, bnd_s, ids_eq hf.n]
    · simp [hr, hl]
  · simp [hr]
theorem rSunk_eq (l : List S_api_Point) (r : S_api_Terrain) : lidarref07_Sunk l r = some (if okRules r = true then (if validL l = true then (sortI ((sunkL l r).map (·.Id)), 0) else ([], 70)) else ([], 71)) := by
  simp only [lidarref07_Sunk, rchecked_eq, bnd_s]
  by_cases hr : okRules r = true
  · by_cases hl : validL l = true
    · have hF := Fit.of hl
      have hn := hF.n
      have hf : Fit (sunkL l r) := hF.filter _
      simp only [hr, hl, if_true, jn_d]
      rw [lfix_filter l (sunkB l r) (lidarref07_Sunk_l6 l r) ?_ ?_, bnd_s]
      · show bnd (lidarref07_ids (sunkL l r)) _ = _
        rw [rids_eq hf.n, bnd_s]
      · intro j hj s hs
        simp only [lidarref07_Sunk_l6, if_pos (show (j : Int) < ((l.length : Nat) : Int) by omega), jn_d, idx_nat hj, bnd_s, rsunk_eq hl hr (hF.ok _ (List.getElem_mem hj)), w64_succ (show j < 9223372036854775807 by omega), gd_t (show (s.length + 1) * 72 ≤ 140737488355328 by omega)]
        split <;> rfl
      · intro s
        simp only [lidarref07_Sunk_l6, Int.lt_irrefl, if_false]
    · simp [hr, hl]
  · simp [hr]
def lowL (l : List S_api_Point) : List Int × Int := if validL l = true then (sortI ((bot plF (lastL l)).map (·.Id)), 0) else ([], 70)
theorem Lowest_eq (l : List S_api_Point) : label_Lowest l = some (lowL l) := by
  simp only [label_Lowest, valid_eq, bnd_s, lowL]
  by_cases hl : validL l = true
  · have hF := Fit.of hl
    obtain ⟨L, h1, h2⟩ := lasts_eq hF
    have hb : Fit (bot plF (lastL l)) := (hF.filter _).filter _
    simp only [hl, if_true, h2, bnd_s, ids_eq (hb.perm h1.symm).n, sortI_perm (h1.map (·.Id))]
  · simp [hl]
theorem rLowest_eq (l : List S_api_Point) : lidarref07_Lowest l = some (lowL l) := by
  simp only [lidarref07_Lowest, rvalid_eq, bnd_s, lowL]
  by_cases hl : validL l = true
  · have hF := Fit.of hl
    have hb : Fit (bot plF (lastL l)) := (hF.filter _).filter _
    simp only [hl, if_true, rlasts_eq hF.n, bnd_s, bottoms_eq (l := lastL l) (hF.filter _), rids_eq hb.n]
  · simp [hl]
theorem sort_small {l : List S_api_Point} (h : l.length ≤ 1024) : (sortI (l.map (·.Id))).length ≤ 1000000 := by rw [sortI_len, List.length_map]; omega
theorem labelPoints_eq (l : List S_api_Point) (r : S_api_Terrain) : lidarlaw07_LabelPoints l r = some true := by
  unfold lidarlaw07_LabelPoints
  rw [many_eq, bnd_s]
  split
  · rw [first_eq]; rfl
  · rw [Sunk_eq, bnd_s, rSunk_eq, bnd_s, Lowest_eq, bnd_s, rLowest_eq, bnd_s, jn_d, valid_eq, bnd_s, rvalid_eq, bnd_s, rules_eq, bnd_s, rrules_eq, bnd_s, Seeds_eq, bnd_s, rSeeds_eq, bnd_s]
    have a1 : ∀ t : List Int × Int, t = (if okRules r = true then (if validL l = true then (sortI ((sunkL l r).map (·.Id)), 0) else ([], 70)) else ([], 71)) → t.1.length ≤ 1000000 := by
      rintro t rfl
      split
      · split
        · rename_i hl; exact sort_small ((Fit.of hl).filter _).n
        · simp
      · simp
    have a2 : (lowL l).1.length ≤ 1000000 := by
      unfold lowL; split
      · rename_i hl; exact sort_small (((Fit.of hl).filter _).filter _).n
      · simp
    have a3 : ∀ t : List Int × Int, t = (if okRules r = true then (if validL l = true then (seedL l r, 0) else ([], 70)) else ([], 71)) → t.1.length ≤ 1000000 := by
      rintro t rfl
      split
      · split
        · rename_i hl; exact sort_small ((Fit.cand hl).filter _).n
        · simp
      · simp
    rw [sameInts_self (a1 _ rfl), bnd_s, sameInts_self a2, bnd_s, jn_d, sameInts_self (a3 _ rfl), bnd_s, first_eq]
    simp [bnd_s]
end Go.Proofs.Ytdkjcoonmgjpfaa
