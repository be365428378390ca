/- Plain laws: what Encode returns. -/
import Derived.Test.YtjhknbpiaikblaaP10
namespace Go.Proofs.Ytjhknbpiaikblaa
open Go Go.RowKit
theorem encode_both (g : S_api_Grid) (h : g.Cells.length ≤ 5000) : ∃ (c : Int) (out : List Int), model_encode g = some (out ++ [wu8 (shr_ .u32 c 24), wu8 (shr_ .u32 c 16), wu8 (shr_ .u32 c 8), wu8 c]) ∧ out.length ≤ 1000000 ∧ link_Checksum out = some c ∧
    (validP g = true → lidarref09_Encode g = some (out ++ [wu8 (shr_ .u32 c 24), wu8 (shr_ .u32 c 16), wu8 (shr_ .u32 c 8), wu8 c], 0)) := by
  have b0 : ∀ x ∈ ([] : List Int), isB x := by simp
  have l1 := signP_len [] g.Raster.X0
  have b1 := signP_B g.Raster.X0 b0
  generalize e1 : (signP [] g.Raster.X0).1 = w1 at *
  have l2 := signP_len w1 g.Raster.Y0
  have b2 := signP_B g.Raster.Y0 b1
  generalize e2 : (signP w1 g.Raster.Y0).1 = w2 at *
  have l3 := numP_len w2 g.Raster.Step
  have b3 := numP_B g.Raster.Step b2
  generalize e3 : (numP w2 g.Raster.Step).1 = w3 at *
  have l4 := numP_len w3 g.Raster.NX
  have b4 := numP_B g.Raster.NX b3
  generalize e4 : (numP w3 g.Raster.NX).1 = w4 at *
  have l5 := numP_len w4 g.Raster.NY
  have b5 := numP_B g.Raster.NY b4
  generalize e5 : (numP w4 g.Raster.NY).1 = w5 at *
  simp only [List.length_nil] at l1
  obtain ⟨out, h1, h2, h3, h4⟩ := cells_both g h g.Cells.length 0 w5 0 (by omega) (by omega) (by omega) b5
  obtain ⟨c, c1, c2⟩ := checksum_both (p := out) (by omega) h4
  refine ⟨c, out, ?_, h3, c1, ?_⟩
  · unfold model_encode
    rw [wsigned_eq _ (by simp), bnd_s]
    simp only [e1]
    rw [wsigned_eq _ (by show w1.length ≤ _; omega), bnd_s]
    simp only [e2]
    rw [wnumber_eq _ (by show w2.length ≤ _; omega), bnd_s]
    simp only [e3]
    rw [wnumber_eq _ (by show w3.length ≤ _; omega), bnd_s]
    simp only [e4]
    rw [wnumber_eq _ (by show w4.length ≤ _; omega), bnd_s]
    simp only [e5]
    unfold model_writer_cells
    rw [List.drop_zero] at h1
    simp only [h1]
    rw [bnd_s, bnd_s, c1, bnd_s, gd_t (by show (out.length + 4) * 1 ≤ _; omega)]
  · intro hv
    unfold lidarref09_Encode
    rw [refValid_eq, bnd_s, if_pos hv, refSigned_eq _ (by simp), bnd_s]
    simp only [e1]
    rw [refSigned_eq _ (by omega), bnd_s]
    simp only [e2]
    rw [refNumber_eq _ (by omega), bnd_s]
    simp only [e3]
    rw [refNumber_eq _ (by omega), bnd_s]
    simp only [e4]
    rw [refNumber_eq _ (by omega), bnd_s]
    simp only [e5, jn_d]
    rw [show lfix (lidarref09_Encode_l11 g) (w5, 0, 0) = _ from h2, bnd_s]
    unfold lidarref09_Sealed
    rw [c2, bnd_s, gd_t (by simp; omega), gd_t (by simp; omega)]
    rfl
theorem encode_eq (g : S_api_Grid) (h : g.Cells.length ≤ 5000) : ∃ r : List Int × Int, model_Encode g = some r ∧ lidarref09_Encode g = some r ∧ r.1.length ≤ 1000004 := by
  unfold model_Encode
  rw [valid_eq, bnd_s]
  by_cases hv : validP g = true
  · obtain ⟨c, out, h1, h2, _, h3⟩ := encode_both g h
    rw [if_pos hv, h1, bnd_s]
    refine ⟨_, rfl, h3 hv, ?_⟩
    simp; omega
  · rw [if_neg hv]
    refine ⟨([], 90), rfl, ?_, by simp⟩
    unfold lidarref09_Encode
    rw [refValid_eq, bnd_s, if_neg hv]
theorem sameBytes_refl {p : List Int} (h : p.length ≤ 9223372036854775806) : lidarlaw09_sameBytes p p = some true := by
  unfold lidarlaw09_sameBytes
  simp only [jn_d]
  rw [if_pos trivial, lfix_all p (fun _ => true) (lidarlaw09_sameBytes_l4 p p) () false]
  · simp [bnd_s]
  · intro j hj
    unfold lidarlaw09_sameBytes_l4
    rw [if_pos (by omega), idx_nat hj, bnd_s, bnd_s, if_pos rfl, if_pos rfl, w64_succ (by omega)]
  · unfold lidarlaw09_sameBytes_l4
    rw [if_neg (by omega)]
theorem modelEncodes_eq (g : S_api_Grid) : lidarlaw09_ModelEncodes g = some true := by
  unfold lidarlaw09_ModelEncodes
  have hf : lidarlaw09_first = some true := rfl
  simp only [jn_d, heavy_eq, bnd_s, hf]
  by_cases h1 : (decide (5000 < (g.Cells.length : Int)) || (rasterP g.Raster && decide (150 < g.Raster.NX * g.Raster.NY))) = true
  · rw [if_pos h1]
  · rw [if_neg h1]
    have hl : g.Cells.length ≤ 5000 := by
      simp only [Bool.or_eq_true, decide_eq_true_eq, not_or] at h1
      omega
    obtain ⟨r, e1, e2, e3⟩ := encode_eq g hl
    rw [e1, bnd_s, e2, bnd_s, if_pos rfl, sameBytes_refl (by omega), bnd_s, if_pos rfl]
end Go.Proofs.Ytjhknbpiaikblaa
