/- Plain laws: Decode of Encode, and of a byte more or less. -/
import Derived.Test.YtjhknbpiaikblaaP18
namespace Go.Proofs.Ytjhknbpiaikblaa
open Go Go.RowKit
theorem good_eq' (g : S_api_Grid) : lidarlaw09_good g = some (decide (g.Cells.length ≤ 100) && validP g) := by
  unfold lidarlaw09_good
  simp only [jn_d, refValid_eq, bnd_s]
  by_cases hl : g.Cells.length ≤ 100
  · rw [if_pos (by omega)]; simp [hl]
  · rw [if_neg (by omega)]; simp [hl]
theorem modelReturns_eq (g : S_api_Grid) : lidarlaw09_ModelReturns g = some true := by
  unfold lidarlaw09_ModelReturns
  have hf : lidarlaw09_first = some true := rfl
  simp only [jn_d, bnd_s, hf, good_eq']
  by_cases hg : (decide (g.Cells.length ≤ 100) && validP g) = true
  · rw [if_pos hg]
    simp only [Bool.and_eq_true, decide_eq_true_eq] at hg
    obtain ⟨hl, hv⟩ := hg
    obtain ⟨out, o1, o2, o3⟩ := encode_B hv
    obtain ⟨bd, c0, c1, c2, c3, _, _, he2, _⟩ := encode_body hv
    have hlen : 4 ≤ out.length := by
      rw [o1] at he2; injection he2 with he2
      rw [he2]; simp
    have hE : model_Encode g = some (out, 0) := by
      unfold model_Encode
      rw [valid_eq, bnd_s, if_pos hv, o1, bnd_s]
    have hm := not_more hv o1
    have hs := not_less hv o1
    have hw : w64 (((out.length : Nat) : Int) - 1) = ((out.length - 1 : Nat) : Int) := by rw [w64_id (by omega) (by omega)]; omega
    rw [hE, bnd_s]
    simp only
    rw [decode_enc hv o1, bnd_s]
    simp only
    rw [if_pos trivial, if_pos trivial, sameG_refl g g rfl (by omega), bnd_s, if_pos rfl, if_neg (by simp only [decide_eq_true_eq]; omega), gd_t (by simp only [List.length_nil]; omega), gd_t (by simp only [List.length_append, List.length_nil]; omega)]
    rw [List.nil_append, hm, bnd_s, hw, gd_t (by omega), subl0, Int.toNat_natCast, hs, bnd_s]
    rfl
  · rw [if_neg hg]
end Go.Proofs.Ytjhknbpiaikblaa
