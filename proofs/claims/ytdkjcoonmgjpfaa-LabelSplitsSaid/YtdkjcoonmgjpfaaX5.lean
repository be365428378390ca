/- The laws' own check. -/
import Derived.Test.YtdkjcoonmgjpfaaX4
namespace Go.Proofs.Ytdkjcoonmgjpfaa
open Go Go.RowKit
theorem sameInts_self {l : List Int} (h : l.length ≤ 1000000) : lidarlaw07_sameInts l l = some true := by
  simp only [lidarlaw07_sameInts, if_true, jn_d]
  rw [lfix_all (β := Unit) (γ := Bool) l (fun _ => true) (lidarlaw07_sameInts_l4 l l) () false ?_ ?_, bnd_s]
  · simp
  · intro j hj
    simp only [lidarlaw07_sameInts_l4, if_pos (show (j : Int) < ((l.length : Nat) : Int) by omega), idx_nat hj, bnd_s, if_true, w64_succ (show j < 9223372036854775807 by omega)]
  · simp only [lidarlaw07_sameInts_l4, Int.lt_irrefl, if_false]
theorem many_eq (l : List S_api_Point) (n : Int) : lidarlaw07_many l n = some (decide (300 < l.length ∨ n < ((l.length : Nat) : Int) ∧ validL l = true)) := by
  simp only [lidarlaw07_many, jn_d, rvalid_eq, bnd_s]
  by_cases h1 : 300 < l.length
  · rw [if_pos (by omega)]; simp [h1]
  · rw [if_neg (by omega)]
    by_cases h2 : n < ((l.length : Nat) : Int)
    · rw [if_pos h2]; simp [h1, h2]
    · rw [if_neg h2]; simp [h1, h2]
def sqr : List S_api_XY := [⟨0, 0⟩, ⟨4, 0⟩, ⟨4, 4⟩, ⟨0, 4⟩]
def pts3 : List S_api_Point := [⟨1, 0, 0, ⟨3, 3⟩, 0, 1, 1, 0⟩, ⟨2, 5, 5, ⟨1, 1⟩, 0, 1, 1, 0⟩, ⟨3, 12, 0, ⟨2, 2⟩, 0, 1, 1, 0⟩]
def ter3 : S_api_Terrain := ⟨10, 0, 0, 1, 0, 0, 0, 0, 0, 1⟩
theorem first_eq : lidarlaw07_first = some true := by
  have e1 : withinS sqr ⟨4, 2⟩ = (true, 0) := by decide
  have e2 : withinS sqr ⟨5, 2⟩ = (false, 0) := by decide
  have e3 : seedL pts3 ter3 = [2, 3] := by
    have : (bot (ceF ter3.Cell) (candL pts3 ter3)).map (·.Id) = [2, 3] := by decide
    unfold seedL
    rw [this]
    exact (sort_unique (by simp) (List.Perm.refl _)).symm
  have e4 : okRules ter3 = true := by decide
  have e5 : validL pts3 = true := by decide
  have f1 : label_Within sqr ⟨4, 2⟩ = some (true, 0) := by rw [Within_eq, e1]
  have f2 : label_Within sqr ⟨5, 2⟩ = some (false, 0) := by rw [Within_eq, e2]
  have f3 : label_Seeds pts3 ter3 = some ([2, 3], 0) := by rw [Seeds_eq, if_pos e4, if_pos e5, e3]
  unfold lidarlaw07_first
  have g1 : label_Within ([(⟨0, 0⟩ : S_api_XY), (⟨4, 0⟩ : S_api_XY), (⟨4, 4⟩ : S_api_XY), (⟨0, 4⟩ : S_api_XY)]) (⟨4, 2⟩ : S_api_XY) = some (true, 0) := f1
  have g2 : label_Within ([(⟨0, 0⟩ : S_api_XY), (⟨4, 0⟩ : S_api_XY), (⟨4, 4⟩ : S_api_XY), (⟨0, 4⟩ : S_api_XY)]) (⟨5, 2⟩ : S_api_XY) = some (false, 0) := f2
  rw [g1, bnd_s, g2, bnd_s]
  show bnd (label_Seeds pts3 ter3) _ = _
  rw [f3, bnd_s]
  rfl
end Go.Proofs.Ytdkjcoonmgjpfaa
