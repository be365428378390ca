/- Plain laws: the program's whole numbers, amounts. -/
import Derived.Test.YtdcdabkoajhllaaK5
import Derived.Test.YtdcdabkoajhllaaKQ1
import Derived.Test.YtdcdabkoajhllaaKQ2
namespace Go.Proofs.Ytdcdabkoajhllaa
open Go Go.RowKit
theorem idx_D {α : Type} [Inhabited α] {l : List α} {i : Int} (h0 : 0 ≤ i) (h : i < (l.length : Int)) : idx l i = some (l.getD i.toNat default) := by
  have hn : i.toNat < l.length := by omega
  have h1 := idx_nat (l := l) hn
  rw [Int.toNat_of_nonneg h0] at h1
  rw [h1]; simp [hn]
section
variable {a b : S_api_Grid} {p : List Int}
end
theorem natOf_wu {n : Nat} (h : n ≤ 18446744073709551615) : ratio_natOf (wu64 (n : Int)) = some (L32 n) := by rw [wu64_m (by omega), natOf_W h]
theorem intNZ {z : Int} (h1 : -9223372036854775808 ≤ z) (h2 : z ≤ 9223372036854775807) : ratio_Int z = some (NZ z) := by
  unfold ratio_Int
  by_cases h : z < 0
  · rw [if_pos h, w64_id (x := z + 1) (by omega) (by omega), w64_id (by omega) (by omega)]
    rw [show wu64 (wu64 (-(z + 1)) + 1) = wu64 ((z.natAbs : Nat) : Int) from by
      rw [show (-(z + 1) : Int) = (((-(z + 1)).toNat : Nat) : Int) from by omega, wu64_m (by omega)]
      congr 1; omega]
    rw [natOf_wu (by omega), bnd_s]
    unfold NZ
    rw [decide_eq_true h]
  · rw [if_neg h, show wu64 z = wu64 ((z.natAbs : Nat) : Int) from by congr 1; omega, natOf_wu (by omega), bnd_s]
    unfold NZ
    rw [decide_eq_false h]
theorem dig64 {z : Int} (h1 : -9223372036854775808 ≤ z) (h2 : z ≤ 9223372036854775807) : (dig 4294967296 z.natAbs).length ≤ 2 := dig_len (by omega) 2 _ (by
  have : (4294967296 : Nat) ^ 2 = 18446744073709551616 := by decide
  omega)
theorem doneNZ' {z : Int} (h : (dig 4294967296 z.natAbs).length ≤ 256) : ratio_Num_Done (NZ z) = some (Z32 z, 0) := doneNZ (fun _ => rfl) h
theorem fromInt_eq {z : Int} (h1 : -9223372036854775808 ≤ z) (h2 : z ≤ 9223372036854775807) : exact_FromInt z = some (Z32 z) := by
  have := dig64 h1 h2
  unfold exact_FromInt
  rw [intNZ h1 h2, bnd_s, doneNZ' (by omega), bnd_s]
theorem anyLarge2 {x y : Int} (hx : (dig 4294967296 x.natAbs).length ≤ 256) (hy : (dig 4294967296 y.natAbs).length ≤ 256) : exact_anyLarge [Z32 x, Z32 y] = some false :=
  anyLarge_of _ (by simp) (by intro q hq; rcases List.mem_cons.1 hq with rfl | hq; exact largeW x hx; simp at hq; subst hq; exact largeW y hy)
theorem mulNZ {x y : Int} (h : (dig 4294967296 x.natAbs).length + (dig 4294967296 y.natAbs).length ≤ 1000000) : ∃ s, ratio_Num_Mul (NZ x) (NZ y) = some ⟨s, L32 (x * y).natAbs, [1]⟩ ∧ (x * y ≠ 0 → s = decide (x * y < 0)) := by
  unfold ratio_Num_Mul
  rw [show ratio_nat_mul (NZ x).n (NZ y).n = some (L32 (x.natAbs * y.natAbs)) from mulW_L h, bnd_s, show ratio_nat_mul (NZ x).d (NZ y).d = some [1] from mulW_11, bnd_s, ← Int.natAbs_mul]
  refine ⟨_, rfl, fun h0 => ?_⟩
  show (!(decide (x < 0) == decide (y < 0))) = decide (x * y < 0)
  have hx : x ≠ 0 := fun e => h0 (by rw [e, Int.zero_mul])
  have hy : y ≠ 0 := fun e => h0 (by rw [e, Int.mul_zero])
  by_cases h1 : x < 0 <;> by_cases h2 : y < 0
  · have : 0 < x * y := Int.mul_pos_of_neg_of_neg h1 h2
    simp [h1, h2]; omega
  · have : x * y < 0 := Int.mul_neg_of_neg_of_pos h1 (by omega)
    simp [h1, h2, this]
  · have : x * y < 0 := Int.mul_neg_of_pos_of_neg (by omega) h2
    simp [h1, h2, this]
  · have : 0 < x * y := Int.mul_pos (by omega) (by omega)
    simp [h1, h2]; omega
theorem mulE {x y : Int} (hx : (dig 4294967296 x.natAbs).length ≤ 256) (hy : (dig 4294967296 y.natAbs).length ≤ 256) (hz : (dig 4294967296 (x * y).natAbs).length ≤ 256) : exact_Mul (Z32 x) (Z32 y) = some (Z32 (x * y), 0) := by
  unfold exact_Mul
  obtain ⟨s, hs, h⟩ := mulNZ (x := x) (y := y) (by omega)
  rw [anyLarge2 hx hy, bnd_s, if_neg (by decide), ofW _ (by omega), bnd_s, ofW _ (by omega), bnd_s, hs, bnd_s, doneNZ h hz, bnd_s]
theorem negNZ (x : Int) : ratio_Num_Neg (NZ x) = some (NZ (-x)) := by
  unfold ratio_Num_Neg
  simp only [jn_d]
  have e : (L32 x.natAbs).length = 0 ↔ x.natAbs = 0 := L32_nil
  have e2 : NZ (-x) = ⟨decide (-x < 0), L32 x.natAbs, [1]⟩ := by unfold NZ; rw [Int.natAbs_neg]
  rw [e2]
  by_cases h : x < 0
  · rw [if_pos (show (NZ x).neg = true from decide_eq_true h), decide_eq_false (by omega)]; rfl
  · rw [if_neg (show ¬ (NZ x).neg = true from by show ¬ decide (x < 0) = true; simpa using h)]
    show some (⟨decide (0 < (((L32 x.natAbs).length : Nat) : Int)), L32 x.natAbs, [1]⟩ : S_ratio_Num) = _
    congr 2
    rw [decide_eq_decide]
    omega
theorem cmpE {x y : Int} (hx : (dig 4294967296 x.natAbs).length ≤ 256) (hy : (dig 4294967296 y.natAbs).length ≤ 256) : exact_Cmp (Z32 x) (Z32 y) = some (Int.sign (x - y), 0) := by
  unfold exact_Cmp
  obtain ⟨s, hs, h⟩ := addNZ x (-y) (by omega) (by rw [Int.natAbs_neg]; omega)
  rw [anyLarge2 hx hy, bnd_s, if_neg (by decide), ofW _ (by omega), bnd_s, ofW _ (by omega), bnd_s]
  unfold ratio_Num_Cmp ratio_Num_Sub
  rw [negNZ, bnd_s, hs, bnd_s, bnd_s, signNZ h, bnd_s, bnd_s]; rfl
theorem floorN1 {z : Int} (h : z = 1 ∨ z = -1) : exact_floor (NZ z) = some (z, true) := by
  have ea : z.natAbs = 1 := by omega
  have e1 : (NZ z).n = [1] := by show L32 z.natAbs = [1]; rw [ea, ← oneW]
  have e2 : (NZ z).d = [1] := rfl
  have e3 : (NZ z).neg = decide (z < 0) := rfl
  have d1 : ratio_nat_div [1] [1] = some ([1], []) := by
    have := divW_1 1 (by rw [dig_one (by omega)]; simp)
    rwa [← oneW] at this
  have hf : ratio_Num_Floor (NZ z) = some (z, true) := by
    unfold ratio_Num_Floor
    simp only [jn_d]
    rw [e1, e2, e3, d1, bnd_s]
    have hn : ratio_natOf 4611686018427387904 = some (L32 4611686018427387904) := natOf_W (n := 4611686018427387904) (by omega)
    have hc : ratio_nat_cmp [1] (L32 4611686018427387904) = some (-1) := by
      have := cmpW_L 1 4611686018427387904 (by rw [dig_one (by omega)]; simp)
      rw [← oneW] at this; exact this
    have hl : lfix (ratio_Num_Floor_l8 [1]) (0, w64 (((([1] : List Int).length : Nat) : Int) - 1)) = some 1 := by
      rw [lfix_eq]
      have : ratio_Num_Floor_l8 [1] (0, w64 (((([1] : List Int).length : Nat) : Int) - 1)) = some (.inl (1, -1)) := by
        unfold ratio_Num_Floor_l8
        rw [show w64 (((([1] : List Int).length : Nat) : Int) - 1) = 0 from by decide]
        simp only []
        rw [if_pos (by decide), show idx ([1] : List Int) 0 = some 1 from rfl, bnd_s]
        decide
      rw [this]
      simp only []
      rw [lfix_eq]
      have : ratio_Num_Floor_l8 [1] (1, -1) = some (.inr 1) := by
        unfold ratio_Num_Floor_l8
        rw [if_neg (by decide)]
      rw [this]
    by_cases h0 : z < 0
    · rw [if_pos (by simpa using h0)]
      simp only [List.length_nil]
      rw [if_neg (by decide), hn, bnd_s, hc, bnd_s, if_neg (by decide), hl, bnd_s, if_pos (by simpa using h0), show w64 (-1) = -1 from by decide, show z = -1 by omega]
    · rw [if_neg (by simpa using h0), if_neg (by decide)]
      simp only []
      rw [hn, bnd_s, hc, bnd_s, if_neg (by decide), hl, bnd_s, if_neg (by simpa using h0), show z = 1 by omega]
  unfold exact_floor
  simp only [jn_d]
  rw [hf, bnd_s, if_pos rfl, if_neg (by simp only []; omega), if_neg (by simp only []; rw [decide_eq_true_eq]; omega)]
theorem dig1 : (dig 4294967296 (1 : Int).natAbs).length ≤ 1 := by rw [show (1 : Int).natAbs = 1 from rfl, dig_one (by omega)]; simp
theorem one_eq : lidartop_one (Z32 1) 0 = some true := by
  have h1 : exact_anyLarge [Z32 1] = some false := anyLarge_of _ (by simp) (by intro q hq; simp at hq; subst hq; exact largeW 1 (by have := dig1; omega))
  have h2 : ratio_Of (Z32 1) = some (NZ 1) := ofW 1 (by have := dig1; omega)
  unfold lidartop_one exact_Floor exact_Ceil
  rw [h1, bnd_s, bnd_s, if_neg (by decide), if_neg (by decide), h2, bnd_s, bnd_s, floorN1 (.inl rfl), bnd_s, negNZ, bnd_s, floorN1 (.inr rfl), bnd_s]
  rfl
theorem area_bd {s z N : Int} (h1 : 1 ≤ s) (h2 : s ≤ 1000000) (h3 : -N ≤ z) (h4 : z ≤ N) : 0 ≤ s * s ∧ s * s ≤ 1000000000000 ∧ -(1000000000000 * N) ≤ s * s * z ∧ s * s * z ≤ 1000000000000 * N := by
  have hN : 0 ≤ N := by omega
  have a1 : 0 ≤ s * s := Int.mul_nonneg (by omega) (by omega)
  have a2 : s * s ≤ 1000000 * 1000000 := Int.mul_le_mul h2 h2 (by omega) (by omega)
  have a3 : s * s * z ≤ s * s * N := Int.mul_le_mul_of_nonneg_left h4 a1
  have a4 : s * s * (-N) ≤ s * s * z := Int.mul_le_mul_of_nonneg_left h3 a1
  have a5 : s * s * N ≤ 1000000000000 * N := Int.mul_le_mul_of_nonneg_right (by omega) hN
  rw [Int.mul_neg] at a4
  exact ⟨a1, by omega, by omega, by omega⟩
theorem dig3 {z : Int} (h1 : -(1000000000000 * 9223372036854775808) ≤ z) (h2 : z ≤ 1000000000000 * 9223372036854775808) : (dig 4294967296 z.natAbs).length ≤ 4 := dig_len (by omega) 4 _ (by
  have : (4294967296 : Nat) ^ 4 = 340282366920938463463374607431768211456 := by decide
  omega)
theorem times_eq {f : S_api_Raster} {z : Int} (h1 : 1 ≤ f.Step) (h2 : f.Step ≤ 1000000) (h3 : -9223372036854775808 ≤ z) (h4 : z ≤ 9223372036854775807) : model_times f z = some (Z32 (f.Step * f.Step * z)) := by
  have b := area_bd (N := 9223372036854775808) h1 h2 h3 (by omega)
  unfold model_times
  have d1 := dig64 (z := f.Step * f.Step) (by omega) (by omega)
  have d2 := dig64 h3 h4
  have d3 := dig3 b.2.2.1 b.2.2.2
  rw [w64_id (by omega) (by omega), fromInt_eq (by omega) (by omega), bnd_s, fromInt_eq h3 h4, bnd_s, mulE (by omega) (by omega) (by omega), bnd_s]
end Go.Proofs.Ytdcdabkoajhllaa
