/- Plain laws of layer 9: coarser grids. -/
import Derived.Test.YtjhknbpiaikblaaG3
import Derived.Test.YtjhknbpiaikblaaP1
namespace Go.Proofs.Ytjhknbpiaikblaa
open Go Go.RowKit
/-! ### numbers -/
theorem dim_le {a k : Nat} (ha : 1 ≤ a) (hk : 1 ≤ k) : 1 ≤ (a + k - 1) / k ∧ (a + k - 1) / k ≤ a := by
  constructor
  · exact (Nat.le_div_iff_mul_le hk).2 (by omega)
  · have : (a + k - 1) / k < a + 1 := (Nat.div_lt_iff_lt_mul hk).2 (by
      have : a * 1 ≤ a * k := Nat.mul_le_mul_left a hk
      rw [Nat.add_mul]; omega)
    omega
theorem lt_dim {a k x : Nat} (hk : 1 ≤ k) : x < (a + k - 1) / k ↔ x * k < a := by
  have h := Nat.le_div_iff_mul_le hk (x := x + 1) (y := a + k - 1)
  rw [Nat.add_mul, Nat.one_mul] at h
  omega
theorem div_dim {a k x : Nat} (hk : 1 ≤ k) (h : x < a) : x / k < (a + k - 1) / k := by
  rw [lt_dim hk]
  have := Nat.div_mul_le_self x k
  omega
theorem cell_lt {nx ny x y : Nat} (hx : x < nx) (hy : y < ny) : y * nx + x < nx * ny := by
  have : (y + 1) * nx ≤ ny * nx := Nat.mul_le_mul_right nx hy
  rw [Nat.add_mul, Nat.one_mul, Nat.mul_comm ny nx] at this
  omega
theorem split_mod {nx x y : Nat} (hx : x < nx) : (y * nx + x) % nx = x ∧ (y * nx + x) / nx = y := by
  constructor
  · rw [Nat.mul_comm, Nat.mul_add_mod]; exact Nat.mod_eq_of_lt hx
  · rw [Nat.mul_comm, Nat.mul_add_div (by omega), Nat.div_eq_of_lt hx]; omega
structure Dims (g : S_api_Grid) (nx ny st : Nat) : Prop where
  ex : g.Raster.NX = (nx : Int)
  ey : g.Raster.NY = (ny : Int)
  es : g.Raster.Step = (st : Int)
  bx : 1 ≤ nx ∧ nx ≤ 64
  by_ : 1 ≤ ny ∧ ny ≤ 64
  bs : 1 ≤ st ∧ st ≤ 1000000
  len : g.Cells.length = nx * ny
  le : nx * ny ≤ 4096
  cell : ∀ c ∈ g.Cells, cellP c = true
theorem dims_of {g : S_api_Grid} (h : validP g = true) : ∃ nx ny st, Dims g nx ny st := by
  have hl := (validP_cells h)
  have hg := goodF_of hl.2.2.2
  refine ⟨g.Raster.NX.toNat, g.Raster.NY.toNat, g.Raster.Step.toNat, by have := hg.nx; omega, by have := hg.ny; omega, by have := hg.st; omega, by have := hg.nx; omega, by have := hg.ny; omega, by have := hg.st; omega, ?_, ?_, ?_⟩
  · have h1 := hl.1
    have e : g.Raster.NX * g.Raster.NY = ((g.Raster.NX.toNat * g.Raster.NY.toNat : Nat) : Int) := by rw [Int.natCast_mul, Int.toNat_of_nonneg (by have := hg.nx; omega), Int.toNat_of_nonneg (by have := hg.ny; omega)]
    rw [e] at h1; omega
  · have h1 := hl.1
    have e : g.Raster.NX * g.Raster.NY = ((g.Raster.NX.toNat * g.Raster.NY.toNat : Nat) : Int) := by rw [Int.natCast_mul, Int.toNat_of_nonneg (by have := hg.nx; omega), Int.toNat_of_nonneg (by have := hg.ny; omega)]
    rw [e] at h1; omega
  · simp only [validP, Bool.and_eq_true, List.all_eq_true] at h
    exact h.2
def dim (a k : Nat) : Nat := (a + k - 1) / k
def redP (f : S_api_Raster) (nx ny st k : Nat) : S_api_Raster := ⟨f.X0, f.Y0, ((st * k : Nat) : Int), ((dim nx k : Nat) : Int), ((dim ny k : Nat) : Int)⟩
theorem red_num {a k : Nat} (ha : a ≤ 64) (ha1 : 1 ≤ a) (hk : 1 ≤ k) (hk9 : k ≤ 1000000) : w64 (Int.tdiv (w64 ((w64 ((a : Int) + (k : Int))) - 1)) (k : Int)) = ((dim a k : Nat) : Int) := by
  rw [w64_id (x := (a : Int) + k) (by omega) (by omega), w64_id (x := (a : Int) + k - 1) (by omega) (by omega)]
  have e : (a : Int) + (k : Int) - 1 = ((a + k - 1 : Nat) : Int) := by omega
  rw [e, ← Int.ofNat_tdiv, w64_nat]
  · rfl
  · have := (dim_le ha1 hk).2; omega
theorem reduced_eq {g : S_api_Grid} {nx ny st k : Nat} (h : Dims g nx ny st) (hk : 1 ≤ k) (hk9 : st * k ≤ 1000000) : model_reduced g.Raster (k : Int) = some (redP g.Raster nx ny st k) := by
  have hk8 : k ≤ 1000000 := by have := Nat.mul_le_mul_right k h.bs.1; omega
  unfold model_reduced
  rw [gd_t (by omega), gd_t (by omega), h.ex, h.ey, h.es, red_num h.bx.2 h.bx.1 hk hk8, red_num h.by_.2 h.by_.1 hk hk8, ← Int.natCast_mul, w64_nat (by omega)]
  rfl
/-- When Thin and Coarse are refused. -/
def thinE (g : S_api_Grid) (k : Int) : Int := if validP g = true then (if 1 ≤ k ∧ g.Raster.Step * k ≤ 1000000 then 0 else 2) else 90
theorem refused_eq (g : S_api_Grid) (k : Int) : model_refused g k = some (thinE g k) := by
  unfold model_refused thinE
  rw [valid_eq, bnd_s]
  by_cases hv : validP g = true
  · rw [if_pos hv, if_pos hv]
    simp only [jn_d]
    have hg := goodF_of (validP_cells hv).2.2.2
    by_cases hk : k < 1
    · rw [if_pos hk, if_pos trivial, if_neg (by omega)]
    · rw [if_neg hk, gd_t (by have := hg.st; omega), tdiv_pos (by omega)]
      have hd : 0 ≤ 1000000 / g.Raster.Step ∧ 1000000 / g.Raster.Step ≤ 1000000 := ⟨Int.ediv_nonneg (by omega) (by have := hg.st; omega), Int.ediv_le_self _ (by omega)⟩
      rw [w64_id (by omega) (by omega)]
      have hiff : k ≤ 1000000 / g.Raster.Step ↔ k * g.Raster.Step ≤ 1000000 := Int.le_ediv_iff_mul_le (by have := hg.st; omega)
      rw [Int.mul_comm] at hiff
      by_cases hc : g.Raster.Step * k ≤ 1000000
      · have := hiff.2 hc
        rw [if_neg (by simp; omega), if_pos ⟨by omega, hc⟩]
      · have : ¬ k ≤ 1000000 / g.Raster.Step := fun h => hc (hiff.1 h)
        rw [if_pos (by simp; omega), if_neg (fun h => hc h.2)]
  · rw [if_neg hv, if_neg hv]
theorem thinE_zero {g : S_api_Grid} {k : Int} (h : thinE g k = 0) : validP g = true ∧ 1 ≤ k ∧ g.Raster.Step * k ≤ 1000000 := by
  unfold thinE at h; grind
theorem coarser_eq {g : S_api_Grid} {nx ny st : Nat} (h : Dims g nx ny st) (k : Int) : lidarref09_coarser g.Raster k = some (if 1 ≤ k ∧ g.Raster.Step * k ≤ 1000000 then (redP g.Raster nx ny st k.toNat, true) else (g.Raster, false)) := by
  unfold lidarref09_coarser
  simp only [jn_d]
  by_cases h1 : k < 1
  · rw [if_pos h1, if_pos trivial, if_neg (by omega)]
  · rw [if_neg h1]
    have hst : (1 : Int) ≤ g.Raster.Step ∧ g.Raster.Step ≤ 1000000 := by rw [h.es]; have := h.bs; omega
    by_cases h2 : 1000000 < k
    · rw [if_pos h2, if_pos trivial, if_neg]
      intro hc
      have : 1 * k ≤ g.Raster.Step * k := Int.mul_le_mul_of_nonneg_right hst.1 (by omega)
      omega
    · rw [if_neg h2]
      have hb := mul_bd (a := g.Raster.Step) (b := k) (A := 1000000) (B := 1000000) (by omega) hst.2 (by omega) (by omega)
      rw [w64_id (x := g.Raster.Step * k) (by omega) (by omega)]
      by_cases h3 : g.Raster.Step * k ≤ 1000000
      · rw [if_neg (by simp; omega), if_pos ⟨by omega, h3⟩, gd_t (by omega), gd_t (by omega)]
        obtain ⟨q, rfl⟩ : ∃ q : Nat, k = (q : Int) := ⟨k.toNat, by omega⟩
        rw [h.ex, h.ey, h.es, red_num h.bx.2 h.bx.1 (by omega) (by omega), red_num h.by_.2 h.by_.1 (by omega) (by omega), ← Int.natCast_mul]
        rfl
      · rw [if_pos (by simp; omega), if_neg (fun h => h3 h.2)]
end Go.Proofs.Ytjhknbpiaikblaa
