/- Plain laws: amounts of change. -/
import Derived.Test.YtjhknbpiaikblaaS22
import Derived.Test.YtjhknbpiaikblaaQ1
namespace Go.Proofs.Ytjhknbpiaikblaa
open Go Go.RowKit
/-- A loop over a list that carries a sum. -/
def inN (n : Nat) (i : Int) : Bool := decide (0 ≤ i ∧ i < (n : Int))
def freeP (ca cb : List S_api_Cell) : List Bool → List Int → Bool
  | _, [] => true
  | seen, i :: r => !(seen.getD i.toNat false || (ca.getD i.toNat default).Void || (cb.getD i.toNat default).Void) && freeP ca cb (seen.set i.toNat true) r
theorem idx_D {α : Type} [Inhabited α] {l : List α} {i : Int} (h0 : 0 ≤ i) (h : i < (l.length : Int)) : idx l i = some (l.getD i.toNat default) := by
  have hn : i.toNat < l.length := by omega
  have h1 := idx_nat (l := l) hn
  rw [Int.toNat_of_nonneg h0] at h1
  rw [h1]; simp [hn]
theorem idx_Db {l : List Bool} {i : Int} (h0 : 0 ≤ i) (h : i < (l.length : Int)) : idx l i = some (l.getD i.toNat false) := idx_D h0 h
theorem free_cons {ca cb : List S_api_Cell} {seen : List Bool} {p : List Int} {k : Nat} (hk : k < p.length) :
    freeP ca cb seen (p.drop k) = (!(seen.getD (p[k]).toNat false || (ca.getD (p[k]).toNat default).Void || (cb.getD (p[k]).toNat default).Void) && freeP ca cb (seen.set (p[k]).toNat true) (p.drop (k + 1))) := by
  rw [List.drop_eq_getElem_cons hk]; rfl
theorem setI_D {seen : List Bool} {i : Int} : setI seen i true = seen.set i.toNat true := rfl
section
variable {a b : S_api_Grid} {p : List Int}
theorem amt_l5 (h9 : p.length ≤ 1000000) (hl : a.Cells.length ≤ 4096) :
    lfix (model_Amount_l5 p a) 0 = some (if p.all (inN a.Cells.length) = true then .inl () else .inr (⟨false, [], []⟩, ⟨false, [], []⟩, 92)) := by
  refine lfix_all p (inN a.Cells.length) _ () ((⟨false, [], []⟩ : S_api_Rat), (⟨false, [], []⟩ : S_api_Rat), (92 : Int)) (fun j hj => ?_) ?_
  · unfold model_Amount_l5
    rw [if_pos (by omega), idx_nat hj, bnd_s, within_eq, bnd_s, w64_id (by omega) (by omega), w64_succ (by omega)]
    by_cases h : 0 ≤ p[j] ∧ p[j] < (a.Cells.length : Int)
    · rw [if_pos (by rw [decide_eq_true]; omega), if_pos (show inN a.Cells.length p[j] = true from decide_eq_true h)]
    · rw [if_neg (by rw [decide_eq_true_eq]; omega), if_neg (show ¬ inN a.Cells.length p[j] = true from by simp only [inN, decide_eq_true_eq]; exact h)]
  · unfold model_Amount_l5
    rw [if_neg (by omega)]
theorem amt_l12 (h9 : p.length ≤ 1000000) (hall : p.all (inN a.Cells.length) = true) (hlen : a.Cells.length = b.Cells.length) :
    lfix (model_Amount_l12 p a b) (List.replicate a.Cells.length false, 0) = some (if freeP a.Cells b.Cells (List.replicate a.Cells.length false) p = true then .inl () else .inr (⟨false, [], []⟩, ⟨false, [], []⟩, 2)) := by
  obtain ⟨t, ht, hR⟩ := lfix_ind (B := model_Amount_l12 p a b) (fun s => p.length - s.2.toNat)
    (fun s => ∃ j : Nat, s.2 = (j : Int) ∧ j ≤ p.length ∧ s.1.length = a.Cells.length ∧ freeP a.Cells b.Cells (List.replicate a.Cells.length false) p = freeP a.Cells b.Cells s.1 (p.drop j))
    (fun t => t = if freeP a.Cells b.Cells (List.replicate a.Cells.length false) p = true then .inl () else .inr (⟨false, [], []⟩, ⟨false, [], []⟩, 2)) (by
      rintro ⟨seen, i⟩ ⟨j, hj, hjl, hsl, hC⟩
      simp only at hj hsl hC
      subst hj
      unfold model_Amount_l12
      simp only [jn_d]
      by_cases hlt : j < p.length
      · have hin := List.all_eq_true.1 hall _ (List.getElem_mem hlt)
        simp only [inN, decide_eq_true_eq] at hin
        rw [if_pos (by omega), idx_nat hlt, bnd_s, idx_Db hin.1 (by omega), bnd_s, idx_D (l := a.Cells) hin.1 (by omega), bnd_s, idx_D (l := b.Cells) hin.1 (by omega), bnd_s]
        rw [free_cons hlt] at hC
        by_cases h1 : (seen.getD (p[j]).toNat false || (a.Cells.getD (p[j]).toNat default).Void || (b.Cells.getD (p[j]).toNat default).Void) = true
        · right
          refine ⟨.inr (⟨false, [], []⟩, ⟨false, [], []⟩, 2), ?_, ?_⟩
          · by_cases hs : seen.getD (p[j]).toNat false = true
            · rw [if_pos hs, if_pos trivial]
            · rw [if_neg hs]
              by_cases ha : (a.Cells.getD (p[j]).toNat default).Void = true
              · rw [if_pos ha, if_pos trivial]
              · rw [if_neg ha, bnd_s, if_pos (by grind)]
          · rw [h1] at hC
            rw [hC]; rfl
        · left
          have h1' : (seen.getD (p[j]).toNat false || (a.Cells.getD (p[j]).toNat default).Void || (b.Cells.getD (p[j]).toNat default).Void) = false := by simpa using h1
          rw [h1'] at hC
          refine ⟨(seen.set (p[j]).toNat true, ((j + 1 : Nat) : Int)), ?_, ⟨j + 1, rfl, by omega, by simp [hsl], by rw [hC]; rfl⟩, by simp only [Int.toNat_natCast]; omega⟩
          rw [if_neg (by grind), if_neg (by grind), bnd_s, if_neg (by grind), setI_D, w64_succ (by omega)]
      · right
        obtain rfl : j = p.length := by omega
        rw [List.drop_length] at hC
        exact ⟨.inl (), by rw [if_neg (by omega)], by rw [hC]; rfl⟩)
    (List.replicate a.Cells.length false, 0) ⟨0, rfl, by omega, by simp, rfl⟩
  rw [hR] at ht; exact ht
/-! ### sums -/
def cellD (l : List S_api_Cell) (i : Int) : S_api_Cell := l.getD i.toNat default
def loA (ca cb : List S_api_Cell) (i : Int) : Int := (cellD cb i).Z.Lo - (cellD ca i).Z.Hi
def hiA (ca cb : List S_api_Cell) (i : Int) : Int := (cellD cb i).Z.Hi - (cellD ca i).Z.Lo
def sumA (f : Int → Int) : List Int → Int
  | [] => 0
  | i :: r => f i + sumA f r
theorem sumA_app (f : Int → Int) : ∀ (l : List Int) (i : Int), sumA f (l ++ [i]) = sumA f l + f i
  | [], i => by simp [sumA]
  | j :: r, i => by simp only [List.cons_append, sumA, sumA_app f r i]; omega
theorem sumA_succ (f : Int → Int) {p : List Int} {k : Nat} (hk : k < p.length) : sumA f (p.take (k + 1)) = sumA f (p.take k) + f p[k] := by
  rw [List.take_succ_eq_append_getElem hk, sumA_app]
theorem sumA_bd (f : Int → Int) : ∀ (l : List Int), (∀ i ∈ l, -536870912 ≤ f i ∧ f i ≤ 536870912) → -536870912 * (l.length : Int) ≤ sumA f l ∧ sumA f l ≤ 536870912 * (l.length : Int)
  | [], _ => by simp [sumA]
  | j :: r, h => by
    have h1 := h j List.mem_cons_self
    have h2 := sumA_bd f r (fun i hi => h i (List.mem_cons_of_mem _ hi))
    simp only [sumA, List.length_cons]
    omega
def Known (a b : S_api_Grid) (p : List Int) : Prop := ∀ i ∈ p, (0 ≤ i ∧ i < (a.Cells.length : Int) ∧ i < (b.Cells.length : Int)) ∧ (-536870912 ≤ loA a.Cells b.Cells i ∧ loA a.Cells b.Cells i ≤ 536870912) ∧ (-536870912 ≤ hiA a.Cells b.Cells i ∧ hiA a.Cells b.Cells i ≤ 536870912)
theorem amount_l3 (h9 : p.length ≤ 5000) (hK : Known a b p) : lfix (model_amount_l3 p b a) (0, 0, 0) = some (sumA (loA a.Cells b.Cells) p, sumA (hiA a.Cells b.Cells) p) := by
  obtain ⟨t, ht, hR⟩ := lfix_ind (B := model_amount_l3 p b a) (fun s => p.length - s.2.2.toNat)
    (fun s => ∃ j : Nat, j ≤ p.length ∧ s = (sumA (loA a.Cells b.Cells) (p.take j), sumA (hiA a.Cells b.Cells) (p.take j), (j : Int)))
    (fun t => t = (sumA (loA a.Cells b.Cells) p, sumA (hiA a.Cells b.Cells) p)) (by
      rintro s ⟨j, hj, rfl⟩
      unfold model_amount_l3
      simp only []
      by_cases hlt : j < p.length
      · left
        have hk := hK _ (List.getElem_mem hlt)
        have b1 := sumA_bd (loA a.Cells b.Cells) (p.take j) (fun i hi => (hK i (List.mem_of_mem_take hi)).2.1)
        have b2 := sumA_bd (hiA a.Cells b.Cells) (p.take j) (fun i hi => (hK i (List.mem_of_mem_take hi)).2.2)
        have b3 : (p.take j).length ≤ 5000 := by rw [List.length_take]; omega
        refine ⟨_, ?_, ⟨j + 1, by omega, rfl⟩, by simp only [Int.toNat_natCast]; omega⟩
        rw [if_pos (by omega), idx_nat hlt, bnd_s, idx_D (l := b.Cells) hk.1.1 hk.1.2.2, bnd_s, idx_D (l := a.Cells) hk.1.1 hk.1.2.1, bnd_s, bnd_s, bnd_s]
        have c1 := hk.2.1
        have c2 := hk.2.2
        simp only [loA, hiA, cellD] at c1 c2
        rw [w64_id (x := (b.Cells.getD (p[j]).toNat default).Z.Lo - (a.Cells.getD (p[j]).toNat default).Z.Hi) (by omega) (by omega), w64_id (x := (b.Cells.getD (p[j]).toNat default).Z.Hi - (a.Cells.getD (p[j]).toNat default).Z.Lo) (by omega) (by omega)]
        rw [w64_succ (by omega), sumA_succ _ hlt, sumA_succ _ hlt]
        simp only [loA, hiA, cellD]
        rw [w64_id (by omega) (by omega), w64_id (by omega) (by omega)]
      · right
        rw [if_neg (by omega)]
        exact ⟨_, rfl, by rw [List.take_of_length_le (by omega)]⟩)
    (0, 0, 0) ⟨0, by omega, by simp [sumA]⟩
  rw [hR] at ht; exact ht
end
theorem area_bd {s z N : Int} (h1 : 1 ≤ s) (h2 : s ≤ 1000000) (h3 : -N ≤ z) (h4 : z ≤ N) : 0 ≤ s * s ∧ s * s ≤ 1000000000000 ∧ -(1000000000000 * N) ≤ s * s * z ∧ s * s * z ≤ 1000000000000 * N := by
  have hN : 0 ≤ N := by omega
  have a1 : 0 ≤ s * s := Int.mul_nonneg (by omega) (by omega)
  have a2 : s * s ≤ 1000000 * 1000000 := Int.mul_le_mul h2 h2 (by omega) (by omega)
  have a3 : s * s * z ≤ s * s * N := Int.mul_le_mul_of_nonneg_left h4 a1
  have a4 : s * s * (-N) ≤ s * s * z := Int.mul_le_mul_of_nonneg_left h3 a1
  have a5 : s * s * N ≤ 1000000000000 * N := Int.mul_le_mul_of_nonneg_right (by omega) hN
  rw [Int.mul_neg] at a4
  exact ⟨a1, by omega, by omega, by omega⟩
theorem digs {z : Int} (h1 : -(1000000000000 * 2684354560000) ≤ z) (h2 : z ≤ 1000000000000 * 2684354560000) : (dig 65536 z.natAbs).length ≤ 6 := dig_len (by omega) 6 _ (by
  have : (65536 : Nat) ^ 6 = 79228162514264337593543950336 := by decide
  omega)
theorem times_eq {f : S_api_Raster} {z : Int} (h1 : 1 ≤ f.Step) (h2 : f.Step ≤ 1000000) (h3 : -9223372036854775808 ≤ z) (h4 : z ≤ 9223372036854775807) : model_times f z = some (Z32 (f.Step * f.Step * z)) := by
  have := area_bd h1 h2 h3 (show z ≤ 9223372036854775808 by omega)
  unfold model_times
  rw [if_pos ⟨⟨by omega, by omega⟩, h3, h4⟩]
theorem amount_eq {a b : S_api_Grid} {p : List Int} (h9 : p.length ≤ 5000) (hK : Known a b p) (h1 : 1 ≤ a.Raster.Step) (h2 : a.Raster.Step ≤ 1000000) :
    model_amount a b p = some (Z32 (a.Raster.Step * a.Raster.Step * sumA (loA a.Cells b.Cells) p), Z32 (a.Raster.Step * a.Raster.Step * sumA (hiA a.Cells b.Cells) p)) := by
  have b1 := sumA_bd (loA a.Cells b.Cells) p (fun i hi => (hK i hi).2.1)
  have b2 := sumA_bd (hiA a.Cells b.Cells) p (fun i hi => (hK i hi).2.2)
  unfold model_amount
  simp only [jn_d]
  rw [amount_l3 h9 hK, bnd_s]
  simp only []
  rw [times_eq h1 h2 (by omega) (by omega), bnd_s, times_eq h1 h2 (by omega) (by omega), bnd_s]
end Go.Proofs.Ytjhknbpiaikblaa
