/- Plain laws: amounts. -/
import Derived.Test.YtdcdabkoajhllaaKQ3
namespace Go.Proofs.Ytdcdabkoajhllaa
open Go Go.RowKit
/-- A loop over a list that carries a sum. -/
def inN (n : Nat) (i : Int) : Bool := decide (0 ≤ i ∧ i < (n : Int))
section
variable {a b : S_api_Grid} {p : List Int}
def cellD (l : List S_api_Cell) (i : Int) : S_api_Cell := l.getD i.toNat default
def loA (ca cb : List S_api_Cell) (i : Int) : Int := (cellD cb i).Z.Lo - (cellD ca i).Z.Hi
def hiA (ca cb : List S_api_Cell) (i : Int) : Int := (cellD cb i).Z.Hi - (cellD ca i).Z.Lo
def sumA (f : Int → Int) : List Int → Int
  | [] => 0
  | i :: r => f i + sumA f r
theorem sumA_app (f : Int → Int) : ∀ (l : List Int) (i : Int), sumA f (l ++ [i]) = sumA f l + f i
  | [], i => by simp [sumA]
  | j :: r, i => by simp only [List.cons_append, sumA, sumA_app f r i]; omega
theorem sumA_succ (f : Int → Int) {p : List Int} {k : Nat} (hk : k < p.length) : sumA f (p.take (k + 1)) = sumA f (p.take k) + f p[k] := by
  rw [List.take_succ_eq_append_getElem hk, sumA_app]
theorem sumA_bd (f : Int → Int) : ∀ (l : List Int), (∀ i ∈ l, -536870912 ≤ f i ∧ f i ≤ 536870912) → -536870912 * (l.length : Int) ≤ sumA f l ∧ sumA f l ≤ 536870912 * (l.length : Int)
  | [], _ => by simp [sumA]
  | j :: r, h => by
    have h1 := h j List.mem_cons_self
    have h2 := sumA_bd f r (fun i hi => h i (List.mem_cons_of_mem _ hi))
    simp only [sumA, List.length_cons]
    omega
def Known (a b : S_api_Grid) (p : List Int) : Prop := ∀ i ∈ p, (0 ≤ i ∧ i < (a.Cells.length : Int) ∧ i < (b.Cells.length : Int)) ∧ (-536870912 ≤ loA a.Cells b.Cells i ∧ loA a.Cells b.Cells i ≤ 536870912) ∧ (-536870912 ≤ hiA a.Cells b.Cells i ∧ hiA a.Cells b.Cells i ≤ 536870912)
theorem amount_l3 (h9 : p.length ≤ 5000) (hK : Known a b p) : lfix (model_amount_l3 p b a) (0, 0, 0) = some (sumA (loA a.Cells b.Cells) p, sumA (hiA a.Cells b.Cells) p) := by
  obtain ⟨t, ht, hR⟩ := lfix_ind (B := model_amount_l3 p b a) (fun s => p.length - s.2.2.toNat)
    (fun s => ∃ j : Nat, j ≤ p.length ∧ s = (sumA (loA a.Cells b.Cells) (p.take j), sumA (hiA a.Cells b.Cells) (p.take j), (j : Int)))
    (fun t => t = (sumA (loA a.Cells b.Cells) p, sumA (hiA a.Cells b.Cells) p)) (by
      rintro s ⟨j, hj, rfl⟩
      unfold model_amount_l3
      simp only []
      by_cases hlt : j < p.length
      · left
        have hk := hK _ (List.getElem_mem hlt)
        have b1 := sumA_bd (loA a.Cells b.Cells) (p.take j) (fun i hi => (hK i (List.mem_of_mem_take hi)).2.1)
        have b2 := sumA_bd (hiA a.Cells b.Cells) (p.take j) (fun i hi => (hK i (List.mem_of_mem_take hi)).2.2)
        have b3 : (p.take j).length ≤ 5000 := by rw [List.length_take]; omega
        refine ⟨_, ?_, ⟨j + 1, by omega, rfl⟩, by simp only [Int.toNat_natCast]; omega⟩
        rw [if_pos (by omega), idx_nat hlt, bnd_s, idx_D (l := b.Cells) hk.1.1 hk.1.2.2, bnd_s, idx_D (l := a.Cells) hk.1.1 hk.1.2.1, bnd_s, bnd_s, bnd_s]
        have c1 := hk.2.1
        have c2 := hk.2.2
        simp only [loA, hiA, cellD] at c1 c2
        rw [w64_id (x := (b.Cells.getD (p[j]).toNat default).Z.Lo - (a.Cells.getD (p[j]).toNat default).Z.Hi) (by omega) (by omega), w64_id (x := (b.Cells.getD (p[j]).toNat default).Z.Hi - (a.Cells.getD (p[j]).toNat default).Z.Lo) (by omega) (by omega)]
        rw [w64_succ (by omega), sumA_succ _ hlt, sumA_succ _ hlt]
        simp only [loA, hiA, cellD]
        rw [w64_id (by omega) (by omega), w64_id (by omega) (by omega)]
      · right
        rw [if_neg (by omega)]
        exact ⟨_, rfl, by rw [List.take_of_length_le (by omega)]⟩)
    (0, 0, 0) ⟨0, by omega, by simp [sumA]⟩
  rw [hR] at ht; exact ht
end
theorem amount_eq {a b : S_api_Grid} {p : List Int} (h9 : p.length ≤ 5000) (hK : Known a b p) (h1 : 1 ≤ a.Raster.Step) (h2 : a.Raster.Step ≤ 1000000) :
    model_amount a b p = some (Z32 (a.Raster.Step * a.Raster.Step * sumA (loA a.Cells b.Cells) p), Z32 (a.Raster.Step * a.Raster.Step * sumA (hiA a.Cells b.Cells) p)) := by
  have b1 := sumA_bd (loA a.Cells b.Cells) p (fun i hi => (hK i hi).2.1)
  have b2 := sumA_bd (hiA a.Cells b.Cells) p (fun i hi => (hK i hi).2.2)
  unfold model_amount
  simp only [jn_d]
  rw [amount_l3 h9 hK, bnd_s]
  simp only []
  rw [times_eq h1 h2 (by omega) (by omega), bnd_s, times_eq h1 h2 (by omega) (by omega), bnd_s]

open Go Go.RowKit
theorem cell_rng {g : S_api_Grid} (h : validP g = true) (i : Int) (h0 : 0 ≤ i) (h1 : i < (g.Cells.length : Int)) : -268435456 ≤ (cellD g.Cells i).Z.Lo ∧ (cellD g.Cells i).Z.Lo ≤ 268435456 ∧ -268435456 ≤ (cellD g.Cells i).Z.Hi ∧ (cellD g.Cells i).Z.Hi ≤ 268435456 := by
  have hn : i.toNat < g.Cells.length := by omega
  have hc : cellD g.Cells i = g.Cells[i.toNat] := by simp [cellD, hn]
  rw [hc]
  simp only [validP, Bool.and_eq_true, List.all_eq_true] at h
  have := h.2 _ (List.getElem_mem hn)
  simp only [cellP, coordP] at this
  grind
theorem known_of {a b : S_api_Grid} {p : List Int} (hp : pairP a b = 0) (hall : p.all (inN a.Cells.length) = true) : Known a b p := by
  intro i hi
  have h1 := List.all_eq_true.1 hall i hi
  simp only [inN, decide_eq_true_eq] at h1
  have h2 := pairP_len hp
  have h3 := pairP_zero hp
  have c1 := cell_rng h3.1 i h1.1 h1.2
  have c2 := cell_rng h3.2.1 i h1.1 (by omega)
  simp only [loA, hiA]
  omega
end Go.Proofs.Ytdcdabkoajhllaa
