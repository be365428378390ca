/- Plain law: the reference's amounts. -/
import Derived.Test.YtjhknbpiaikblaaM8
import Derived.Test.YtjhknbpiaikblaaS24
namespace Go.Proofs.Ytjhknbpiaikblaa
open Go Go.RowKit
theorem refAmount_eq {a b : S_api_Grid} {p : List Int} (h9 : p.length ≤ 5000) (hK : Known a b p) (h1 : 1 ≤ a.Raster.Step) (h2 : a.Raster.Step ≤ 1000000) :
    lidarref09_Amount a b p = some (QZ (a.Raster.Step * a.Raster.Step * sumA (loA a.Cells b.Cells) p), QZ (a.Raster.Step * a.Raster.Step * sumA (hiA a.Cells b.Cells) p)) := by
  have hS := area_bd (z := 0) (N := 0) h1 h2 (by omega) (by omega)
  let S := a.Raster.Step * a.Raster.Step
  let st (x y : Int) (j : Int) : Bool × List Int × List Int × Bool × List Int × List Int × Int := ((Z16 x).Neg, (Z16 x).L, [1], (Z16 y).Neg, (Z16 y).L, [1], j)
  obtain ⟨t, ht, hR⟩ := lfix_ind (B := lidarref09_Amount_l4 p (QZ S) a b) (fun s => p.length - s.2.2.2.2.2.2.toNat)
    (fun s => ∃ j : Nat, j ≤ p.length ∧ s = st (S * sumA (loA a.Cells b.Cells) (p.take j)) (S * sumA (hiA a.Cells b.Cells) (p.take j)) j)
    (fun t => t = ((QZ (S * sumA (loA a.Cells b.Cells) p)).N.Neg, (QZ (S * sumA (loA a.Cells b.Cells) p)).N.L, [1], (QZ (S * sumA (hiA a.Cells b.Cells) p)).N.Neg, (QZ (S * sumA (hiA a.Cells b.Cells) p)).N.L, [1])) (by
      rintro s ⟨j, hj, rfl⟩
      unfold lidarref09_Amount_l4
      simp only [st, jn_d]
      by_cases hlt : j < p.length
      · left
        have hk := hK _ (List.getElem_mem hlt)
        have b3 : (p.take j).length ≤ 4999 := by rw [List.length_take]; omega
        have b1 := sumA_bd (loA a.Cells b.Cells) (p.take j) (fun i hi => (hK i (List.mem_of_mem_take hi)).2.1)
        have b2 := sumA_bd (hiA a.Cells b.Cells) (p.take j) (fun i hi => (hK i (List.mem_of_mem_take hi)).2.2)
        have c1 := hk.2.1
        have c2 := hk.2.2
        have m1 := area_bd (z := loA a.Cells b.Cells p[j]) (N := 536870912) h1 h2 (by omega) (by omega)
        have m2 := area_bd (z := hiA a.Cells b.Cells p[j]) (N := 536870912) h1 h2 (by omega) (by omega)
        have n1 := area_bd (z := sumA (loA a.Cells b.Cells) (p.take j)) (N := 2683817689088) h1 h2 (by omega) (by omega)
        have n2 := area_bd (z := sumA (hiA a.Cells b.Cells) (p.take j)) (N := 2683817689088) h1 h2 (by omega) (by omega)
        have d0 : (dig 65536 S.natAbs).length ≤ 6 := digs (z := S) (by simp only [S]; omega) (by simp only [S]; omega)
        refine ⟨_, ?_, ⟨j + 1, by omega, rfl⟩, by simp only [Int.toNat_natCast]; omega⟩
        rw [if_pos (by omega), idx_nat hlt, bnd_s, idx_D (l := a.Cells) hk.1.1 hk.1.2.1, bnd_s, bnd_s, idx_D (l := b.Cells) hk.1.1 hk.1.2.2, bnd_s]
        have e1 : w64 ((b.Cells.getD (p[j]).toNat default).Z.Lo - (a.Cells.getD (p[j]).toNat default).Z.Hi) = loA a.Cells b.Cells p[j] := by simp only [loA, cellD] at c1 ⊢; exact w64_id (by omega) (by omega)
        have e2 : w64 ((b.Cells.getD (p[j]).toNat default).Z.Hi - (a.Cells.getD (p[j]).toNat default).Z.Lo) = hiA a.Cells b.Cells p[j] := by simp only [hiA, cellD] at c2 ⊢; exact w64_id (by omega) (by omega)
        rw [e1, e2, whole_eq (by omega) (by omega), bnd_s]
        rw [mul_Q (by have := digs (z := loA a.Cells b.Cells p[j]) (by omega) (by omega); omega) (by have := digs (z := S * loA a.Cells b.Cells p[j]) (by simp only [S]; omega) (by simp only [S]; omega); omega), bnd_s]
        have f1 : ∀ x : Int, (⟨⟨(Z16 x).Neg, (Z16 x).L⟩, [1]⟩ : S_lidarref01_Q) = QZ x := fun x => rfl
        rw [f1, add_Q (by have := digs (z := S * sumA (loA a.Cells b.Cells) (p.take j)) (by simp only [S]; omega) (by simp only [S]; omega); omega) (by have := digs (z := S * loA a.Cells b.Cells p[j]) (by simp only [S]; omega) (by simp only [S]; omega); omega) (by have := digs (z := S * sumA (loA a.Cells b.Cells) (p.take j) + S * loA a.Cells b.Cells p[j]) (by simp only [S]; omega) (by simp only [S]; omega); omega), bnd_s]
        rw [whole_eq (by omega) (by omega), bnd_s]
        rw [mul_Q (by have := digs (z := hiA a.Cells b.Cells p[j]) (by omega) (by omega); omega) (by have := digs (z := S * hiA a.Cells b.Cells p[j]) (by simp only [S]; omega) (by simp only [S]; omega); omega), bnd_s]
        rw [f1, add_Q (by have := digs (z := S * sumA (hiA a.Cells b.Cells) (p.take j)) (by simp only [S]; omega) (by simp only [S]; omega); omega) (by have := digs (z := S * hiA a.Cells b.Cells p[j]) (by simp only [S]; omega) (by simp only [S]; omega); omega) (by have := digs (z := S * sumA (hiA a.Cells b.Cells) (p.take j) + S * hiA a.Cells b.Cells p[j]) (by simp only [S]; omega) (by simp only [S]; omega); omega), bnd_s]
        rw [w64_succ (by omega), sumA_succ _ hlt, sumA_succ _ hlt, Int.mul_add, Int.mul_add]
        rfl
      · right
        rw [if_neg (by omega)]
        exact ⟨_, rfl, by rw [List.take_of_length_le (by omega)]; rfl⟩)
    (st 0 0 0) ⟨0, by omega, by simp [sumA]⟩
  unfold lidarref09_Amount
  simp only [jn_d]
  rw [whole_eq (by omega) (by omega), bnd_s, bnd_s, w64_id (by omega) (by omega), whole_eq (by omega) (by omega), bnd_s]
  have ht' : lfix (lidarref09_Amount_l4 p (QZ (a.Raster.Step * a.Raster.Step)) a b) ((QZ 0).N.Neg, (QZ 0).N.L, (QZ 0).D, (QZ 0).N.Neg, (QZ 0).N.L, (QZ 0).D, 0) = some t := ht
  rw [ht', bnd_s, hR]
  rfl
end Go.Proofs.Ytjhknbpiaikblaa
