/- Plain laws: the program's holes. -/
import Derived.Test.YtjhknbpiaikblaaM13
import Derived.Test.YtjhknbpiaikblaaT4
namespace Go.Proofs.Ytjhknbpiaikblaa
open Go Go.RowKit
/-! ### holes -/
def edgeN (X Y i : Nat) : Bool := decide (i % X = 0) || decide (i / X = 0) || decide (i % X + 1 = X) || decide (i / X + 1 = Y)
def hole (X Y k : Nat) (c : List Nat) : S_api_Hole := ⟨((k + 1 : Nat) : Int), nInts c, c.any (edgeN X Y)⟩
noncomputable def holes (X Y : Nat) (m : Nat → Int) : List S_api_Hole := (List.range (firsts X Y m).length).map fun k => hole X Y k (groupAt X Y m k)
def vmarks (l : List S_api_Cell) : List Int := l.map fun c => if c.Void = true then 1 else 0
theorem vmark_iff {l : List S_api_Cell} {i : Nat} (h : i < l.length) : mAt (vmarks l) i ≠ 0 ↔ (l.getD i default).Void = true := by
  simp only [mAt, vmarks, List.getD_eq_getElem?_getD, List.getElem?_map, List.getElem?_eq_getElem h, Option.map_some, Option.getD_some]
  split <;> simp_all
theorem atEdge_eq {f : S_api_Raster} {X Y i : Nat} (hX : f.NX = (X : Int)) (hY : f.NY = (Y : Int)) (h1 : 1 ≤ X ∧ X ≤ 64) (h2 : 1 ≤ Y ∧ Y ≤ 64) (hi : i < X * Y) : model_atEdge f (i : Int) = some (edgeN X Y i) := by
  have hn : X * Y ≤ 64 * 64 := Nat.mul_le_mul h1.2 h2.2
  have e1 : Int.tdiv (i : Int) f.NX = ((i / X : Nat) : Int) := by rw [hX, Int.ofNat_tdiv]
  have e2 : Int.tmod (i : Int) f.NX = ((i % X : Nat) : Int) := by rw [hX, Int.ofNat_tmod]
  have hd : i / X ≤ i := Nat.div_le_self _ _
  unfold model_atEdge
  rw [gd_t (by omega), gd_t (by omega)]
  simp only [jn_d, e1, e2]
  rw [hX, hY, w64_nat (by omega), w64_id (x := (X : Int) - 1) (by omega) (by omega), w64_id (x := (Y : Int) - 1) (by omega) (by omega)]
  unfold edgeN
  generalize i / X = D
  generalize i % X = R
  by_cases a : R = 0
  · rw [if_pos (by omega)]; simp [a]
  · rw [if_neg (by omega)]
    by_cases b : D = 0
    · rw [if_pos (by omega)]; simp [b]
    · rw [if_neg (by omega)]
      by_cases d : R + 1 = X
      · rw [if_pos (by omega)]; simp [d]
      · rw [if_neg (by omega)]
        congr 1
        simp only [a, b, d, decide_false, Bool.false_or]
        congr 1
        exact propext (by omega)
section
variable {g : S_api_Grid} {X Y : Nat}
theorem voids_l5 (h9 : g.Cells.length ≤ 4096) : lfix (model_Voids_l5 g) (List.replicate g.Cells.length 0, 0) = some (vmarks g.Cells) := by
  obtain ⟨t, ht, hR⟩ := lfix_ind (B := model_Voids_l5 g) (fun s => g.Cells.length - s.2.toNat)
    (fun s => ∃ j : Nat, j ≤ g.Cells.length ∧ s = ((vmarks g.Cells).take j ++ List.replicate (g.Cells.length - j) 0, (j : Int)))
    (fun t => t = vmarks g.Cells) (by
      rintro s ⟨j, hj, rfl⟩
      unfold model_Voids_l5
      simp only [jn_d]
      have hvl : (vmarks g.Cells).length = g.Cells.length := by simp [vmarks]
      by_cases hlt : j < g.Cells.length
      · left
        refine ⟨_, ?_, ⟨j + 1, by omega, rfl⟩, by simp only [Int.toNat_natCast]; omega⟩
        have hll : ((vmarks g.Cells).take j ++ List.replicate (g.Cells.length - j) 0).length = g.Cells.length := by simp [hvl]; omega
        rw [if_pos (by omega), idx_nat hlt, bnd_s, idx_nat (by rw [hll]; exact hlt), bnd_s, w64_succ (by omega), setI_nat]
        have e : List.replicate (g.Cells.length - j) (0 : Int) = 0 :: List.replicate (g.Cells.length - (j + 1)) 0 := by
          rw [show g.Cells.length - j = (g.Cells.length - (j + 1)) + 1 by omega, List.replicate_succ]
        have e2 : (vmarks g.Cells).take (j + 1) = (vmarks g.Cells).take j ++ [if g.Cells[j].Void = true then 1 else 0] := by
          rw [List.take_succ_eq_append_getElem (by omega)]; simp [vmarks]
        have hjt : ((vmarks g.Cells).take j).length = j := by rw [List.length_take]; omega
        rw [e, e2]
        by_cases hv : g.Cells[j].Void = true
        · rw [if_pos hv, if_pos hv, List.set_append_right _ _ (by omega), hjt]
          simp
        · rw [if_neg hv, if_neg hv]
          simp
      · right
        obtain rfl : j = g.Cells.length := by omega
        rw [if_neg (by omega)]
        exact ⟨_, rfl, by rw [List.take_of_length_le (by omega)]; simp⟩)
    (List.replicate g.Cells.length 0, 0) ⟨0, by omega, by simp⟩
  rw [hR] at ht; exact ht
theorem voids_l16 (hX : g.Raster.NX = (X : Int)) (hY : g.Raster.NY = (Y : Int)) (h1 : 1 ≤ X ∧ X ≤ 64) (h2 : 1 ≤ Y ∧ Y ≤ 64) (c : List Nat) (hc : ∀ j ∈ c, j < X * Y) (h9 : c.length ≤ 4096) :
    lfix (model_Voids_l16 (nInts c) g) (false, 0) = some (c.any (edgeN X Y)) := by
  obtain ⟨t, ht, hR⟩ := lfix_ind (B := model_Voids_l16 (nInts c) g) (fun s => c.length - s.2.toNat)
    (fun s => ∃ j : Nat, j ≤ c.length ∧ s = ((c.take j).any (edgeN X Y), (j : Int)))
    (fun t => t = c.any (edgeN X Y)) (by
      rintro s ⟨j, hj, rfl⟩
      unfold model_Voids_l16
      simp only [jn_d, nInts_len]
      by_cases hlt : j < c.length
      · left
        refine ⟨_, ?_, ⟨j + 1, by omega, rfl⟩, by simp only [Int.toNat_natCast]; omega⟩
        rw [if_pos (by omega), idx_nInts hlt, bnd_s, w64_succ (by omega), List.take_succ_eq_append_getElem hlt, List.any_append]
        by_cases hb : (c.take j).any (edgeN X Y) = true
        · rw [if_pos hb, hb]; rfl
        · rw [if_neg hb, atEdge_eq hX hY h1 h2 (hc _ (List.getElem_mem hlt)), bnd_s]
          have : (c.take j).any (edgeN X Y) = false := by simpa using hb
          rw [this]; simp
      · right
        obtain rfl : j = c.length := by omega
        rw [if_neg (by omega)]
        exact ⟨_, rfl, by rw [List.take_length]⟩)
    (false, 0) ⟨0, by omega, by simp⟩
  rw [hR] at ht; exact ht
theorem comps_idx {m : Nat → Int} {k : Nat} (h : k < (firsts X Y m).length) : idx (comps X Y m) (k : Int) = some (nInts (groupAt X Y m k)) := by
  rw [idx_nat (by rw [comps_len]; exact h), comps_at h]
theorem voids_eq (hv : validP g = true) (hX : g.Raster.NX = (X : Int)) (hY : g.Raster.NY = (Y : Int)) : model_Voids g = some (holes X Y (mAt (vmarks g.Cells)), 0) := by
  have hl := validP_cells hv
  have hg := goodF_of hl.2.2.2
  have h1 : 1 ≤ X ∧ X ≤ 64 := by have := hg.nx; omega
  have h2 : 1 ≤ Y ∧ Y ≤ 64 := by have := hg.ny; omega
  have hn : g.Cells.length = X * Y := by have := hl.1; rw [hX, hY] at this; exact_mod_cast this
  unfold model_Voids
  rw [valid_eq, bnd_s, if_pos hv]
  simp only [jn_d, Int.toNat_natCast]
  rw [gd_t ⟨by omega, by omega⟩, voids_l5 hl.2.2.1, bnd_s, groups_eq hX hY h1 h2 (by simp [vmarks, hn]), bnd_s]
  have hfl := firsts_len (X := X) (Y := Y) (m := mAt (vmarks g.Cells))
  rw [lfix_build (firsts X Y (mAt (vmarks g.Cells))).length (fun k => hole X Y k (groupAt X Y (mAt (vmarks g.Cells)) k))]
  · rw [bnd_s]; rfl
  · intro j hj acc hacc
    unfold model_Voids_l12
    simp only [jn_d, comps_len]
    have hgl := group_len (X := X) (Y := Y) (m := mAt (vmarks g.Cells)) (k := j)
    rw [if_pos (by omega), comps_idx hj, bnd_s, voids_l16 hX hY h1 h2 _ (fun q hq => group_lt hj hq) (by omega), bnd_s, gd_t (by omega), hacc, w64_succ (by omega)]
    rfl
  · intro acc hacc
    unfold model_Voids_l12
    simp only [comps_len]
    rw [if_neg (by omega)]
end
end Go.Proofs.Ytjhknbpiaikblaa
