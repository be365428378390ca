/- Plain laws: rasters, grids, states. -/
import Derived.Test.YtdcdabkoajhllaaK1
import Derived.Test.YtdcdabkoajhllaaP0
namespace Go.Proofs.Ytdcdabkoajhllaa
open Go Go.RowKit
def coordP (x : Int) : Bool := decide (-268435456 ≤ x ∧ x ≤ 268435456)
def rasterP (f : S_api_Raster) : Bool := decide (1 ≤ f.Step ∧ f.Step ≤ 1000000) && decide (1 ≤ f.NX ∧ f.NX ≤ 64) && decide (1 ≤ f.NY ∧ f.NY ≤ 64) && coordP f.X0 && coordP f.Y0 && coordP (f.X0 + (f.NX - 1) * f.Step) && coordP (f.Y0 + (f.NY - 1) * f.Step)
theorem within_eq (a b c : Int) : model_within a b c = some (decide (a ≤ b ∧ b ≤ c)) := by
  unfold model_within jn; split <;> simp_all <;> omega
theorem validCoord_eq (x : Int) : model_validCoord x = some (coordP x) := by
  unfold model_validCoord; rw [within_eq]; rfl
theorem prod_bd {a b : Int} (h1 : 1 ≤ a) (h2 : a ≤ 64) (h3 : 1 ≤ b) (h4 : b ≤ 64) : 1 ≤ a * b ∧ a * b ≤ 4096 := by
  have := mul_bd (a := a) (b := b) (A := 64) (B := 64) (by omega) h2 (by omega) h4
  have h5 : 1 * 1 ≤ a * b := Int.mul_le_mul h1 h3 (by omega) (by omega)
  omega
theorem step_bd {a b : Int} (h1 : 0 ≤ a) (h2 : a ≤ 63) (h3 : 1 ≤ b) (h4 : b ≤ 1000000) : 0 ≤ a * b ∧ a * b ≤ 63000000 := by
  have := mul_bd (a := a) (b := b) (A := 63) (B := 1000000) h1 h2 (by omega) h4
  omega
theorem tmod_pos {a b : Int} (h : 0 ≤ a) : Int.tmod a b = a % b := Int.tmod_eq_emod_of_nonneg h
theorem tdiv_pos {a b : Int} (h : 0 ≤ a) : Int.tdiv a b = a / b := Int.tdiv_eq_ediv_of_nonneg h
structure GoodF (f : S_api_Raster) : Prop where
  st : 1 ≤ f.Step ∧ f.Step ≤ 1000000
  nx : 1 ≤ f.NX ∧ f.NX ≤ 64
  ny : 1 ≤ f.NY ∧ f.NY ≤ 64
  x0 : -268435456 ≤ f.X0 ∧ f.X0 ≤ 268435456
  y0 : -268435456 ≤ f.Y0 ∧ f.Y0 ≤ 268435456
theorem node_eq {f : S_api_Raster} {i : Int} (h : GoodF f) (h0 : 0 ≤ i) (h1 : i < f.NX * f.NY) : model_node f i = some ⟨f.X0 + i % f.NX * f.Step, f.Y0 + i / f.NX * f.Step⟩ := by
  obtain ⟨hst, hnx, hny, hx0, hy0⟩ := h
  have hm : 0 ≤ i % f.NX ∧ i % f.NX ≤ 63 := ⟨Int.emod_nonneg _ (by omega), by have := Int.emod_lt_of_pos i (show 0 < f.NX by omega); omega⟩
  have hd : 0 ≤ i / f.NX ∧ i / f.NX ≤ 63 := by
    refine ⟨Int.ediv_nonneg h0 (by omega), ?_⟩
    have : i / f.NX < f.NY := Int.ediv_lt_of_lt_mul (by omega) (by rw [Int.mul_comm]; exact h1)
    omega
  have b1 := step_bd hm.1 hm.2 hst.1 hst.2
  have b2 := step_bd hd.1 hd.2 hst.1 hst.2
  unfold model_node
  rw [gd_t (by omega), gd_t (by omega), tmod_pos h0, tdiv_pos h0]
  generalize i % f.NX = m at *
  generalize i / f.NX = d at *
  rw [w64_id (x := d) (by omega) (by omega)]
  generalize m * f.Step = u at *
  generalize d * f.Step = v at *
  rw [w64_id (x := u) (by omega) (by omega), w64_id (x := v) (by omega) (by omega), w64_id (by omega) (by omega), w64_id (by omega) (by omega)]
theorem goodF_of {f : S_api_Raster} (h : rasterP f = true) : GoodF f := by
  simp only [rasterP, coordP, Bool.and_eq_true, decide_eq_true_eq] at h
  obtain ⟨⟨⟨⟨⟨⟨a, b⟩, c⟩, d⟩, e⟩, _⟩, _⟩ := h
  exact ⟨a, b, c, d, e⟩
theorem last_node {f : S_api_Raster} (hnx : 1 ≤ f.NX ∧ f.NX ≤ 64) (hny : 1 ≤ f.NY ∧ f.NY ≤ 64) : (f.NX * f.NY - 1) % f.NX = f.NX - 1 ∧ (f.NX * f.NY - 1) / f.NX = f.NY - 1 := by
  have e : f.NX * f.NY - 1 = (f.NX - 1) + f.NX * (f.NY - 1) := by rw [Int.mul_sub]; omega
  rw [e]
  constructor
  · rw [Int.add_mul_emod_self_left]; exact Int.emod_eq_of_lt (by omega) (by omega)
  · rw [Int.add_mul_ediv_left _ _ (by omega), Int.ediv_eq_zero_of_lt (by omega) (by omega)]; omega
theorem validRaster_eq (f : S_api_Raster) : model_ValidRaster f = some (rasterP f) := by
  unfold model_ValidRaster
  simp only [jn_d, within_eq, validCoord_eq, bnd_s]
  by_cases h1 : 1 ≤ f.Step ∧ f.Step ≤ 1000000
  · by_cases h2 : 1 ≤ f.NX ∧ f.NX ≤ 64
    · by_cases h3 : 1 ≤ f.NY ∧ f.NY ≤ 64
      · by_cases h4 : coordP f.X0 = true
        · by_cases h5 : coordP f.Y0 = true
          · have g4 := h4; have g5 := h5
            simp only [coordP, decide_eq_true_eq] at g4 g5
            have hp := prod_bd h2.1 h2.2 h3.1 h3.2
            have hl := last_node h2 h3
            have hn := node_eq (f := f) (i := f.NX * f.NY - 1) ⟨h1, h2, h3, g4, g5⟩ (by omega) (by omega)
            rw [hl.1, hl.2] at hn
            rw [w64_id (x := f.NX * f.NY) (by omega) (by omega), w64_id (by omega) (by omega), hn]
            simp only [bnd_s, h1, h2, h3, h4, h5, decide_true, if_true, Bool.not_true, if_false, rasterP, Bool.and_true, Bool.true_and, Bool.false_eq_true]
            by_cases h6 : coordP (f.X0 + (f.NX - 1) * f.Step) = true <;> simp [h6]
          · simp [h1, h2, h3, h4, h5, rasterP]
        · simp [h1, h2, h3, h4, rasterP]
      · simp [h1, h2, h3, rasterP]
    · simp [h1, h2, rasterP]
  · simp [h1, rasterP]
theorem place_eq (p : S_api_XY) : lidarref01_Place p = some (coordP p.X && coordP p.Y) := by
  unfold lidarref01_Place jn coordP
  repeat' split
  all_goals (simp_all <;> omega)
theorem refValidRaster_eq (f : S_api_Raster) : lidarref09_ValidRaster f = some (rasterP f) := by
  unfold lidarref09_ValidRaster
  simp only [jn_d, place_eq, bnd_s]
  by_cases h1 : 1 ≤ f.Step ∧ f.Step ≤ 1000000
  · by_cases h2 : 1 ≤ f.NX ∧ f.NX ≤ 64
    · by_cases h3 : 1 ≤ f.NY ∧ f.NY ≤ 64
      · by_cases h4 : (coordP f.X0 && coordP f.Y0) = true
        · have g4 := h4
          simp only [coordP, Bool.and_eq_true, decide_eq_true_eq] at g4
          have b1 := step_bd (a := f.NX - 1) (b := f.Step) (by omega) (by omega) h1.1 h1.2
          have b2 := step_bd (a := f.NY - 1) (b := f.Step) (by omega) (by omega) h1.1 h1.2
          rw [w64_id (x := f.NX - 1) (by omega) (by omega), w64_id (x := f.NY - 1) (by omega) (by omega)]
          simp only [rasterP]
          generalize (f.NX - 1) * f.Step = u at *
          generalize (f.NY - 1) * f.Step = v at *
          rw [w64_id (x := u) (by omega) (by omega), w64_id (x := v) (by omega) (by omega), w64_id (x := f.X0 + u) (by omega) (by omega), w64_id (x := f.Y0 + v) (by omega) (by omega)]
          rw [if_neg (by omega), if_neg (by omega), if_neg (by omega), if_neg (by omega), if_neg (by omega), if_neg (by omega)]
          simp [h4, h1, h2, h3]
        · simp only [rasterP]
          rw [if_neg (by omega), if_neg (by omega), if_neg (by omega), if_neg (by omega), if_neg (by omega), if_neg (by omega)]
          simp only [Bool.not_eq_true] at h4
          simp [h4, h1, h2, h3]
      · simp only [rasterP]
        grind
    · simp only [rasterP]
      grind
  · simp only [rasterP]
    grind
def cellP (c : S_api_Cell) : Bool := if c.Void = true then decide (c.Z.Lo = 0 ∧ c.Z.Hi = 0) else decide (c.Z.Lo ≤ c.Z.Hi) && coordP c.Z.Lo && coordP c.Z.Hi
theorem spanValid_eq (z : S_api_Span) : exact_Valid z = some (decide (-1152921504606846976 ≤ z.Lo ∧ z.Lo ≤ z.Hi ∧ z.Hi ≤ 1152921504606846976)) := by
  unfold exact_Valid jn
  repeat' split
  all_goals (simp_all <;> omega)
theorem validCell_eq (c : S_api_Cell) : model_validCell c = some (cellP c) := by
  unfold model_validCell
  simp only [jn_d, spanValid_eq, validCoord_eq, bnd_s, cellP, coordP, Bool.decide_and]
  grind
def validP (g : S_api_Grid) : Bool := rasterP g.Raster && decide ((g.Cells.length : Int) = g.Raster.NX * g.Raster.NY) && g.Cells.all cellP
theorem validP_len {g : S_api_Grid} (h : rasterP g.Raster = true) : w64 (g.Raster.NX * g.Raster.NY) = g.Raster.NX * g.Raster.NY ∧ 1 ≤ g.Raster.NX * g.Raster.NY ∧ g.Raster.NX * g.Raster.NY ≤ 4096 := by
  have hg := goodF_of h
  have := prod_bd hg.nx.1 hg.nx.2 hg.ny.1 hg.ny.2
  exact ⟨w64_id (by omega) (by omega), this⟩
theorem valid_shape {g : S_api_Grid} {R : Option Bool} {B : Int → Option (Sum Int (Sum Unit Bool))} (hR : R = some (rasterP g.Raster))
    (h1 : ∀ (j : Nat) (h : j < g.Cells.length), g.Cells.length ≤ 4096 → B j = if cellP g.Cells[j] = true then some (.inl ((j + 1 : Nat) : Int)) else some (.inr (.inr false))) (h2 : B g.Cells.length = some (.inr (.inl ()))) :
    jn (fun (s3 : Bool) => if s3 = true then (some false) else (jn (fun (s5 : Unit) => some true) (fun j5 => bnd (lfix B 0) fun t35 => (match t35 with | (.inl z35) => j5 z35 | (.inr (z35)) => some z35))))
      (fun j3 => bnd R fun r2 => if r2 = true then (j3 (!(decide (((((g.Cells).length : Nat) : Int)) = (w64 (g.Raster.NX * g.Raster.NY)))))) else (j3 true)) = some (validP g) := by
  simp only [jn_d, hR, bnd_s, validP]
  by_cases hr : rasterP g.Raster = true
  · obtain ⟨e1, e2, e3⟩ := validP_len hr
    rw [e1]
    by_cases hl : (g.Cells.length : Int) = g.Raster.NX * g.Raster.NY
    · rw [lfix_all g.Cells cellP B () false (fun j h => h1 j h (by omega)) h2]
      by_cases ha : g.Cells.all cellP = true <;> simp [hr, hl, ha, bnd_s]
    · simp [hr, hl]
  · simp [hr]
theorem valid_eq (g : S_api_Grid) : model_Valid g = some (validP g) := by
  unfold model_Valid
  refine valid_shape (validRaster_eq _) (fun j h hl => ?_) ?_
  · unfold model_Valid_l4
    rw [if_pos (by omega), idx_nat h, bnd_s, validCell_eq, bnd_s, w64_succ (by omega)]
  · unfold model_Valid_l4
    rw [if_neg (by omega)]
theorem refValid_eq (g : S_api_Grid) : lidarref09_Valid g = some (validP g) := by
  unfold lidarref09_Valid
  refine valid_shape (refValidRaster_eq _) (fun j h hl => ?_) ?_
  · unfold lidarref09_Valid_l4
    rw [if_pos (by omega), idx_nat h, bnd_s, w64_succ (by omega)]
    simp only [jn_d, cellP, coordP]
    generalize g.Cells[j] = c
    grind
  · unfold lidarref09_Valid_l4
    rw [if_neg (by omega)]
def rasSame (a b : S_api_Raster) : Bool := ((((a.X0) == (b.X0)) && (((a.Y0) == (b.Y0)) && (((a.Step) == (b.Step)) && (((a.NX) == (b.NX)) && (((a.NY) == (b.NY)) && true))))))
def pairP (a b : S_api_Grid) : Int := if (validP a && validP b) = true then (if rasSame a.Raster b.Raster = true then 0 else 91) else 90
theorem pair_eq (a b : S_api_Grid) : model_pair a b = some (pairP a b) := by
  unfold model_pair
  simp only [jn_d, valid_eq, bnd_s, pairP, rasSame]
  grind
theorem pairP_zero {a b : S_api_Grid} (h : pairP a b = 0) : validP a = true ∧ validP b = true ∧ rasSame a.Raster b.Raster = true := by
  unfold pairP at h
  grind
theorem rasSame_eq {a b : S_api_Raster} (h : rasSame a b = true) : a = b := by
  obtain ⟨a1, a2, a3, a4, a5⟩ := a
  obtain ⟨b1, b2, b3, b4, b5⟩ := b
  simp [rasSame] at h
  simp [h]
theorem validP_cells {g : S_api_Grid} (h : validP g = true) : (g.Cells.length : Int) = g.Raster.NX * g.Raster.NY ∧ 1 ≤ g.Cells.length ∧ g.Cells.length ≤ 4096 ∧ rasterP g.Raster = true := by
  simp only [validP, Bool.and_eq_true, decide_eq_true_eq] at h
  obtain ⟨e1, e2, e3⟩ := validP_len h.1.1
  exact ⟨h.1.2, by omega, by omega, h.1.1⟩
theorem pairP_len {a b : S_api_Grid} (h : pairP a b = 0) : a.Cells.length = b.Cells.length ∧ a.Cells.length ≤ 4096 := by
  obtain ⟨h1, h2, h3⟩ := pairP_zero h
  have e := rasSame_eq h3
  have c1 := validP_cells h1
  have c2 := validP_cells h2
  rw [e] at c1
  omega
def stateP (a b : S_api_Cell) : Int := if (a.Void || b.Void) = true then 2 else if a.Z.Hi < b.Z.Lo then 1 else if b.Z.Hi < a.Z.Lo then -1 else 0
theorem state_eq (a b : S_api_Cell) : model_state a b = some (stateP a b) := by
  unfold model_state jn stateP; grind
def statesP (l r : List S_api_Cell) : List Int := List.zipWith stateP l r
theorem range_zip {α β γ : Type} [Inhabited α] [Inhabited β] (f : α → β → γ) {l : List α} {r : List β} (h : l.length = r.length) : (List.range l.length).map (fun i => f (l.getD i default) (r.getD i default)) = List.zipWith f l r := by
  apply List.ext_getElem
  · simp [h]
  · intro i h1 h2
    simp at h1
    simp [h1, h ▸ h1]
instance : Inhabited S_api_Cell := ⟨⟨false, ⟨0, 0⟩⟩⟩
theorem states_eq {a b : S_api_Grid} (h : a.Cells.length = b.Cells.length) (h9 : a.Cells.length ≤ 4096) : model_states a b = some (statesP a.Cells b.Cells) := by
  unfold model_states
  rw [gd_t (by omega), jn_d]
  rw [lfix_build a.Cells.length (fun i => stateP (a.Cells.getD i default) (b.Cells.getD i default))]
  · rw [bnd_s, range_zip _ h]; rfl
  · intro j hj acc hacc
    unfold model_states_l3
    simp only
    rw [if_pos (by omega), idx_nat hj, bnd_s, idx_nat (h ▸ hj), bnd_s, state_eq, bnd_s, gd_t (by omega), w64_succ (by omega)]
    simp [hj, h ▸ hj]
  · intro acc hacc
    unfold model_states_l3
    simp only
    rw [if_neg (by omega)]
end Go.Proofs.Ytdcdabkoajhllaa
