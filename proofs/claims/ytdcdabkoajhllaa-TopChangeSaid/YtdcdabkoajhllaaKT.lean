/- The statement TopChange in plain Lean. -/
import Derived.Test.YtdcdabkoajhllaaK5
import Derived.Test.YtdcdabkoajhllaaT8
import Derived.Test.YtdcdabkoajhllaaKQ3
import Derived.Test.YtdcdabkoajhllaaKQ4
namespace Go.Proofs.Ytdcdabkoajhllaa
open Go Go.RowKit
def commonP (a b : S_api_Cell) : S_api_Cell := if a.Void = true then b else if b.Void = true then a else if stateP a b = 0 then ⟨false, ⟨max a.Z.Lo b.Z.Lo, min a.Z.Hi b.Z.Hi⟩⟩ else ⟨true, ⟨0, 0⟩⟩
theorem common_eq (a b : S_api_Cell) : model_common a b = some (commonP a b) := by
  unfold model_common commonP
  rw [state_eq, bnd_s]
  grind
theorem commonG_eq (a b : S_api_Grid) : model_Common a b = some (if pairP a b = 0 then (⟨a.Raster, List.zipWith commonP a.Cells b.Cells⟩, 0) else (⟨⟨0, 0, 0, 0, 0⟩, []⟩, pairP a b)) := by
  unfold model_Common
  rw [pair_eq, bnd_s]
  by_cases h : pairP a b = 0
  · obtain ⟨h1, h2⟩ := pairP_len h
    rw [if_pos h, if_pos h, jn_d]
    rw [lfix_build a.Cells.length (fun i => commonP (a.Cells.getD i default) (b.Cells.getD i default))]
    · rw [bnd_s, range_zip _ h1]
    · intro j hj acc hacc
      unfold model_Common_l6
      simp only
      rw [if_pos (by omega), idx_nat hj, bnd_s, idx_nat (h1 ▸ hj), bnd_s, common_eq, bnd_s, gd_t (by omega), w64_succ (by omega)]
      simp [hj, h1 ▸ hj]
    · intro acc hacc
      unfold model_Common_l6
      simp only
      rw [if_neg (by omega)]
  · rw [if_neg h, if_neg h]
def chgP (z : Int) : Bool := decide (z = 1 ∨ z = -1)
theorem changed_eq (z : Int) : model_Consistent_1 z = some (chgP z) := by
  unfold model_Consistent_1 jn chgP; grind
/-- A loop over the places of a list that stops where a test holds. -/
theorem lfix_any (l : List Int) (p : Int → Bool) (B : Int → Option (Sum Int (Sum Unit Int)))
    (h1 : ∀ (j : Nat) (h : j < l.length), B j = if p l[j] = true then some (.inr (.inr (j : Int))) else some (.inl ((j + 1 : Nat) : Int))) (h2 : B l.length = some (.inr (.inl ()))) :
    ∃ t, lfix B 0 = some t ∧ (l.any p = true → ∃ z : Int, 0 ≤ z ∧ t = .inr z) ∧ (l.any p = false → t = .inl ()) := by
  have key : ∀ (m k : Nat), k ≤ l.length → l.length - k = m → ∃ t, lfix B k = some t ∧ ((l.drop k).any p = true → ∃ z : Int, 0 ≤ z ∧ t = .inr z) ∧ ((l.drop k).any p = false → t = .inl ()) := by
    intro m
    induction m with
    | zero =>
      intro k hk hm
      obtain rfl : k = l.length := by omega
      rw [lfix_eq, h2]
      exact ⟨_, rfl, by simp, by simp⟩
    | succ m ih =>
      intro k hk hm
      have hlt : k < l.length := by omega
      rw [lfix_eq, h1 k hlt, List.drop_eq_getElem_cons hlt, List.any_cons]
      by_cases hp : p l[k] = true
      · rw [if_pos hp]
        exact ⟨_, rfl, fun _ => ⟨_, by omega, rfl⟩, by simp [hp]⟩
      · rw [if_neg hp]
        have hp' : p l[k] = false := by simpa using hp
        rw [hp', Bool.false_or]
        exact ih (k + 1) (by omega) (by omega)
  exact key l.length 0 (Nat.zero_le _) rfl
theorem contains_eq {l : List Int} (h : l.length ≤ 4096) : slices_ContainsFunc_c l = some (l.any chgP) := by
  unfold slices_ContainsFunc_c slices_IndexFunc_c
  simp only [jn_d]
  have g1 : ∀ (j : Nat) (h : j < l.length), slices_IndexFunc_c_l2 l j = if chgP l[j] = true then some (.inr (.inr (j : Int))) else some (.inl ((j + 1 : Nat) : Int)) := by
    intro j hj
    unfold slices_IndexFunc_c_l2
    rw [if_pos (by omega), idx_nat hj, bnd_s, changed_eq, bnd_s, w64_succ (by omega)]
  have g2 : slices_IndexFunc_c_l2 l l.length = some (.inr (.inl ())) := by unfold slices_IndexFunc_c_l2; rw [if_neg (by omega)]
  obtain ⟨t, h1, h2, h3⟩ := lfix_any l chgP _ g1 g2
  rw [h1, bnd_s]
  cases ha : l.any chgP with
  | true => obtain ⟨z, h4, rfl⟩ := h2 ha; simp [bnd_s]; exact h4
  | false => rw [h3 ha]; simp [bnd_s]
theorem consistent_eq {a b : S_api_Grid} (h : pairP a b = 0) : model_Consistent a b = some (!((statesP a.Cells b.Cells).any chgP), 0) := by
  obtain ⟨h1, h2⟩ := pairP_len h
  unfold model_Consistent
  rw [pair_eq, bnd_s, if_pos h, states_eq h1 h2, bnd_s, contains_eq (by simp [statesP]; omega), bnd_s]
theorem shr_bd {k : IntKind} {a b : Int} (h : 0 ≤ a) : 0 ≤ shr_ k a b ∧ shr_ k a b ≤ a := by
  unfold shr_
  have hp : (0 : Int) ≤ 2 ^ (min b.toNat k.bits) := Int.pow_nonneg (by omega)
  rw [Int.fdiv_eq_ediv_of_nonneg _ hp]
  exact ⟨Int.ediv_nonneg h hp, Int.ediv_le_self _ h⟩
theorem tm_bd {a n : Int} (h : 0 ≤ a) (hn : 0 < n) : 0 ≤ Int.tmod a n ∧ Int.tmod a n < n := by
  rw [Int.tmod_eq_emod_of_nonneg h]
  exact ⟨Int.emod_nonneg _ (by omega), Int.emod_lt_of_pos _ hn⟩
def gc (p : S_lidartop_Change) (i : Nat) : S_api_Cell := p.G.Cells.getD i default
def low (p : S_lidartop_Change) (i : Nat) : Int := Int.tmod (w64 (shr_ .u32 p.More (Int.tmod (i : Int) 16))) 50
def high (p : S_lidartop_Change) (i : Nat) : Int := Int.tmod (w64 (shr_ .u32 p.More (Int.tmod (i : Int) 13))) 40
def mv (p : S_lidartop_Change) (i : Nat) : Int := if 0 < p.Moved.length then p.Moved.getD (i % p.Moved.length) default else 0
def tr (p : S_lidartop_Change) (i : Nat) : Int := if (gc p i).Void = true then (i : Int) else (gc p i).Z.Lo + Int.tmod (p.Part + 7 * (i : Int)) ((gc p i).Z.Hi - (gc p i).Z.Lo + 1)
def la (p : S_lidartop_Change) (i : Nat) : Int := tr p i + mv p i
def vd (p : S_lidartop_Change) (i : Nat) : Prop := (bit_and .u16 (shr_ .u16 p.Voids (Int.tmod (i : Int) 16)) 1) = 1
instance (p : S_lidartop_Change) (i : Nat) : Decidable (vd p i) := by unfold vd; infer_instance
def sC (p : S_lidartop_Change) (i : Nat) : S_api_Cell := if vd p i then ⟨true, ⟨0, 0⟩⟩ else ⟨false, ⟨tr p i - low p i, tr p i + high p i⟩⟩
def dC (p : S_lidartop_Change) (i : Nat) : S_api_Cell := if vd p i then ⟨true, ⟨0, 0⟩⟩ else ⟨false, ⟨la p i - high p i, la p i + low p i⟩⟩
structure Hyp (p : S_lidartop_Change) : Prop where
  v : validP p.G = true
  n : p.G.Cells.length ≤ 60
  m : p.Moved.length ≤ 200
  part : 0 ≤ p.Part ∧ p.Part ≤ 4294967295
  more : 0 ≤ p.More ∧ p.More ≤ 4294967295
  mo : ∀ z ∈ p.Moved, -32768 ≤ z ∧ z ≤ 32767
  few : 0 ≤ p.Few ∧ p.Few ≤ 255
section
variable {p : S_lidartop_Change}
theorem cell_ok (H : Hyp p) {i : Nat} (hi : i < p.G.Cells.length) : -268435456 ≤ (gc p i).Z.Lo ∧ (gc p i).Z.Lo ≤ (gc p i).Z.Hi ∧ (gc p i).Z.Hi ≤ 268435456 := by
  have h := H.v
  simp only [validP, Bool.and_eq_true, List.all_eq_true] at h
  have e : gc p i = p.G.Cells[i] := by simp [gc, hi]
  rw [e]
  have := h.2 _ (List.getElem_mem hi)
  simp only [cellP, coordP] at this
  grind
theorem tr_bd (H : Hyp p) {i : Nat} (hi : i < p.G.Cells.length) : ((gc p i).Void = true → tr p i = i) ∧ ((gc p i).Void = false → (gc p i).Z.Lo ≤ tr p i ∧ tr p i ≤ (gc p i).Z.Hi) ∧ -268435456 ≤ tr p i ∧ tr p i ≤ 268435456 := by
  have hc := cell_ok H hi
  have hn := H.n
  have hp := H.part
  unfold tr
  by_cases hv : (gc p i).Void = true
  · rw [if_pos hv]
    exact ⟨fun _ => rfl, fun h => (by rw [hv] at h; cases h), by omega, by omega⟩
  · have hb := tm_bd (a := p.Part + 7 * (i : Int)) (n := (gc p i).Z.Hi - (gc p i).Z.Lo + 1) (by omega) (by omega)
    rw [if_neg hv]
    exact ⟨fun h => absurd h hv, fun _ => by omega, by omega, by omega⟩
theorem height_eq (H : Hyp p) {i : Nat} (hi : i < p.G.Cells.length) : lidartop_height (gc p i) (i : Int) p.Part = some (tr p i) := by
  have hc := cell_ok H hi
  have hn := H.n
  have hp := H.part
  have ht := tr_bd H hi
  unfold lidartop_height
  by_cases hv : (gc p i).Void = true
  · rw [if_pos hv, ht.1 hv]
  · rw [if_neg hv]
    have e1 : w64 (w64 ((gc p i).Z.Hi - (gc p i).Z.Lo) + 1) = (gc p i).Z.Hi - (gc p i).Z.Lo + 1 := by rw [w64_id (x := (gc p i).Z.Hi - (gc p i).Z.Lo) (by omega) (by omega), w64_id (by omega) (by omega)]
    have e2 : w64 (w64 p.Part + w64 (7 * (i : Int))) = p.Part + 7 * (i : Int) := by rw [w64_id (x := p.Part) (by omega) (by omega), w64_id (x := 7 * (i : Int)) (by omega) (by omega), w64_id (by omega) (by omega)]
    rw [e1, e2, gd_t (by omega)]
    have e3 : tr p i = (gc p i).Z.Lo + Int.tmod (p.Part + 7 * (i : Int)) ((gc p i).Z.Hi - (gc p i).Z.Lo + 1) := by unfold tr; rw [if_neg hv]
    rw [← e3, w64_id (by omega) (by omega)]
theorem low_bd (H : Hyp p) (i : Nat) : 0 ≤ low p i ∧ low p i < 50 := by
  have h := shr_bd (k := .u32) (b := Int.tmod (i : Int) 16) H.more.1
  have hm := H.more
  unfold low
  rw [w64_id (by omega) (by omega)]
  exact tm_bd h.1 (by omega)
theorem high_bd (H : Hyp p) (i : Nat) : 0 ≤ high p i ∧ high p i < 40 := by
  have h := shr_bd (k := .u32) (b := Int.tmod (i : Int) 13) H.more.1
  have hm := H.more
  unfold high
  rw [w64_id (by omega) (by omega)]
  exact tm_bd h.1 (by omega)
theorem mv_bd (H : Hyp p) (i : Nat) : -32768 ≤ mv p i ∧ mv p i ≤ 32767 := by
  unfold mv
  split
  · rename_i h0
    have hm : i % p.Moved.length < p.Moved.length := Nat.mod_lt _ h0
    have e : p.Moved.getD (i % p.Moved.length) default = p.Moved[i % p.Moved.length] := by simp [hm]
    rw [e]
    exact H.mo _ (List.getElem_mem hm)
  · omega
theorem l7_step (H : Hyp p) {i : Nat} (hi : i < p.G.Cells.length) (A B : List S_api_Cell) (C D : List Int) (hA : A.length = i) (hB : B.length = i) (hC : C.length = i) (hD : D.length = i) :
    lidartop_TopChange_l7 p (A, B, C, D, (i : Int)) = some (.inl (A ++ [sC p i], B ++ [dC p i], C ++ [tr p i], D ++ [la p i], ((i + 1 : Nat) : Int))) := by
  have hn := H.n
  have ht := tr_bd H hi
  have hl := low_bd H i
  have hh := high_bd H i
  have hm := mv_bd H i
  have g16 : (0 : Int) ≤ Int.tmod (i : Int) 16 := (tm_bd (by omega) (by omega)).1
  have g13 : (0 : Int) ≤ Int.tmod (i : Int) 13 := (tm_bd (by omega) (by omega)).1
  have hx : ∀ y : Int, y = la p i → (bnd (some y) fun y : Int => gd ((C.length + 1) * 8 ≤ 140737488355328) <| gd ((D.length + 1) * 8 ≤ 140737488355328) <| gd (0 ≤ Int.tmod (i : Int) 16) <| gd (0 ≤ Int.tmod (i : Int) 13) <| gd (0 ≤ Int.tmod (i : Int) 16) <|
      some y) = some (la p i) := by
    rintro y rfl
    rw [bnd_s, gd_t (by omega), gd_t (by omega), gd_t g16, gd_t g13, gd_t g16]
  clear hx
  unfold lidartop_TopChange_l7
  simp only [jn_d]
  rw [if_pos (by omega), idx_D (l := p.G.Cells) (by omega) (by omega), bnd_s, Int.toNat_natCast]
  rw [show lidartop_height (p.G.Cells.getD i default) (i : Int) p.Part = some (tr p i) from height_eq H hi, bnd_s]
  have key : ∀ y : Int, y = la p i → (gd ((C.length + 1) * 8 ≤ 140737488355328) <| gd ((D.length + 1) * 8 ≤ 140737488355328) <| gd (0 ≤ Int.tmod (i : Int) 16) <| gd (0 ≤ Int.tmod (i : Int) 13) <| gd (0 ≤ Int.tmod (i : Int) 16) <|
      if bit_and .u16 (shr_ .u16 p.Voids (Int.tmod (i : Int) 16)) 1 = 1 then gd ((A.length + 1) * 24 ≤ 140737488355328) <| gd ((B.length + 1) * 24 ≤ 140737488355328) <|
        some (Sum.inl (β := (List S_api_Cell) × (List S_api_Cell) × (List Int) × (List Int)) (A ++ [(⟨true, ⟨0, 0⟩⟩ : S_api_Cell)], B ++ [(⟨true, ⟨0, 0⟩⟩ : S_api_Cell)], C ++ [tr p i], D ++ [y], w64 ((i : Int) + 1)))
      else gd ((A.length + 1) * 24 ≤ 140737488355328) <| gd ((B.length + 1) * 24 ≤ 140737488355328) <|
        some (.inl (A ++ [(⟨false, ⟨w64 (tr p i - Int.tmod (w64 (shr_ .u32 p.More (Int.tmod (i : Int) 16))) 50), w64 (tr p i + Int.tmod (w64 (shr_ .u32 p.More (Int.tmod (i : Int) 13))) 40)⟩⟩ : S_api_Cell)],
          B ++ [(⟨false, ⟨w64 (y - Int.tmod (w64 (shr_ .u32 p.More (Int.tmod (i : Int) 13))) 40), w64 (y + Int.tmod (w64 (shr_ .u32 p.More (Int.tmod (i : Int) 16))) 50)⟩⟩ : S_api_Cell)], C ++ [tr p i], D ++ [y], w64 ((i : Int) + 1))))
      = some (.inl (A ++ [sC p i], B ++ [dC p i], C ++ [tr p i], D ++ [la p i], ((i + 1 : Nat) : Int))) := by
    rintro y rfl
    have hla : la p i = tr p i + mv p i := rfl
    rw [gd_t (by omega), gd_t (by omega), gd_t g16, gd_t g13, gd_t g16, w64_succ (by omega)]
    by_cases hv : vd p i
    · rw [if_pos (show bit_and .u16 (shr_ .u16 p.Voids (Int.tmod (i : Int) 16)) 1 = 1 from hv), gd_t (by omega), gd_t (by omega)]
      unfold sC dC
      rw [if_pos hv, if_pos hv]
    · rw [if_neg (show ¬ bit_and .u16 (shr_ .u16 p.Voids (Int.tmod (i : Int) 16)) 1 = 1 from hv), gd_t (by omega), gd_t (by omega)]
      unfold sC dC
      rw [if_neg hv, if_neg hv]
      show some (Sum.inl (A ++ [(⟨false, ⟨w64 (tr p i - low p i), w64 (tr p i + high p i)⟩⟩ : S_api_Cell)], B ++ [(⟨false, ⟨w64 (la p i - high p i), w64 (la p i + low p i)⟩⟩ : S_api_Cell)], C ++ [tr p i], D ++ [la p i], ((i + 1 : Nat) : Int))) = _
      rw [w64_id (x := tr p i - low p i) (by omega) (by omega), w64_id (x := tr p i + high p i) (by omega) (by omega), w64_id (x := la p i - high p i) (by omega) (by omega), w64_id (x := la p i + low p i) (by omega) (by omega)]
  by_cases h0 : 0 < p.Moved.length
  · have hmm : i % p.Moved.length < p.Moved.length := Nat.mod_lt _ h0
    have h200 := H.m
    have e : Int.tmod (i : Int) ((p.Moved.length : Nat) : Int) = ((i % p.Moved.length : Nat) : Int) := by rw [Int.tmod_eq_emod_of_nonneg (by omega)]; omega
    rw [if_pos (by omega), gd_t (by omega), e, idx_D (l := p.Moved) (by omega) (by omega), bnd_s, Int.toNat_natCast]
    have hmv : mv p i = p.Moved.getD (i % p.Moved.length) default := by unfold mv; rw [if_pos h0]
    rw [← hmv]
    exact key _ (by rw [w64_id (x := mv p i) (by omega) (by omega), w64_id (by omega) (by omega)]; rfl)
  · rw [if_neg (by omega)]
    exact key _ (by unfold la mv; rw [if_neg h0]; omega)
theorem rng_succ {α : Type} (f : Nat → α) (i : Nat) : (List.range (i + 1)).map f = (List.range i).map f ++ [f i] := by rw [List.range_succ, List.map_append]; rfl
theorem l7_eq (H : Hyp p) : lfix (lidartop_TopChange_l7 p) ([], [], [], [], 0) = some ((List.range p.G.Cells.length).map (sC p), (List.range p.G.Cells.length).map (dC p), (List.range p.G.Cells.length).map (tr p), (List.range p.G.Cells.length).map (la p)) := by
  obtain ⟨t, ht, hR⟩ := lfix_ind (B := lidartop_TopChange_l7 p) (fun s => p.G.Cells.length - s.2.2.2.2.toNat)
    (fun s => ∃ i : Nat, i ≤ p.G.Cells.length ∧ s = ((List.range i).map (sC p), (List.range i).map (dC p), (List.range i).map (tr p), (List.range i).map (la p), (i : Int)))
    (fun t => t = ((List.range p.G.Cells.length).map (sC p), (List.range p.G.Cells.length).map (dC p), (List.range p.G.Cells.length).map (tr p), (List.range p.G.Cells.length).map (la p))) (by
      rintro s ⟨i, hi', rfl⟩
      by_cases hi : i < p.G.Cells.length
      · left
        refine ⟨_, l7_step H hi _ _ _ _ (by simp) (by simp) (by simp) (by simp), ⟨i + 1, by omega, by simp only [rng_succ]⟩, by simp only [Int.toNat_natCast]; omega⟩
      · right
        obtain rfl : i = p.G.Cells.length := by omega
        unfold lidartop_TopChange_l7
        simp only []
        rw [if_neg (by omega)]
        exact ⟨_, rfl, rfl⟩)
    ([], [], [], [], ((0 : Nat) : Int)) ⟨0, by omega, rfl⟩
  rw [hR] at ht; exact ht
def sG (p : S_lidartop_Change) : S_api_Grid := ⟨p.G.Raster, (List.range p.G.Cells.length).map (sC p)⟩
def dG (p : S_lidartop_Change) : S_api_Grid := ⟨p.G.Raster, (List.range p.G.Cells.length).map (dC p)⟩
theorem rmap_idx {α : Type} {n : Nat} {f : Nat → α} {j : Nat} (h : j < n) : idx ((List.range n).map f) (j : Int) = some (f j) := by
  rw [idx_nat (by simp; exact h)]; simp
theorem pair_of {a : S_api_Grid} {l : List S_api_Cell} (ha : validP a = true) (hb : validP ⟨a.Raster, l⟩ = true) : pairP a ⟨a.Raster, l⟩ = 0 := by
  unfold pairP
  rw [ha, hb]; simp [rasSame]
theorem st_at {a : S_api_Grid} {f : Nat → S_api_Cell} {j : Nat} (hj : j < a.Cells.length) : mAt (statesP a.Cells ((List.range a.Cells.length).map f)) j = stateP (a.Cells.getD j default) (f j) := by
  simp [mAt, statesP, hj]
theorem same_st (H : Hyp p) {i : Nat} (hi : i < p.G.Cells.length) : stateP (gc p i) (sC p i) = 0 ∨ (stateP (gc p i) (sC p i) = 2 ∧ ((gc p i).Void = true ∨ (sC p i).Void = true)) := by
  have ht := tr_bd H hi
  have hl := low_bd H i
  have hh := high_bd H i
  unfold stateP
  by_cases h1 : (gc p i).Void = true
  · rw [h1]; right; exact ⟨rfl, .inl rfl⟩
  · have h1' : (gc p i).Void = false := by simpa using h1
    have hb := ht.2.1 h1'
    unfold sC
    by_cases hv : vd p i
    · rw [if_pos hv]; right; simp
    · rw [if_neg hv]; left
      simp only [h1', Bool.or_self, Bool.false_eq_true, if_false]
      rw [if_neg (by omega), if_neg (by omega)]
theorem same_none (H : Hyp p) : (statesP p.G.Cells (sG p).Cells).any chgP = false := by
  rw [List.any_eq_false]
  intro z hz
  obtain ⟨j, hj, rfl⟩ := List.getElem_of_mem hz
  have hj' : j < p.G.Cells.length := by simp only [statesP, List.length_zipWith] at hj; omega
  have e : (statesP p.G.Cells (sG p).Cells)[j] = stateP (gc p j) (sC p j) := by simp [statesP, sG, gc, hj']
  rw [e]
  rcases same_st H hj' with h | ⟨h, _⟩ <;> rw [h] <;> decide
theorem l28_eq (H : Hyp p) (D : List S_api_Cell) (L : List Int) (e : Int) :
    lfix (lidartop_TopChange_l28 ((List.range p.G.Cells.length).map (sC p), D, (List.range p.G.Cells.length).map (tr p), L) (⟨p.G.Raster, List.zipWith commonP p.G.Cells (sG p).Cells⟩, e) p) 0 = some (.inl ()) := by
  have hn := H.n
  obtain ⟨t, ht, hR⟩ := lfix_ind (B := lidartop_TopChange_l28 ((List.range p.G.Cells.length).map (sC p), D, (List.range p.G.Cells.length).map (tr p), L) (⟨p.G.Raster, List.zipWith commonP p.G.Cells (sG p).Cells⟩, e) p) (fun s => p.G.Cells.length - s.toNat)
    (fun s => ∃ i : Nat, i ≤ p.G.Cells.length ∧ s = (i : Int)) (fun t => t = .inl ()) (by
      rintro s ⟨i, hi', rfl⟩
      unfold lidartop_TopChange_l28
      simp only [jn_d, List.length_map, List.length_range]
      by_cases hi : i < p.G.Cells.length
      · left
        refine ⟨((i + 1 : Nat) : Int), ?_, ⟨i + 1, by omega, rfl⟩, by simp only [Int.toNat_natCast]; omega⟩
        have ht := tr_bd H hi
        have hl := low_bd H i
        have hh := high_bd H i
        have hc : idx (List.zipWith commonP p.G.Cells (sG p).Cells) (i : Int) = some (commonP (gc p i) (sC p i)) := by
          rw [idx_nat (by simp [sG]; exact hi)]; simp [sG, gc, hi]
        rw [if_pos (by omega), hc, bnd_s, idx_D (l := p.G.Cells) (by omega) (by omega), bnd_s, Int.toNat_natCast, rmap_idx hi, rmap_idx hi]
        simp only [bnd_s]
        rw [w64_succ (by omega)]
        show (if (gc p i).Void = true then _ else _) = _
        by_cases h1 : (gc p i).Void = true
        · have e1 : commonP (gc p i) (sC p i) = sC p i := by unfold commonP; rw [if_pos h1]
          rw [if_pos h1, e1, if_pos (by simp)]
          unfold sC
          by_cases hv : vd p i
          · rw [if_pos hv]; rfl
          · rw [if_neg hv]
            simp only [Bool.false_eq_true, if_false]
            rw [if_neg (by omega), if_neg (by rw [decide_eq_true_eq]; omega)]
        · have h1' : (gc p i).Void = false := by simpa using h1
          have hb := ht.2.1 h1'
          rw [if_neg h1]
          have e1 : (commonP (gc p i) (sC p i)).Void = false ∧ (commonP (gc p i) (sC p i)).Z.Lo ≤ tr p i ∧ tr p i ≤ (commonP (gc p i) (sC p i)).Z.Hi := by
            unfold commonP
            rw [if_neg h1]
            by_cases h2 : (sC p i).Void = true
            · rw [if_pos h2]; exact ⟨h1', hb⟩
            · rw [if_neg h2]
              have hs : stateP (gc p i) (sC p i) = 0 := by
                rcases same_st H hi with h | ⟨_, h | h⟩
                · exact h
                · exact absurd h h1
                · exact absurd h h2
              rw [if_pos hs]
              have hv : ¬ vd p i := fun hv => h2 (by unfold sC; rw [if_pos hv])
              have e2 : sC p i = ⟨false, ⟨tr p i - low p i, tr p i + high p i⟩⟩ := by unfold sC; rw [if_neg hv]
              rw [e2]
              refine ⟨rfl, ?_, ?_⟩
              · show max _ _ ≤ _; simp only []; omega
              · show _ ≤ min _ _; simp only []; omega
          rw [e1.1]
          simp only [beq_self_eq_true, if_true, Bool.false_eq_true, if_false]
          rw [if_neg (by omega), if_neg (by rw [decide_eq_true_eq]; omega)]
      · right
        rw [if_neg (by omega)]
        exact ⟨_, rfl, rfl⟩)
    ((0 : Nat) : Int) ⟨0, by omega, rfl⟩
  rw [hR] at ht; exact ht
/-- What a node of a region says. -/
theorem node_up (H : Hyp p) {i : Nat} (hi : i < p.G.Cells.length) (h : known2 (stateP (gc p i) (dC p i)) ≠ 0) :
    0 < (la p i - tr p i) * known2 (stateP (gc p i) (dC p i)) := by
  have ht := tr_bd H hi
  have hl := low_bd H i
  have hh := high_bd H i
  have hc := cell_ok H hi
  unfold stateP at h ⊢
  by_cases h1 : (gc p i).Void = true
  · rw [h1] at h; exact absurd rfl h
  · have h1' : (gc p i).Void = false := by simpa using h1
    have hb := ht.2.1 h1'
    unfold dC at h ⊢
    by_cases hv : vd p i
    · rw [if_pos hv] at h; simp [known2] at h
    · rw [if_neg hv] at h ⊢
      simp only [h1', Bool.or_self, Bool.false_eq_true, if_false] at h ⊢
      by_cases q1 : (gc p i).Z.Hi < la p i - high p i
      · rw [if_pos q1, show known2 1 = 1 from rfl]; omega
      · rw [if_neg q1] at h ⊢
        by_cases q2 : la p i + low p i < (gc p i).Z.Lo
        · rw [if_pos q2, show known2 (-1) = -1 from rfl]; omega
        · rw [if_neg q2] at h; exact absurd rfl h
theorem node_amt (H : Hyp p) {i : Nat} (hi : i < p.G.Cells.length) (h : known2 (stateP (gc p i) (dC p i)) ≠ 0) :
    loA p.G.Cells (dG p).Cells (i : Int) ≤ la p i - tr p i ∧ la p i - tr p i ≤ hiA p.G.Cells (dG p).Cells (i : Int) := by
  have ht := tr_bd H hi
  have hl := low_bd H i
  have hh := high_bd H i
  have e1 : cellD p.G.Cells (i : Int) = gc p i := by simp [cellD, gc]
  have e2 : cellD (dG p).Cells (i : Int) = dC p i := by simp [cellD, dG, hi]
  simp only [loA, hiA, e1, e2]
  unfold stateP at h
  by_cases h1 : (gc p i).Void = true
  · rw [h1] at h; exact absurd rfl h
  · have h1' : (gc p i).Void = false := by simpa using h1
    have hb := ht.2.1 h1'
    unfold dC at h ⊢
    by_cases hv : vd p i
    · rw [if_pos hv] at h; simp [known2] at h
    · rw [if_neg hv]
      simp only []
      omega
theorem sumA_le {f g : Int → Int} : ∀ (l : List Int), (∀ i ∈ l, f i ≤ g i) → sumA f l ≤ sumA g l
  | [], _ => Int.le_refl _
  | x :: r, h => by
    have h1 := h x List.mem_cons_self
    have ih := sumA_le r (fun i hi => h i (List.mem_cons_of_mem _ hi))
    simp only [sumA]; omega
def dif (p : S_lidartop_Change) (i : Int) : Int := la p i.toNat - tr p i.toNat
section
variable {X Y : Nat} {m : Nat → Int}
theorem l41_eq (H : Hyp p) (hn : p.G.Cells.length = X * Y) (R : List S_api_Region) (e : Int) (A B : List S_api_Cell) (q : Nat) (hq : q < R.length) {k : Nat} (hk : k < (firsts X Y m).length)
    (hr : R[q] = regAt p.G (dG p) X Y m k) (hm : ∀ j, j < X * Y → m j = known2 (stateP (gc p j) (dC p j))) :
    lfix (lidartop_TopChange_l41 (R, e) (q : Int) (A, B, (List.range p.G.Cells.length).map (tr p), (List.range p.G.Cells.length).map (la p))) (0, 0) = some (.inl (sumA (dif p) (nInts (groupAt X Y m k)))) := by
  have h60 := H.n
  have hgl := group_len (X := X) (Y := Y) (m := m) (k := k)
  have hnl : (nInts (groupAt X Y m k)).length = (groupAt X Y m k).length := nInts_len
  have hdb : ∀ i ∈ nInts (groupAt X Y m k), -536870912 ≤ dif p i ∧ dif p i ≤ 536870912 := by
    intro i hi
    have := mv_bd H i.toNat
    simp only [dif, la]
    omega
  obtain ⟨t, ht, hR⟩ := lfix_ind (B := lidartop_TopChange_l41 (R, e) (q : Int) (A, B, (List.range p.G.Cells.length).map (tr p), (List.range p.G.Cells.length).map (la p))) (fun s => (groupAt X Y m k).length - s.2.toNat)
    (fun s => ∃ j : Nat, j ≤ (groupAt X Y m k).length ∧ s = (sumA (dif p) ((nInts (groupAt X Y m k)).take j), (j : Int)))
    (fun t => t = .inl (sumA (dif p) (nInts (groupAt X Y m k)))) (by
      rintro s ⟨j, hj, rfl⟩
      unfold lidartop_TopChange_l41
      simp only [jn_d, List.length_map, List.length_range]
      rw [idx_nat hq, hr]
      simp only [bnd_s, regAt, nInts_len]
      by_cases hlt : j < (groupAt X Y m k).length
      · left
        have hmem := List.getElem_mem hlt
        have hlx := group_lt hk hmem
        have hst : m ((firsts X Y m).getD k 0) = m (groupAt X Y m k)[j] := (((mem_group hk).1 hmem).mark).symm
        have hne := group_mark hk hmem
        have hmj := hm _ hlx
        have hlg : (groupAt X Y m k)[j] < p.G.Cells.length := by rw [hn]; exact hlx
        have hup := node_up H hlg (by rw [← hmj]; exact hne)
        have hmv := mv_bd H (groupAt X Y m k)[j]
        have hd : (nInts (groupAt X Y m k))[j]'(by omega) = (((groupAt X Y m k)[j] : Nat) : Int) := by simp [nInts]
        have hb := sumA_bd (dif p) ((nInts (groupAt X Y m k)).take j) (fun i hi => hdb i (List.mem_of_mem_take hi))
        have hbl : ((nInts (groupAt X Y m k)).take j).length ≤ 60 := by rw [List.length_take]; omega
        have hdif : dif p (((groupAt X Y m k)[j] : Nat) : Int) = la p (groupAt X Y m k)[j] - tr p (groupAt X Y m k)[j] := by simp [dif]
        have hla : la p (groupAt X Y m k)[j] = tr p (groupAt X Y m k)[j] + mv p (groupAt X Y m k)[j] := rfl
        refine ⟨_, ?_, ⟨j + 1, by omega, rfl⟩, by simp only [Int.toNat_natCast]; omega⟩
        rw [if_pos (by omega), idx_nInts hlt]
        simp only [bnd_s]
        rw [if_neg (by omega), if_neg (by omega), rmap_idx hlg, rmap_idx hlg]
        simp only [bnd_s]
        have hkv : known2 (stateP (gc p (groupAt X Y m k)[j]) (dC p (groupAt X Y m k)[j])) = 1 ∨ known2 (stateP (gc p (groupAt X Y m k)[j]) (dC p (groupAt X Y m k)[j])) = -1 ∨ known2 (stateP (gc p (groupAt X Y m k)[j]) (dC p (groupAt X Y m k)[j])) = 0 := by
          unfold known2 stateP; grind
        have hpos : 0 < w64 (w64 (la p (groupAt X Y m k)[j] - tr p (groupAt X Y m k)[j]) * m ((firsts X Y m).getD k 0)) := by
          rw [w64_id (x := la p (groupAt X Y m k)[j] - tr p (groupAt X Y m k)[j]) (by omega) (by omega), hst, hmj]
          rcases hkv with h | h | h <;> rw [h] at hup ⊢ <;> (rw [w64_id (by omega) (by omega)]; omega)
        rw [if_neg (by rw [decide_eq_true_eq]; omega)]
        have hs := sumA_succ (dif p) (p := nInts (groupAt X Y m k)) (k := j) (by omega)
        rw [hs, hd, hdif, w64_id (x := la p (groupAt X Y m k)[j] - tr p (groupAt X Y m k)[j]) (by omega) (by omega), w64_id (by omega) (by omega), w64_succ (by omega)]
      · right
        obtain rfl : j = (groupAt X Y m k).length := by omega
        rw [if_neg (by omega)]
        exact ⟨_, rfl, by rw [List.take_of_length_le (by omega)]⟩)
    (0, ((0 : Nat) : Int)) ⟨0, by omega, by simp [sumA]⟩
  rw [hR] at ht; exact ht
theorem l37_eq (H : Hyp p) (hpd : pairP p.G (dG p) = 0) (hn : p.G.Cells.length = X * Y) (hst : 1 ≤ p.G.Raster.Step ∧ p.G.Raster.Step ≤ 1000000) (A B : List S_api_Cell) (e : Int) (hm : ∀ j, j < X * Y → m j = known2 (stateP (gc p j) (dC p j))) :
    lfix (lidartop_TopChange_l37 ((keptTo X Y m (1 + Int.tmod p.Few 9) (firsts X Y m).length).map (regAt p.G (dG p) X Y m), e) p (A, B, (List.range p.G.Cells.length).map (tr p), (List.range p.G.Cells.length).map (la p))) 0 = some (.inl ()) := by
  have h60 := H.n
  have hf9 := tm_bd (a := p.Few) (n := 9) H.few.1 (by omega)
  generalize hK : keptTo X Y m (1 + Int.tmod p.Few 9) (firsts X Y m).length = Kp
  have hKl : Kp.length ≤ 60 := by
    have h1 := keptTo_len (X := X) (Y := Y) (m := m) (few := 1 + Int.tmod p.Few 9) (j := (firsts X Y m).length)
    have h2 := firsts_len (X := X) (Y := Y) (m := m)
    rw [hK] at h1; omega
  obtain ⟨t, ht, hR⟩ := lfix_ind (B := lidartop_TopChange_l37 (Kp.map (regAt p.G (dG p) X Y m), e) p (A, B, (List.range p.G.Cells.length).map (tr p), (List.range p.G.Cells.length).map (la p))) (fun s => Kp.length - s.toNat)
    (fun s => ∃ q : Nat, q ≤ Kp.length ∧ s = (q : Int)) (fun t => t = .inl ()) (by
      rintro s ⟨q, hq', rfl⟩
      unfold lidartop_TopChange_l37
      simp only [jn_d, List.length_map]
      by_cases hq : q < Kp.length
      · left
        have hqm : q < (Kp.map (regAt p.G (dG p) X Y m)).length := by rw [List.length_map]; exact hq
        have hkm : Kp[q] ∈ keptTo X Y m (1 + Int.tmod p.Few 9) (firsts X Y m).length := by rw [hK]; exact List.getElem_mem hq
        simp only [keptTo, List.mem_filter, List.mem_range] at hkm
        obtain ⟨hk, hkeep⟩ := hkm
        have hrq : (Kp.map (regAt p.G (dG p) X Y m))[q] = regAt p.G (dG p) X Y m Kp[q] := by simp
        have hgl := group_len (X := X) (Y := Y) (m := m) (k := Kp[q])
        have hnl : (nInts (groupAt X Y m Kp[q])).length = (groupAt X Y m Kp[q]).length := nInts_len
        have hall : ∀ i ∈ nInts (groupAt X Y m Kp[q]), loA p.G.Cells (dG p).Cells i ≤ dif p i ∧ dif p i ≤ hiA p.G.Cells (dG p).Cells i ∧ -536870912 ≤ dif p i ∧ dif p i ≤ 536870912 ∧ -536870912 ≤ loA p.G.Cells (dG p).Cells i ∧ hiA p.G.Cells (dG p).Cells i ≤ 536870912 := by
          intro i hi
          simp only [nInts, List.mem_map] at hi
          obtain ⟨j, hj, rfl⟩ := hi
          have hjl := group_lt hk hj
          have hjm := group_mark hk hj
          rw [hm j hjl] at hjm
          have h1 := node_amt H (by omega) hjm
          have h2 := mv_bd H j
          have h3 := tr_bd H (show j < p.G.Cells.length by omega)
          have h4 := low_bd H j
          have h5 := high_bd H j
          have h6 := cell_ok H (show j < p.G.Cells.length by omega)
          have e0 : dif p (j : Int) = la p j - tr p j := by simp [dif]
          have hla : la p j = tr p j + mv p j := rfl
          have h7 := known_group (m := m) hpd hn hk (j : Int) (by simp only [nInts, List.mem_map]; exact ⟨j, hj, rfl⟩)
          exact ⟨by rw [e0]; exact h1.1, by rw [e0]; exact h1.2, by rw [e0]; omega, by rw [e0]; omega, h7.2.1.1, h7.2.2.2⟩
        have s1 := sumA_le _ (fun i hi => (hall i hi).1)
        have s2 := sumA_le _ (fun i hi => (hall i hi).2.1)
        have s3 := sumA_bd (dif p) _ (fun i hi => ⟨(hall i hi).2.2.1, (hall i hi).2.2.2.1⟩)
        have s4 := sumA_bd (loA p.G.Cells (dG p).Cells) _ (fun i hi => ⟨(hall i hi).2.2.2.2.1, by have := (hall i hi); omega⟩)
        have s5 := sumA_bd (hiA p.G.Cells (dG p).Cells) _ (fun i hi => ⟨by have := (hall i hi); omega, (hall i hi).2.2.2.2.2⟩)
        generalize hS : sumA (dif p) (nInts (groupAt X Y m Kp[q])) = S at *
        generalize hLo : sumA (loA p.G.Cells (dG p).Cells) (nInts (groupAt X Y m Kp[q])) = Lo at *
        generalize hHi : sumA (hiA p.G.Cells (dG p).Cells) (nInts (groupAt X Y m Kp[q])) = Hi at *
        have hgb : ((nInts (groupAt X Y m Kp[q])).length : Int) ≤ 60 := by omega
        have b0 := area_bd (N := 536870912 * 60) hst.1 hst.2 (show -(536870912 * 60) ≤ S by omega) (show S ≤ 536870912 * 60 by omega)
        have b1 := area_bd (N := 536870912 * 60) hst.1 hst.2 (show -(536870912 * 60) ≤ Lo by omega) (show Lo ≤ 536870912 * 60 by omega)
        have b2 := area_bd (N := 536870912 * 60) hst.1 hst.2 (show -(536870912 * 60) ≤ Hi by omega) (show Hi ≤ 536870912 * 60 by omega)
        have m1 : p.G.Raster.Step * p.G.Raster.Step * Lo ≤ p.G.Raster.Step * p.G.Raster.Step * S := Int.mul_le_mul_of_nonneg_left s1 b0.1
        have m2 : p.G.Raster.Step * p.G.Raster.Step * S ≤ p.G.Raster.Step * p.G.Raster.Step * Hi := Int.mul_le_mul_of_nonneg_left s2 b0.1
        have d1 := dig64 (z := S) (by omega) (by omega)
        have d2 := dig64 (z := p.G.Raster.Step * p.G.Raster.Step) (by omega) (by omega)
        have d3 := dig3 (z := p.G.Raster.Step * p.G.Raster.Step * S) (by omega) (by omega)
        have d4 := dig3 (z := p.G.Raster.Step * p.G.Raster.Step * Lo) (by omega) (by omega)
        have d5 := dig3 (z := p.G.Raster.Step * p.G.Raster.Step * Hi) (by omega) (by omega)
        have hmul := mulE (x := S) (y := p.G.Raster.Step * p.G.Raster.Step) (by omega) (by omega) (by rw [Int.mul_comm]; omega)
        rw [Int.mul_comm S] at hmul
        refine ⟨((q + 1 : Nat) : Int), ?_, ⟨q + 1, by omega, rfl⟩, by simp only [Int.toNat_natCast]; omega⟩
        rw [if_pos (by omega), l41_eq H hn _ e A B q hqm hk hrq hm, bnd_s]
        simp only []
        rw [hS, fromInt_eq (by omega) (by omega), bnd_s, w64_id (x := p.G.Raster.Step * p.G.Raster.Step) (by omega) (by omega), fromInt_eq (by omega) (by omega), bnd_s, hmul, bnd_s]
        rw [idx_nat hqm, hrq]
        simp only [bnd_s, regAt, nInts_len]
        rw [hLo, hHi]
        show (bnd (exact_Cmp (Z32 _) (Z32 (p.G.Raster.Step * p.G.Raster.Step * S))) _) = _
        rw [cmpE (by omega) (by omega), bnd_s]
        show (bnd (exact_Cmp (Z32 _) (Z32 (p.G.Raster.Step * p.G.Raster.Step * S))) _) = _
        rw [cmpE (by omega) (by omega), bnd_s]
        have c1 : ¬ 0 < Int.sign (p.G.Raster.Step * p.G.Raster.Step * Lo - p.G.Raster.Step * p.G.Raster.Step * S) := by
          rw [Int.sign_pos_iff]; omega
        have c2 : ¬ Int.sign (p.G.Raster.Step * p.G.Raster.Step * Hi - p.G.Raster.Step * p.G.Raster.Step * S) < 0 := by
          rw [Int.sign_neg_iff]; omega
        simp only [if_true]
        have hfw := H.few
        simp only [keepG, decide_eq_true_eq] at hkeep
        rw [if_neg c1, if_neg c2, w64_id (x := p.Few) (by omega) (by omega), w64_id (by omega) (by omega), if_neg (by rw [decide_eq_true_eq]; omega), w64_succ (by omega)]
      · right
        rw [if_neg (by omega)]
        exact ⟨_, rfl, rfl⟩)
    ((0 : Nat) : Int) ⟨0, by omega, rfl⟩
  rw [hR] at ht; exact ht
end
end
theorem differs_eq : lidartop_differs = some true := by
  have hp : pairP ⟨⟨0, 0, 1, 1, 1⟩, [⟨false, ⟨1, 3⟩⟩]⟩ ⟨⟨0, 0, 1, 1, 1⟩, [⟨false, ⟨4, 5⟩⟩]⟩ = 0 := by decide
  have hr := regions_eq (X := 1) (Y := 1) (few := 1) hp (by omega) rfl rfl
  have hm0 : mAt (rmarks [(⟨false, ⟨1, 3⟩⟩ : S_api_Cell)] [⟨false, ⟨4, 5⟩⟩]) 0 = 1 := by decide
  generalize mAt (rmarks [(⟨false, ⟨1, 3⟩⟩ : S_api_Cell)] [⟨false, ⟨4, 5⟩⟩]) = m at hr hm0
  have hf : firsts 1 1 m = [0] := by
    have : isFirst 1 1 m 0 = true := isFirst_iff.2 ⟨by rw [hm0]; decide, fun j hj => by omega⟩
    simp [firsts, this, List.range_succ]
  have hg : groupAt 1 1 m 0 = [0] := by
    have h1 := group_head (X := 1) (Y := 1) (m := m) (k := 0) (by rw [hf]; simp)
    have h2 := group_len (X := 1) (Y := 1) (m := m) (k := 0)
    obtain ⟨r, hr⟩ := h1
    rw [hr] at h2 ⊢
    have : r = [] := List.eq_nil_of_length_eq_zero (by simp at h2; exact List.length_eq_zero_iff.2 h2)
    rw [this, hf]; rfl
  have hk : keptTo 1 1 m 1 1 = [0] := by
    have : keepG 1 1 m 1 0 = true := by unfold keepG; rw [hg]; decide
    simp [keptTo, this, List.range_succ]
  rw [hf] at hr
  simp only [List.length_singleton, hk, List.map_cons, List.map_nil] at hr
  have hreg : regAt ⟨⟨0, 0, 1, 1, 1⟩, [⟨false, ⟨1, 3⟩⟩]⟩ ⟨⟨0, 0, 1, 1, 1⟩, [⟨false, ⟨4, 5⟩⟩]⟩ 1 1 m 0 = ⟨1, [0], Z32 1, Z32 4⟩ := by
    unfold regAt
    rw [hg, hf, show ([0] : List Nat).getD 0 0 = 0 from rfl, hm0]
    rfl
  rw [hreg] at hr
  unfold lidartop_differs
  simp only [jn_d]
  rw [hr, bnd_s]
  simp [show idx [(⟨1, [0], Z32 1, Z32 4⟩ : S_api_Region)] 0 = some ⟨1, [0], Z32 1, Z32 4⟩ from rfl, bnd_s, one_eq]
theorem topChange_eq (p : S_lidartop_Change) (hP : 0 ≤ p.Part ∧ p.Part ≤ 4294967295) (hM : 0 ≤ p.More ∧ p.More ≤ 4294967295) (hO : ∀ z ∈ p.Moved, -32768 ≤ z ∧ z ≤ 32767) (hF : 0 ≤ p.Few ∧ p.Few ≤ 255) : lidartop_TopChange p = some true := by
  unfold lidartop_TopChange
  simp only [jn_d]
  rw [differs_eq]
  simp only [bnd_s]
  by_cases hn' : 60 < p.G.Cells.length
  · rw [if_pos (by omega), if_pos trivial]
  have hn : p.G.Cells.length ≤ 60 := by omega
  rw [if_neg (by omega)]
  by_cases hm' : 200 < p.Moved.length
  · rw [if_pos (by omega), if_pos trivial]
  have hm : p.Moved.length ≤ 200 := by omega
  rw [if_neg (by omega), refValid_eq, bnd_s]
  by_cases hv' : validP p.G = false
  · rw [hv']; rfl
  have hv : validP p.G = true := by simpa using hv'
  rw [if_neg (by simp [hv])]
  have H : Hyp p := ⟨hv, hn, hm, hP, hM, hO, hF⟩
  rw [l7_eq H, bnd_s]
  simp only []
  rw [refValid_eq, bnd_s]
  by_cases hs' : validP (sG p) = false
  · rw [show validP ⟨p.G.Raster, (List.range p.G.Cells.length).map (sC p)⟩ = validP (sG p) from rfl, hs']; rfl
  have hs : validP (sG p) = true := by simpa using hs'
  rw [show validP ⟨p.G.Raster, (List.range p.G.Cells.length).map (sC p)⟩ = validP (sG p) from rfl, if_pos hs, refValid_eq, bnd_s]
  by_cases hd' : validP (dG p) = false
  · rw [show validP ⟨p.G.Raster, (List.range p.G.Cells.length).map (dC p)⟩ = validP (dG p) from rfl, hd']; rfl
  have hd : validP (dG p) = true := by simpa using hd'
  rw [show validP ⟨p.G.Raster, (List.range p.G.Cells.length).map (dC p)⟩ = validP (dG p) from rfl, if_neg (by simp [hd])]
  have hps : pairP p.G (sG p) = 0 := pair_of hv hs
  have hpd : pairP p.G (dG p) = 0 := pair_of hv hd
  have hl := validP_cells hv
  have hg := goodF_of hl.2.2.2
  obtain ⟨X, hX⟩ : ∃ X : Nat, p.G.Raster.NX = (X : Int) := ⟨p.G.Raster.NX.toNat, by have := hg.nx; omega⟩
  obtain ⟨Y, hY⟩ : ∃ Y : Nat, p.G.Raster.NY = (Y : Int) := ⟨p.G.Raster.NY.toNat, by have := hg.ny; omega⟩
  have hXY : p.G.Cells.length = X * Y := by have := hl.1; rw [hX, hY] at this; exact_mod_cast this
  have hc := consistent_eq hps
  rw [same_none H] at hc
  have hr := regions_eq (few := 1) hps (by omega) hX hY
  have hmk : ∀ {f : Nat → S_api_Cell} {j : Nat}, j < X * Y → mAt (rmarks p.G.Cells ((List.range p.G.Cells.length).map f)) j = known2 (stateP (gc p j) (f j)) := by
    intro f j hj
    have hj' : j < p.G.Cells.length := by omega
    simp [mAt, rmarks, statesP, gc, hj']
  have hfs : firsts X Y (mAt (rmarks p.G.Cells (sG p).Cells)) = [] := by
    rw [List.eq_nil_iff_forall_not_mem]
    intro i hi
    obtain ⟨h1, h2⟩ := mem_firsts.1 hi
    have h3 := (isFirst_iff.1 h2).1
    refine h3 ((hmk h1).trans ?_)
    rcases same_st H (show i < p.G.Cells.length by omega) with h | ⟨h, _⟩ <;> rw [h] <;> rfl
  rw [hfs] at hr
  have hcm := commonG_eq p.G (sG p)
  rw [if_pos hps] at hcm
  rw [show model_Consistent p.G ⟨p.G.Raster, (List.range p.G.Cells.length).map (sC p)⟩ = _ from hc, bnd_s, show model_Regions p.G ⟨p.G.Raster, (List.range p.G.Cells.length).map (sC p)⟩ 1 = _ from hr, bnd_s,
    show model_Common p.G ⟨p.G.Raster, (List.range p.G.Cells.length).map (sC p)⟩ = _ from hcm, bnd_s]
  have hz : (List.zipWith commonP p.G.Cells (sG p).Cells).length = p.G.Cells.length := by simp [sG]
  simp only [if_true, List.length_nil, keptTo, List.range_zero, List.filter_nil, List.map_nil, Bool.not_false, hz, List.length_map, List.length_range, decide_true, Bool.not_true]
  rw [if_pos (by simp), if_neg (by decide)]
  rw [l28_eq H, bnd_s]
  have hf9 := tm_bd (a := p.Few) (n := 9) hF.1 (by omega)
  have e9 : w64 (1 + Int.tmod (w64 p.Few) 9) = 1 + Int.tmod p.Few 9 := by rw [w64_id (x := p.Few) (by omega) (by omega), w64_id (by omega) (by omega)]
  have hrd := regions_eq (few := 1 + Int.tmod p.Few 9) hpd (by omega) hX hY
  simp only [e9]
  rw [show model_Regions p.G ⟨p.G.Raster, (List.range p.G.Cells.length).map (dC p)⟩ (1 + Int.tmod p.Few 9) = _ from hrd, bnd_s]
  simp only [if_true]
  rw [l37_eq (m := mAt (rmarks p.G.Cells (dG p).Cells)) H hpd hXY hg.st _ _ _ (fun j hj => hmk hj), bnd_s]
end Go.Proofs.Ytdcdabkoajhllaa
