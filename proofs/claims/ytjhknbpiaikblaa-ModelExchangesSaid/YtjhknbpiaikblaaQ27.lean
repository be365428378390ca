/- The statement ModelExchanges in plain Lean. -/
import Derived.Test.YtjhknbpiaikblaaQ26
import Derived.Test.YtjhknbpiaikblaaQ24
namespace Go.Proofs.Ytjhknbpiaikblaa
open Go Go.RowKit
theorem good_eq (g : S_api_Grid) : lidarlaw09_good g = some (decide (g.Cells.length ≤ 100) && validP g) := by
  unfold lidarlaw09_good
  simp only [jn_d]
  by_cases h : g.Cells.length ≤ 100
  · rw [if_pos (by omega), refValid_eq, bnd_s]; simp [h]
  · rw [if_neg (by omega)]; simp [h]
/-- The cells of a, changed by those of b. -/
def mixC (a b : List S_api_Cell) : List S_api_Cell := (List.range a.length).map fun i => if 0 < b.length then b.getD (i % b.length) default else a.getD i default
theorem alike_eq (a b : S_api_Grid) (ha : a.Cells.length ≤ 100) (hb : b.Cells.length ≤ 100) : lidarlaw09_alike a b = some (a, ⟨a.Raster, mixC a.Cells b.Cells⟩) := by
  unfold lidarlaw09_alike
  simp only [jn_d]
  rw [lfix_build a.Cells.length (fun i => if 0 < b.Cells.length then b.Cells.getD (i % b.Cells.length) default else a.Cells.getD i default)]
  · rw [bnd_s]; rfl
  · intro j hj acc hacc
    unfold lidarlaw09_alike_l3
    simp only [jn_d]
    have hi := idx_D (l := a.Cells) (i := (j : Int)) (by omega) (by omega)
    rw [if_pos (by omega), hi, bnd_s]
    by_cases h0 : 0 < b.Cells.length
    · have hm : j % b.Cells.length < b.Cells.length := Nat.mod_lt _ h0
      have e : Int.tmod (j : Int) ((b.Cells.length : Nat) : Int) = ((j % b.Cells.length : Nat) : Int) := by rw [Int.tmod_eq_emod_of_nonneg (by omega)]; omega
      have hi2 := idx_D (l := b.Cells) (i := ((j % b.Cells.length : Nat) : Int)) (by omega) (by omega)
      rw [if_pos (by omega), gd_t (by omega), e, hi2, bnd_s, gd_t (by omega), w64_succ (by omega), if_pos h0]
      simp only [Int.toNat_natCast]
    · rw [if_neg (by omega), gd_t (by omega), w64_succ (by omega), if_neg h0]
      simp only [Int.toNat_natCast]
  · intro acc hacc
    unfold lidarlaw09_alike_l3
    simp only []
    rw [if_neg (by omega)]
theorem mix_len {a b : List S_api_Cell} : (mixC a b).length = a.length := by simp [mixC]
theorem getD_mem {l : List S_api_Cell} {i : Nat} (h : i < l.length) : l.getD i default ∈ l := by
  have : l.getD i default = l[i] := by simp [h]
  rw [this]; exact List.getElem_mem h
theorem mix_valid {a b : S_api_Grid} (ha : validP a = true) (hb : validP b = true) : validP ⟨a.Raster, mixC a.Cells b.Cells⟩ = true := by
  have ha' := ha
  simp only [validP, Bool.and_eq_true, List.all_eq_true, decide_eq_true_eq] at ha hb ⊢
  refine ⟨⟨ha.1.1, by rw [mix_len]; exact ha.1.2⟩, fun c hc => ?_⟩
  simp only [mixC, List.mem_map, List.mem_range] at hc
  obtain ⟨i, hi, rfl⟩ := hc
  split
  · rename_i h0
    exact hb.2 _ (getD_mem (Nat.mod_lt _ h0))
  · exact ha.2 _ (getD_mem hi)
theorem ras_refl (f : S_api_Raster) : rasSame f f = true := by simp [rasSame]
theorem state_neg {a b : S_api_Cell} (ha : a.Z.Lo ≤ a.Z.Hi) (hb : b.Z.Lo ≤ b.Z.Hi) : (stateP a b = 2 ↔ stateP b a = 2) ∧ (stateP a b ≠ 2 → stateP b a = -(stateP a b)) ∧ -1 ≤ stateP a b ∧ stateP a b ≤ 2 := by
  unfold stateP
  cases a.Void <;> cases b.Void <;> simp <;> (repeat' split) <;> omega
theorem cell_ord {g : S_api_Grid} (h : validP g = true) : ∀ c ∈ g.Cells, c.Z.Lo ≤ c.Z.Hi := by
  intro c hc
  simp only [validP, Bool.and_eq_true, List.all_eq_true] at h
  have := h.2 c hc
  simp only [cellP] at this
  grind
def swapC (l r : List S_api_Cell) : Nat → List Int
  | 0 => []
  | j + 1 => if stateP (l.getD j default) (r.getD j default) = 2 then swapC l r j else swapC l r j ++ [(j : Int)]
theorem swapC_succ {l r : List S_api_Cell} {j : Nat} : swapC l r (j + 1) = if stateP (l.getD j default) (r.getD j default) = 2 then swapC l r j else swapC l r j ++ [(j : Int)] := rfl
theorem swapC_mem {l r : List S_api_Cell} {i : Int} : ∀ {j : Nat}, i ∈ swapC l r j → 0 ≤ i ∧ i < (j : Int) ∧ stateP (l.getD i.toNat default) (r.getD i.toNat default) ≠ 2
  | 0, h => by simp [swapC] at h
  | j + 1, h => by
    rw [swapC_succ] at h
    split at h
    · have := swapC_mem h; omega
    · rename_i h2
      rcases List.mem_append.1 h with h | h
      · have := swapC_mem h; omega
      · simp at h; subst h
        exact ⟨by omega, by omega, by simpa using h2⟩
theorem swapC_len {l r : List S_api_Cell} : ∀ {j : Nat}, (swapC l r j).length ≤ j
  | 0 => by simp [swapC]
  | j + 1 => by
    have := swapC_len (l := l) (r := r) (j := j)
    rw [swapC_succ]
    split
    · omega
    · simp; omega
theorem states_getD {l r : List S_api_Cell} {j : Nat} (h : j < l.length) (h' : j < r.length) : (statesP l r).getD j default = stateP (l.getD j default) (r.getD j default) := by
  rw [List.getD_eq_getElem?_getD, List.getElem?_eq_getElem (by simp [statesP]; omega), Option.getD_some]
  simp [statesP, h, h']
/-- Nodes without one twice are free. -/
theorem free_of {ca cb : List S_api_Cell} : ∀ (p : List Int) (seen : List Bool), (∀ i ∈ p, 0 ≤ i ∧ i.toNat < seen.length ∧ seen.getD i.toNat false = false ∧ (ca.getD i.toNat default).Void = false ∧ (cb.getD i.toNat default).Void = false) → p.Pairwise (· ≠ ·) → freeP ca cb seen p = true
  | [], _, _, _ => rfl
  | i :: r, seen, h, hp => by
    have h1 := h i List.mem_cons_self
    rw [List.pairwise_cons] at hp
    simp only [freeP]
    rw [h1.2.2.1, h1.2.2.2.1, h1.2.2.2.2]
    simp only [Bool.or_self, Bool.not_false, Bool.true_and]
    refine free_of r _ (fun j hj => ?_) hp.2
    have h2 := h j (List.mem_cons_of_mem _ hj)
    have hne : i.toNat ≠ j.toNat := by have := hp.1 j hj; omega
    refine ⟨h2.1, by rw [List.length_set]; exact h2.2.1, ?_, h2.2.2.2⟩
    have h3 := h2.2.2.1
    simp only [List.getD_eq_getElem?_getD] at h3 ⊢
    rw [List.getElem?_set_ne hne]; exact h3
theorem swapC_pw {l r : List S_api_Cell} : ∀ {j : Nat}, (swapC l r j).Pairwise (· ≠ ·)
  | 0 => by simp [swapC]
  | j + 1 => by
    rw [swapC_succ]
    split
    · exact swapC_pw
    · rw [List.pairwise_append]
      refine ⟨swapC_pw, by simp, fun a ha b hb => ?_⟩
      have := swapC_mem ha
      simp at hb; omega
theorem swap_free {a b : S_api_Grid} (hl : a.Cells.length = b.Cells.length) : freeP a.Cells b.Cells (List.replicate a.Cells.length false) (swapC a.Cells b.Cells a.Cells.length) = true ∧ freeP b.Cells a.Cells (List.replicate b.Cells.length false) (swapC a.Cells b.Cells a.Cells.length) = true := by
  have key : ∀ i ∈ swapC a.Cells b.Cells a.Cells.length, (0 ≤ i ∧ i < (a.Cells.length : Int)) ∧ (a.Cells.getD i.toNat default).Void = false ∧ (b.Cells.getD i.toNat default).Void = false := fun i hi => by
    have h := swapC_mem hi
    refine ⟨⟨h.1, h.2.1⟩, ?_⟩
    have h2 := h.2.2
    unfold stateP at h2
    constructor
    · cases hv : (a.Cells.getD i.toNat default).Void
      · rfl
      · exfalso; apply h2; rw [if_pos (by rw [hv]; rfl)]
    · cases hv : (b.Cells.getD i.toNat default).Void
      · rfl
      · exfalso; apply h2; rw [if_pos (by rw [hv]; simp)]
  constructor
  · refine free_of _ _ (fun i hi => ?_) swapC_pw
    have h := key i hi
    exact ⟨h.1.1, by rw [List.length_replicate]; omega, by rw [List.getD_eq_getElem?_getD, List.getElem?_replicate]; split <;> rfl, h.2.1, h.2.2⟩
  · refine free_of _ _ (fun i hi => ?_) swapC_pw
    have h := key i hi
    exact ⟨h.1.1, by rw [List.length_replicate]; omega, by rw [List.getD_eq_getElem?_getD, List.getElem?_replicate]; split <;> rfl, h.2.2, h.2.1⟩
theorem swap_all {a b : S_api_Grid} : (swapC a.Cells b.Cells a.Cells.length).all (inN a.Cells.length) = true := by
  rw [List.all_eq_true]
  intro i hi
  have := swapC_mem hi
  simp only [inN, decide_eq_true_eq]; omega
theorem sum_neg (ca cb : List S_api_Cell) : ∀ p : List Int, sumA (hiA cb ca) p = -sumA (loA ca cb) p ∧ sumA (loA cb ca) p = -sumA (hiA ca cb) p
  | [] => by simp [sumA]
  | i :: r => by
    have := sum_neg ca cb r
    simp only [sumA, hiA, loA] at this ⊢
    omega
theorem exch_l10 {l r : List S_api_Cell} (hl : l.length = r.length) (h9 : l.length ≤ 5000) (o1 : ∀ c ∈ l, c.Z.Lo ≤ c.Z.Hi) (o2 : ∀ c ∈ r, c.Z.Lo ≤ c.Z.Hi) (e1 e2 : Int) :
    lfix (lidarlaw09_ModelExchanges_l10 (statesP l r, e1) (statesP r l, e2)) ([], 0) = some (.inl (swapC l r l.length)) := by
  have n1 : (statesP l r).length = l.length := by simp [statesP, hl]
  have n2 : (statesP r l).length = l.length := by simp [statesP, hl]
  obtain ⟨t, ht, hR⟩ := lfix_ind (B := lidarlaw09_ModelExchanges_l10 (statesP l r, e1) (statesP r l, e2)) (fun s => l.length - s.2.toNat)
    (fun s => ∃ j : Nat, j ≤ l.length ∧ s = (swapC l r j, (j : Int)))
    (fun t => t = .inl (swapC l r l.length)) (by
      rintro s ⟨j, hj, rfl⟩
      unfold lidarlaw09_ModelExchanges_l10
      simp only [jn_d, n1]
      by_cases hlt : j < l.length
      · left
        refine ⟨_, ?_, ⟨j + 1, by omega, rfl⟩, by simp only [Int.toNat_natCast]; omega⟩
        have i1 := idx_D (l := statesP l r) (i := (j : Int)) (by omega) (by omega)
        have i2 := idx_D (l := statesP r l) (i := (j : Int)) (by omega) (by omega)
        simp only [Int.toNat_natCast] at i1 i2
        rw [states_getD hlt (by omega)] at i1
        rw [states_getD (by omega) hlt] at i2
        have hs := state_neg (o1 _ (getD_mem hlt)) (o2 _ (getD_mem (show j < r.length by omega)))
        have b3 := swapC_len (l := l) (r := r) (j := j)
        rw [if_pos (by omega), i1, i2, w64_succ (by omega), swapC_succ]
        simp only [bnd_s]
        by_cases h2 : stateP (l.getD j default) (r.getD j default) = 2
        · have h3 := hs.1.1 h2
          rw [if_pos h2, if_pos h3, if_pos h2, if_neg (by decide), if_pos h2, if_pos h2]
        · have h3 : ¬ stateP (r.getD j default) (l.getD j default) = 2 := fun h => h2 (hs.1.2 h)
          have h4 := hs.2.1 h2
          rw [if_neg h2, if_neg h2, h4, w64_id (by omega) (by omega), if_neg (by simp), if_neg h2, if_neg h2, gd_t (by omega)]
      · right
        obtain rfl : j = l.length := by omega
        rw [if_neg (by omega)]
        exact ⟨_, rfl, rfl⟩)
    ([], 0) ⟨0, by omega, rfl⟩
  rw [hR] at ht; exact ht
theorem digW {z : Int} (h1 : -(1000000000000 * 2684354560000) ≤ z) (h2 : z ≤ 1000000000000 * 2684354560000) : (dig 4294967296 z.natAbs).length ≤ 3 := dig_len (by omega) 3 _ (by
  have : (4294967296 : Nat) ^ 3 = 79228162514264337593543950336 := by decide
  omega)
theorem modelExchanges_eq (g h : S_api_Grid) : lidarlaw09_ModelExchanges g h = some true := by
  unfold lidarlaw09_ModelExchanges
  simp only [jn_d]
  rw [good_eq, good_eq, bnd_s, first_eq]
  simp only [bnd_s]
  by_cases hg : (decide (g.Cells.length ≤ 100) && validP g) = true
  · rw [if_pos hg]
    by_cases hh : (decide (h.Cells.length ≤ 100) && validP h) = true
    · rw [if_neg (by rw [hh]; decide)]
      simp only [Bool.and_eq_true, decide_eq_true_eq] at hg hh
      rw [alike_eq g h hg.1 hh.1, bnd_s]
      have hv := mix_valid hg.2 hh.2
      generalize hb : (⟨g.Raster, mixC g.Cells h.Cells⟩ : S_api_Grid) = b at hv
      have hbl : b.Cells.length = g.Cells.length := by rw [← hb]; exact mix_len
      have hbr : b.Raster = g.Raster := by rw [← hb]
      have p1 : pairP g b = 0 := by unfold pairP; rw [hg.2, hv, hbr, ras_refl]; rfl
      have p2 : pairP b g = 0 := by unfold pairP; rw [hg.2, hv, hbr, ras_refl]; rfl
      have m1 : (statesP g.Cells b.Cells).length = g.Cells.length := by simp [statesP, hbl]
      have m2 : (statesP b.Cells g.Cells).length = g.Cells.length := by simp [statesP, hbl]
      simp only []
      rw [compare_eq, compare_eq, if_pos p1, if_pos p2, bnd_s, bnd_s]
      simp only []
      rw [if_pos trivial, if_pos trivial, if_pos (by rw [m1]), if_neg (by rw [m1, m2]; simp)]
      rw [exch_l10 hbl.symm (by omega) (cell_ord hg.2) (cell_ord hv), bnd_s]
      simp only []
      have hlen := swapC_len (l := g.Cells) (r := b.Cells) (j := g.Cells.length)
      have a1 := swap_all (a := g) (b := b)
      have f1 := swap_free (a := g) (b := b) hbl.symm
      have a2 : (swapC g.Cells b.Cells g.Cells.length).all (inN b.Cells.length) = true := by rw [hbl]; exact a1
      rw [modelAmount_eq (by omega), modelAmount_eq (by omega), if_pos p1, if_pos p2, if_pos a1, if_pos a2, if_pos f1.1, if_pos f1.2, bnd_s, bnd_s]
      simp only []
      have hS := goodF_of (validP_cells hg.2).2.2.2
      have hK := known_of p1 a1
      have b1 := sumA_bd _ _ (fun i hi => (hK i hi).2.1)
      have b2 := sumA_bd _ _ (fun i hi => (hK i hi).2.2)
      have n1 := area_bd (s := g.Raster.Step) (z := sumA (loA g.Cells b.Cells) (swapC g.Cells b.Cells g.Cells.length)) (N := 2684354559999) hS.st.1 hS.st.2 (by omega) (by omega)
      have n2 := area_bd (s := g.Raster.Step) (z := sumA (hiA g.Cells b.Cells) (swapC g.Cells b.Cells g.Cells.length)) (N := 2684354559999) hS.st.1 hS.st.2 (by omega) (by omega)
      have sn := sum_neg g.Cells b.Cells (swapC g.Cells b.Cells g.Cells.length)
      rw [hbr, sn.1, sn.2, Int.mul_neg, Int.mul_neg]
      rw [addE _ (by have := digW (z := g.Raster.Step * g.Raster.Step * sumA (loA g.Cells b.Cells) (swapC g.Cells b.Cells g.Cells.length)) (by omega) (by omega); omega), bnd_s, addE _ (by have := digW (z := g.Raster.Step * g.Raster.Step * sumA (hiA g.Cells b.Cells) (swapC g.Cells b.Cells g.Cells.length)) (by omega) (by omega); omega), bnd_s]
      simp only []
      rw [signE]
      rfl
    · rw [if_pos (by rw [Bool.eq_false_iff.2 hh]; rfl)]
  · rw [if_neg hg, if_pos trivial]
end Go.Proofs.Ytjhknbpiaikblaa
