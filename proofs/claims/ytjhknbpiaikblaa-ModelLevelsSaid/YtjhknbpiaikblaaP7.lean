/- Plain laws of layer 9: ModelCoarsens. -/
import Derived.Test.YtjhknbpiaikblaaP6
namespace Go.Proofs.Ytjhknbpiaikblaa
open Go Go.RowKit
def Win (g : S_api_Grid) (nx ny k sz i : Nat) (c : S_api_Cell) : Prop := ∃ x y, i % dim nx k * k ≤ x ∧ x < min (i % dim nx k * k + sz) nx ∧ i / dim nx k * k ≤ y ∧ y < min (i / dim nx k * k + sz) ny ∧ g.Cells[y * nx + x]? = some c
theorem div_lt_dim {nx ny k i : Nat} (hi : i < dim nx k * dim ny k) (hd : 0 < dim nx k) : i % dim nx k < dim nx k ∧ i / dim nx k < dim ny k := ⟨Nat.mod_lt _ hd, Nat.div_lt_of_lt_mul hi⟩
theorem ref_loop {g : S_api_Grid} {nx ny st k sz : Nat} (h : Dims g nx ny st) (hk : 1 ≤ k) (hk9 : k ≤ 1000000) (hsz : sz ≤ 1000000) {r9 : S_api_Raster × Bool} (hrx : r9.1.NX = ((dim nx k : Nat) : Int)) (hry : r9.1.NY = ((dim ny k : Nat) : Int)) :
    ∃ t, lfix (lidarref09_Thin_l11 r9 (k : Int) (sz : Int) g) ([], 0) = some t ∧ (t.length = dim nx k * dim ny k ∧ ∀ (i : Nat) (hi : i < t.length), Hull (Win g nx ny k sz i) t[i]) := by
  have hbx := h.bx; have hby := h.by_; have hle := h.le; have hlen := h.len
  have hdx : 1 ≤ dim nx k ∧ dim nx k ≤ nx := dim_le h.bx.1 hk
  have hdy : 1 ≤ dim ny k ∧ dim ny k ≤ ny := dim_le h.by_.1 hk
  have hD : dim nx k * dim ny k ≤ 4096 := Nat.le_trans (Nat.mul_le_mul hdx.2 hdy.2) hle
  have hlim : w64 (r9.1.NX * r9.1.NY) = ((dim nx k * dim ny k : Nat) : Int) := by rw [hrx, hry, ← Int.natCast_mul, w64_nat (by omega)]
  refine lfix_ind (μ := fun s => dim nx k * dim ny k - s.2.toNat)
    (C := fun s => ∃ (acc : List S_api_Cell) (i : Nat), s = (acc, (i : Int)) ∧ i ≤ dim nx k * dim ny k ∧ acc.length = i ∧ ∀ (a : Nat) (ha : a < acc.length), Hull (Win g nx ny k sz a) acc[a])
    (R := fun (t : List S_api_Cell) => t.length = dim nx k * dim ny k ∧ ∀ (i : Nat) (hi : i < t.length), Hull (Win g nx ny k sz i) t[i]) ?_ _ ⟨[], 0, rfl, Nat.zero_le _, rfl, fun a ha => by simp at ha⟩
  rintro s ⟨acc, i, rfl, hi, hl, hh⟩
  by_cases hlt : i < dim nx k * dim ny k
  · left
    obtain ⟨m1, m2⟩ := div_lt_dim hlt (by omega)
    obtain ⟨b1, b2, b3⟩ := at_bd (nx := nx) (ny := ny) hk m1 m2
    obtain ⟨t, e1, e2⟩ := ref_outer h hk9 hsz (s155 := (acc, (i : Int))) rfl hrx (by omega) b1 b2
    refine ⟨(acc ++ [⟨t.1, ⟨t.2.1, t.2.2⟩⟩], ((i + 1 : Nat) : Int)), ?_, ⟨_, i + 1, rfl, by omega, by simp [hl], fun a ha => ?_⟩, by simp only [Int.toNat_natCast]; omega⟩
    · unfold lidarref09_Thin_l11
      simp only
      rw [hlim, if_pos (by omega), gd_t (by omega), gd_t (by omega)]
      simp only [jn_d]
      have q0 : w64 ((w64 (Int.tdiv (i : Int) r9.1.NX)) * (k : Int)) = ((i / dim nx k * k : Nat) : Int) := by
        rw [hrx, ← Int.ofNat_tdiv, w64_nat (by omega), ← Int.natCast_mul, w64_nat (by omega)]
      rw [q0, e1, bnd_s, gd_t (by omega), w64_succ (by omega)]
    · rw [List.getElem_append]
      split
      · rename_i hlt'; exact hh a hlt'
      · rename_i hge
        have : a = i := by simp at ha; omega
        subst this
        simp only [hl, Nat.sub_self, List.getElem_cons_zero]
        exact e2
  · right
    refine ⟨acc, ?_, by omega, hh⟩
    unfold lidarref09_Thin_l11
    simp only
    rw [hlim, if_neg (by omega)]
theorem refThin_eq {g : S_api_Grid} {nx ny st : Nat} (h : Dims g nx ny st) {k : Int} (he : thinE g k = 0) (whole : Bool) :
    ∃ t, lidarref09_Thin g k whole = some (⟨redP g.Raster nx ny st k.toNat, t⟩, 0) ∧ t.length = dim nx k.toNat * dim ny k.toNat ∧ ∀ (i : Nat) (hi : i < t.length), Hull (Win g nx ny k.toNat (if whole = true then k.toNat else 1) i) t[i] := by
  obtain ⟨hv, hk, hs⟩ := thinE_zero he
  have hc := coarser_eq h k
  rw [if_pos ⟨hk, hs⟩] at hc
  obtain ⟨q, rfl⟩ : ∃ q : Nat, k = (q : Int) := ⟨k.toNat, by omega⟩
  have hq : 1 ≤ q := by omega
  have hsq : st * q ≤ 1000000 := by rw [h.es, ← Int.natCast_mul] at hs; omega
  have hq9 : q ≤ 1000000 := by have := Nat.mul_le_mul_right q h.bs.1; omega
  simp only [Int.toNat_natCast] at hc ⊢
  unfold lidarref09_Thin
  rw [refValid_eq, bnd_s, if_pos hv, hc, bnd_s]
  simp only [jn_d, if_true]
  cases whole with
  | true =>
    obtain ⟨t, h1, h2, h3⟩ := ref_loop h hq hq9 hq9 (r9 := (redP g.Raster nx ny st q, true)) rfl rfl (sz := q)
    refine ⟨t, ?_, h2, h3⟩
    rw [if_pos rfl, h1, bnd_s]
  | false =>
    obtain ⟨t, h1, h2, h3⟩ := ref_loop h hq hq9 (show (1 : Nat) ≤ 1000000 by omega) (r9 := (redP g.Raster nx ny st q, true)) rfl rfl (sz := 1)
    refine ⟨t, ?_, h2, h3⟩
    rw [show ((1 : Nat) : Int) = 1 from rfl] at h1
    rw [if_neg (by simp), h1, bnd_s]
theorem refThin_no {g : S_api_Grid} {k : Int} (he : thinE g k ≠ 0) (whole : Bool) : lidarref09_Thin g k whole = some (⟨⟨0, 0, 0, 0, 0⟩, []⟩, thinE g k) := by
  unfold lidarref09_Thin thinE at *
  rw [refValid_eq, bnd_s]
  by_cases hv : validP g = true
  · obtain ⟨nx, ny, st, h⟩ := dims_of hv
    rw [if_pos hv] at he ⊢
    have hc : ¬ (1 ≤ k ∧ g.Raster.Step * k ≤ 1000000) := by
      intro hc; rw [if_pos hc] at he; exact he rfl
    rw [if_pos hv, coarser_eq h, if_neg hc, bnd_s, if_neg (by simp), if_neg hc]
  · rw [if_neg hv, if_neg hv]
theorem win_blk {g : S_api_Grid} {nx ny st k i : Nat} (h : Dims g nx ny st) (hk : 1 ≤ k) (c : S_api_Cell) : Win g nx ny k k i c ↔ Blk g nx ny k i c := by
  have key : ∀ x q a : Nat, (q * k ≤ x ∧ x < min (q * k + k) a) ↔ (x < a ∧ x / k = q) := by
    intro x q a
    have h1 : x / k = q ↔ q * k ≤ x ∧ x < (q + 1) * k := by
      rw [Nat.div_eq_iff hk]
      have : q * k + k = (q + 1) * k := by rw [Nat.add_mul, Nat.one_mul]
      omega
    rw [h1, Nat.add_mul, Nat.one_mul]
    omega
  constructor
  · rintro ⟨x, y, a1, a2, a3, a4, a5⟩
    obtain ⟨b1, b2⟩ := (key x _ nx).1 ⟨a1, a2⟩
    obtain ⟨b3, b4⟩ := (key y _ ny).1 ⟨a3, a4⟩
    exact ⟨x, y, b1, b3, b2, b4, a5⟩
  · rintro ⟨x, y, b1, b3, b2, b4, a5⟩
    obtain ⟨a1, a2⟩ := (key x _ nx).2 ⟨b1, b2⟩
    obtain ⟨a3, a4⟩ := (key y _ ny).2 ⟨b3, b4⟩
    exact ⟨x, y, a1, a2, a3, a4, a5⟩
theorem hull_one {c : S_api_Cell} (hc : cellP c = true) : Hull (fun x => x = c) c := by
  have := Hull.none.join hc
  have e : joinP voidC c = c := by unfold joinP voidC; rfl
  rw [e] at this
  exact this.congr (fun x => ⟨fun h => by rcases h with h | h; exact h.elim; exact h, fun h => .inr h⟩)
theorem thin_hull {g : S_api_Grid} {nx ny st k i : Nat} (h : Dims g nx ny st) (hk : 1 ≤ k) (hi : i < dim nx k * dim ny k) : Hull (Win g nx ny k 1 i) (g.Cells.getD (i / dim nx k * k * nx + i % dim nx k * k) default) := by
  have hdx : 1 ≤ dim nx k ∧ dim nx k ≤ nx := dim_le h.bx.1 hk
  obtain ⟨m1, m2⟩ := div_lt_dim hi (by omega)
  obtain ⟨b1, b2, b3⟩ := at_bd (nx := nx) (ny := ny) hk m1 m2
  have hl : i / dim nx k * k * nx + i % dim nx k * k < g.Cells.length := by rw [h.len]; exact b3
  have e : g.Cells.getD (i / dim nx k * k * nx + i % dim nx k * k) default = g.Cells[i / dim nx k * k * nx + i % dim nx k * k] := by simp [hl]
  rw [e]
  refine (hull_one (h.cell _ (List.getElem_mem hl))).congr (fun c => ⟨?_, ?_⟩)
  · rintro rfl
    exact ⟨_, _, Nat.le_refl _, by omega, Nat.le_refl _, by omega, List.getElem?_eq_getElem hl⟩
  · rintro ⟨x, y, a1, a2, a3, a4, a5⟩
    have hx : x = i % dim nx k * k := by omega
    have hy : y = i / dim nx k * k := by omega
    subst hx; subst hy
    rw [List.getElem?_eq_getElem hl] at a5
    injection a5 with a5
    exact a5.symm
theorem same_cells {t u : List S_api_Cell} {P : Nat → S_api_Cell → Prop} (hl : t.length = u.length) (h1 : ∀ (i : Nat) (hi : i < t.length), Hull (P i) t[i]) (h2 : ∀ (i : Nat) (hi : i < u.length), Hull (P i) u[i]) : t = u :=
  List.ext_getElem hl fun i h h' => (h1 i h).unique (h2 i h')
theorem thinC_hull {g : S_api_Grid} {nx ny st k : Nat} (h : Dims g nx ny st) (hk : 1 ≤ k) : (thinC g nx ny k).length = dim nx k * dim ny k ∧ ∀ (i : Nat) (hi : i < (thinC g nx ny k).length), Hull (Win g nx ny k 1 i) (thinC g nx ny k)[i] := by
  have e : (thinC g nx ny k).length = dim nx k * dim ny k := by simp [thinC]
  refine ⟨e, fun i hi => ?_⟩
  have := thin_hull h hk (show i < dim nx k * dim ny k by omega)
  simpa [thinC] using this
theorem modelCoarsens_eq (g : S_api_Grid) (k : Int) : lidarlaw09_ModelCoarsens g k = some true := by
  unfold lidarlaw09_ModelCoarsens
  have hf : lidarlaw09_first = some true := rfl
  rw [heavy_eq, bnd_s]
  by_cases h1 : (decide (5000 < (g.Cells.length : Int)) || (rasterP g.Raster && decide (150 < g.Raster.NX * g.Raster.NY))) = true
  · rw [if_pos h1, hf, bnd_s]
  · rw [if_neg h1]
    by_cases he : thinE g k = 0
    · obtain ⟨hv, hk, hs⟩ := thinE_zero he
      obtain ⟨nx, ny, st, h⟩ := dims_of hv
      obtain ⟨t1, e1, l1, p1⟩ := refThin_eq h he false
      obtain ⟨t2, e2, l2, p2⟩ := coarse_eq h he
      obtain ⟨t3, e3, l3, p3⟩ := refThin_eq h he true
      have hq : 1 ≤ k.toNat := by omega
      obtain ⟨l0, p0⟩ := thinC_hull h hq
      have hdx : dim nx k.toNat ≤ nx := (dim_le h.bx.1 hq).2
      have hdy : dim ny k.toNat ≤ ny := (dim_le h.by_.1 hq).2
      have hD : dim nx k.toNat * dim ny k.toNat ≤ 4096 := Nat.le_trans (Nat.mul_le_mul hdx hdy) h.le
      simp only [if_false, Bool.false_eq_true] at p1
      have s1 : thinC g nx ny k.toNat = t1 := same_cells (by omega) p0 p1
      have s2 : t2 = t3 := same_cells (by omega) p2 (fun i hi => ((p3 i hi).congr (fun c => win_blk h hq c)))
      rw [thin_eq h he, bnd_s, e1, bnd_s, e2, bnd_s, e3, bnd_s]
      simp only [jn_d, if_true, thinG]
      rw [sameG_refl _ _ (by rw [s1]) (by simp only; omega), bnd_s, if_pos rfl, sameG_refl _ _ (by rw [s2]) (by simp only; omega), bnd_s, if_pos rfl, hf, bnd_s]
    · rw [thin_no he, bnd_s, refThin_no he, bnd_s, coarse_no he, bnd_s, refThin_no he, bnd_s]
      simp only [jn_d, if_true]
      rw [sameG_refl _ _ rfl (by simp), bnd_s, if_pos rfl, bnd_s, if_pos rfl, hf, bnd_s]
end Go.Proofs.Ytjhknbpiaikblaa
