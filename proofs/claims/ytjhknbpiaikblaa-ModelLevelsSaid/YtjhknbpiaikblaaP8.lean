/- Plain laws of layer 9: ModelLevels. -/
import Derived.Test.YtjhknbpiaikblaaP7
import Derived.Test.YtjhknbpiaikblaaRd
namespace Go.Proofs.Ytjhknbpiaikblaa
open Go Go.RowKit
theorem dim_dim {a m n : Nat} (hm : 1 ≤ m) (hn : 1 ≤ n) : dim (dim a m) n = dim a (m * n) := by
  have hmn : 1 ≤ m * n := Nat.mul_le_mul hm hn
  have key : ∀ x, x < dim (dim a m) n ↔ x < dim a (m * n) := by
    intro x
    have h1 : x < dim (dim a m) n ↔ x * n < dim a m := lt_dim hn
    have h2 : x * n < dim a m ↔ x * n * m < a := lt_dim hm
    have h3 : x < dim a (m * n) ↔ x * (m * n) < a := lt_dim hmn
    rw [h1, h2, h3, Nat.mul_assoc, Nat.mul_comm n m]
  have a1 := key (dim (dim a m) n)
  have a2 := key (dim a (m * n))
  omega
theorem redP_dims {g : S_api_Grid} {nx ny st k : Nat} (h : Dims g nx ny st) (hv : validP g = true) (hk : 1 ≤ k) (hs : st * k ≤ 1000000) {t : List S_api_Cell} (hl : t.length = dim nx k * dim ny k) (hc : ∀ c ∈ t, cellP c = true) :
    validP ⟨redP g.Raster nx ny st k, t⟩ = true ∧ Dims ⟨redP g.Raster nx ny st k, t⟩ (dim nx k) (dim ny k) (st * k) := by
  have hbx := h.bx; have hby := h.by_; have hbs := h.bs
  have hdx : 1 ≤ dim nx k ∧ dim nx k ≤ nx := dim_le h.bx.1 hk
  have hdy : 1 ≤ dim ny k ∧ dim ny k ≤ ny := dim_le h.by_.1 hk
  have hD : dim nx k * dim ny k ≤ 4096 := Nat.le_trans (Nat.mul_le_mul hdx.2 hdy.2) h.le
  have hst : 1 * 1 ≤ st * k := Nat.mul_le_mul hbs.1 hk
  have hr := (validP_cells hv).2.2.2
  have hlast : ∀ a : Nat, 1 ≤ a → ((dim a k - 1) * (st * k)) ≤ (a - 1) * st := by
    intro a ha
    have h1 : 1 ≤ dim a k ∧ dim a k ≤ a := dim_le ha hk
    have h2 : (dim a k - 1) * k < a := (lt_dim hk).1 (show dim a k - 1 < dim a k by omega)
    have h3 : (dim a k - 1) * k * st ≤ (a - 1) * st := Nat.mul_le_mul_right _ (by omega)
    rw [Nat.mul_comm st k, ← Nat.mul_assoc]; exact h3
  have lx := hlast nx hbx.1
  have ly := hlast ny hby.1
  refine ⟨?_, ⟨rfl, rfl, rfl, by omega, by omega, by omega, hl, hD, hc⟩⟩
  simp only [validP, Bool.and_eq_true, decide_eq_true_eq, List.all_eq_true]
  refine ⟨⟨?_, ?_⟩, hc⟩
  · simp only [rasterP, coordP, Bool.and_eq_true, decide_eq_true_eq] at hr ⊢
    obtain ⟨⟨⟨⟨⟨⟨_, _⟩, _⟩, hx0⟩, hy0⟩, hx1⟩, hy1⟩ := hr
    rw [h.ex, h.es] at hx1
    rw [h.ey, h.es] at hy1
    have cx : ((nx : Int) - 1) * (st : Int) = (((nx - 1) * st : Nat) : Int) := by rw [Int.natCast_mul]; congr 1; omega
    have cy : ((ny : Int) - 1) * (st : Int) = (((ny - 1) * st : Nat) : Int) := by rw [Int.natCast_mul]; congr 1; omega
    have dx : (((dim nx k : Nat) : Int) - 1) * ((st * k : Nat) : Int) = (((dim nx k - 1) * (st * k) : Nat) : Int) := by rw [show (((dim nx k : Nat) : Int) - 1) = ((dim nx k - 1 : Nat) : Int) from by omega, ← Int.natCast_mul]
    have dy : (((dim ny k : Nat) : Int) - 1) * ((st * k : Nat) : Int) = (((dim ny k - 1) * (st * k) : Nat) : Int) := by rw [show (((dim ny k : Nat) : Int) - 1) = ((dim ny k - 1 : Nat) : Int) from by omega, ← Int.natCast_mul]
    rw [cx] at hx1
    rw [cy] at hy1
    simp only [redP]
    rw [dx, dy]
    omega
  · simp only [redP, hl, Int.natCast_mul]
theorem thinE_of {g : S_api_Grid} {nx ny st k : Nat} (h : Dims g nx ny st) (hv : validP g = true) (hk : 1 ≤ k) (hs : st * k ≤ 1000000) : thinE g (k : Int) = 0 := by
  unfold thinE
  rw [if_pos hv, if_pos]
  rw [h.es, ← Int.natCast_mul]; omega
theorem thin_cells {g : S_api_Grid} {nx ny st k : Nat} (h : Dims g nx ny st) (hk : 1 ≤ k) : ∀ c ∈ thinC g nx ny k, cellP c = true := by
  obtain ⟨l, hh⟩ := thinC_hull h hk
  intro c hc
  obtain ⟨i, hi, rfl⟩ := List.getElem_of_mem hc
  refine (hh i hi).cellP (fun c hc => ?_)
  obtain ⟨x, y, _, _, _, _, hx⟩ := hc
  exact h.cell c (List.mem_of_getElem? hx)
theorem thin_thin {g : S_api_Grid} {nx ny st m n : Nat} (h : Dims g nx ny st) (hm : 1 ≤ m) (hn : 1 ≤ n) : thinG (thinG g nx ny st m) (dim nx m) (dim ny m) (st * m) n = thinG g nx ny st (m * n) := by
  have hdx : 1 ≤ dim nx m ∧ dim nx m ≤ nx := dim_le h.bx.1 hm
  have ex : dim (dim nx m) n = dim nx (m * n) := dim_dim hm hn
  have ey : dim (dim ny m) n = dim ny (m * n) := dim_dim hm hn
  unfold thinG
  have hr : redP (redP g.Raster nx ny st m) (dim nx m) (dim ny m) (st * m) n = redP g.Raster nx ny st (m * n) := by
    simp only [redP, ex, ey, Nat.mul_assoc]
  rw [hr]
  congr 1
  unfold thinC
  rw [ex, ey]
  apply List.map_congr_left
  intro i hi
  have hi' : i < dim nx (m * n) * dim ny (m * n) := by simpa using hi
  have hmn : 1 ≤ m * n := Nat.mul_le_mul hm hn
  have hd2 : 1 ≤ dim nx (m * n) := (dim_le h.bx.1 hmn).1
  obtain ⟨b1, b2⟩ := div_lt_dim hi' (by omega)
  generalize i % dim nx (m * n) = X at *
  generalize i / dim nx (m * n) = Y at *
  rw [← ex] at b1
  rw [← ey] at b2
  have c1 : X * n < dim nx m := (lt_dim hn).1 b1
  have c2 : Y * n < dim ny m := (lt_dim hn).1 b2
  obtain ⟨s1, s2⟩ := split_mod (y := Y * n) c1
  have hlt : Y * n * dim nx m + X * n < dim nx m * dim ny m := cell_lt c1 c2
  rw [show (List.map (fun i => g.Cells.getD (i / dim nx m * m * nx + i % dim nx m * m) default) (List.range (dim nx m * dim ny m))).getD (Y * n * dim nx m + X * n) default = g.Cells.getD ((Y * n * dim nx m + X * n) / dim nx m * m * nx + (Y * n * dim nx m + X * n) % dim nx m * m) default from by simp [hlt]]
  rw [s1, s2, Nat.mul_assoc Y n m, Nat.mul_assoc X n m, Nat.mul_comm n m]
theorem coarse_coarse {g : S_api_Grid} {nx ny st m n : Nat} (h : Dims g nx ny st) (hm : 1 ≤ m) (hn : 1 ≤ n) {t u : List S_api_Cell} {r : S_api_Raster} (hl : t.length = dim nx m * dim ny m) (ht : ∀ (i : Nat) (hi : i < t.length), Hull (Blk g nx ny m i) t[i])
    {i : Nat} (hi : i < dim nx (m * n) * dim ny (m * n)) {c : S_api_Cell} (hc : Hull (Blk ⟨r, t⟩ (dim nx m) (dim ny m) n i) c) : Hull (Blk g nx ny (m * n) i) c := by
  have hdx : 1 ≤ dim nx m ∧ dim nx m ≤ nx := dim_le h.bx.1 hm
  have ex : dim (dim nx m) n = dim nx (m * n) := dim_dim hm hn
  have hu := Hull.union (ι := Nat × Nat) (S := fun p => p.1 < dim nx m ∧ p.2 < dim ny m ∧ p.1 / n = i % dim nx (m * n) ∧ p.2 / n = i / dim nx (m * n)) (P := fun p => Blk g nx ny m (p.2 * dim nx m + p.1)) (c := fun p => t.getD (p.2 * dim nx m + p.1) default) (r := c)
    (fun p hp => by
      have hlt : p.2 * dim nx m + p.1 < t.length := by rw [hl]; exact cell_lt hp.1 hp.2.1
      have := ht _ hlt
      rw [show t.getD (p.2 * dim nx m + p.1) default = t[p.2 * dim nx m + p.1] from by simp [hlt]]
      exact this)
    (hc.congr (fun z => by
      constructor
      · rintro ⟨x, y, hx, hy, e1, e2, hz⟩
        rw [ex] at e1 e2
        refine ⟨(x, y), ⟨hx, hy, e1, e2⟩, ?_⟩
        simp only [List.getD_eq_getElem?_getD]
        rw [show t[y * dim nx m + x]? = some z from hz]; rfl
      · rintro ⟨⟨x, y⟩, ⟨hx, hy, e1, e2⟩, hz⟩
        refine ⟨x, y, hx, hy, by rw [ex]; exact e1, by rw [ex]; exact e2, ?_⟩
        have hlt : y * dim nx m + x < t.length := by rw [hl]; exact cell_lt hx hy
        simp only [List.getD_eq_getElem?_getD, List.getElem?_eq_getElem hlt, Option.getD_some] at hz
        show t[y * dim nx m + x]? = some z
        rw [List.getElem?_eq_getElem hlt, hz]))
  refine hu.congr (fun z => ?_)
  constructor
  · rintro ⟨⟨x, y⟩, ⟨hx, hy, e1, e2⟩, x', y', hx', hy', f1, f2, hz⟩
    obtain ⟨s1, s2⟩ := split_mod (y := y) hx
    simp only at f1 f2 e1 e2
    rw [s1] at f1
    rw [s2] at f2
    refine ⟨x', y', hx', hy', ?_, ?_, hz⟩
    · rw [← Nat.div_div_eq_div_mul, f1, e1]
    · rw [← Nat.div_div_eq_div_mul, f2, e2]
  · rintro ⟨x', y', hx', hy', f1, f2, hz⟩
    have c1 : x' / m < dim nx m := div_dim hm hx'
    have c2 : y' / m < dim ny m := div_dim hm hy'
    obtain ⟨s1, s2⟩ := split_mod (y := y' / m) c1
    refine ⟨(x' / m, y' / m), ⟨c1, c2, ?_, ?_⟩, x', y', hx', hy', ?_, ?_, hz⟩
    · rw [Nat.div_div_eq_div_mul]; exact f1
    · rw [Nat.div_div_eq_div_mul]; exact f2
    · simp only; rw [s1]
    · simp only; rw [s2]
theorem thin_in_blk {g : S_api_Grid} {nx ny st k i : Nat} (h : Dims g nx ny st) (hk : 1 ≤ k) (hi : i < (thinC g nx ny k).length) : Blk g nx ny k i (thinC g nx ny k)[i] := by
  have hl := (thinC_hull h hk).1
  have hdx : 1 ≤ dim nx k ∧ dim nx k ≤ nx := dim_le h.bx.1 hk
  obtain ⟨m1, m2⟩ := div_lt_dim (show i < dim nx k * dim ny k by omega) (by omega)
  obtain ⟨b1, b2, b3⟩ := at_bd (nx := nx) (ny := ny) hk m1 m2
  have hlt : i / dim nx k * k * nx + i % dim nx k * k < g.Cells.length := by rw [h.len]; exact b3
  refine ⟨_, _, b1, b2, Nat.mul_div_cancel _ hk, Nat.mul_div_cancel _ hk, ?_⟩
  simp [thinC, hlt]
theorem good_eq (g : S_api_Grid) : lidarlaw09_good g = some (decide (g.Cells.length ≤ 100) && validP g) := by
  unfold lidarlaw09_good
  simp only [jn_d, refValid_eq, bnd_s]
  by_cases hl : g.Cells.length ≤ 100
  · rw [if_pos (by omega)]; simp [hl]
  · rw [if_neg (by omega)]; simp [hl]
theorem level_num {a : Int} (h0 : 0 ≤ a) (h1 : a ≤ 255) : ∃ m : Nat, w64 (1 + Int.tmod (w64 a) 6) = (m : Int) ∧ 1 ≤ m ∧ m ≤ 6 := by
  rw [w64_id (x := a) (by omega) (by omega), tmod_pos h0]
  refine ⟨(1 + a % 6).toNat, ?_, by omega, by omega⟩
  rw [w64_id (by omega) (by omega)]; omega
theorem modelLevels_eq (g : S_api_Grid) (a b : Int) (ha : rU8 a) (hb : rU8 b) : lidarlaw09_ModelLevels g a b = some true := by
  obtain ⟨m, em, hm, hm6⟩ := level_num ha.1 ha.2
  obtain ⟨n, en, hn, hn6⟩ := level_num hb.1 hb.2
  unfold lidarlaw09_ModelLevels
  have hf : lidarlaw09_first = some true := rfl
  simp only [em, en]
  rw [good_eq]
  simp only [jn_d, bnd_s, hf]
  by_cases hg : (decide (g.Cells.length ≤ 100) && validP g) = true
  · rw [if_pos hg]
    simp only [Bool.and_eq_true, decide_eq_true_eq] at hg
    obtain ⟨hl, hv⟩ := hg
    obtain ⟨nx, ny, st, h⟩ := dims_of hv
    have hbs := h.bs
    have hsm6 : st * m ≤ 1000000 * 6 := Nat.mul_le_mul hbs.2 hm6
    have hsmn6 : st * m * n ≤ 1000000 * 6 * 6 := Nat.mul_le_mul hsm6 hn6
    have e1 : w64 ((w64 (g.Raster.Step * (m : Int))) * (n : Int)) = ((st * m * n : Nat) : Int) := by
      rw [h.es, ← Int.natCast_mul, w64_nat (by omega), ← Int.natCast_mul, w64_nat (by omega)]
    have hmn6 : m * n ≤ 6 * 6 := Nat.mul_le_mul hm6 hn6
    have e2 : w64 ((m : Int) * (n : Int)) = ((m * n : Nat) : Int) := by rw [← Int.natCast_mul, w64_nat (by omega)]
    rw [e1, e2]
    by_cases hs : st * m * n ≤ 1000000
    · have hmn : 1 ≤ m * n := Nat.mul_le_mul hm hn
      have hsm : st * m ≤ 1000000 := by
        have : st * m * 1 ≤ st * m * n := Nat.mul_le_mul_left _ hn
        omega
      have hs2 : st * (m * n) ≤ 1000000 := by rw [← Nat.mul_assoc]; exact hs
      rw [if_neg (by rw [decide_eq_true_eq]; omega)]
      -- Thin
      have t1 := thin_eq h (thinE_of h hv hm hsm)
      obtain ⟨l1, p1⟩ := thinC_hull h hm
      obtain ⟨v1, d1⟩ := redP_dims h hv hm hsm l1 (thin_cells h hm)
      have t2 := thin_eq d1 (thinE_of d1 v1 hn hs)
      have t3 := thin_eq h (thinE_of h hv hmn hs2)
      simp only [Int.toNat_natCast] at t1 t2 t3
      have t2' : model_Thin (thinG g nx ny st m) (n : Int) = some (thinG g nx ny st (m * n), 0) := by rw [← thin_thin h hm hn]; exact t2
      -- Coarse
      obtain ⟨t, c1, k1, q1⟩ := coarse_eq h (thinE_of h hv hm hsm)
      simp only [Int.toNat_natCast] at c1 k1 q1
      have hct : ∀ c ∈ t, cellP c = true := by
        intro c hc
        obtain ⟨i, hi, rfl⟩ := List.getElem_of_mem hc
        exact (q1 i hi).cellP (fun c hc => hc.cellP h)
      obtain ⟨v2, d2⟩ := redP_dims h hv hm hsm k1 hct
      obtain ⟨u, c2, k2, q2⟩ := coarse_eq d2 (thinE_of d2 v2 hn hs)
      obtain ⟨w, c3, k3, q3⟩ := coarse_eq h (thinE_of h hv hmn hs2)
      simp only [Int.toNat_natCast] at c2 k2 q2 c3 k3 q3
      have ex : dim (dim nx m) n = dim nx (m * n) := dim_dim hm hn
      have ey : dim (dim ny m) n = dim ny (m * n) := dim_dim hm hn
      rw [ex, ey] at k2
      have huw : u = w := same_cells (by omega) (fun i hi => coarse_coarse (u := u) h hm hn k1 q1 (by omega) (q2 i hi)) q3
      have hrr : redP (redP g.Raster nx ny st m) (dim nx m) (dim ny m) (st * m) n = redP g.Raster nx ny st (m * n) := by
        simp only [redP, ex, ey, Nat.mul_assoc]
      have hD : dim nx (m * n) * dim ny (m * n) ≤ 4096 := Nat.le_trans (Nat.mul_le_mul (show dim nx (m * n) ≤ nx from (dim_le h.bx.1 hmn).2) (show dim ny (m * n) ≤ ny from (dim_le h.by_.1 hmn).2)) h.le
      obtain ⟨l3, p3⟩ := thinC_hull h hmn
      rw [t1, bnd_s, t2', bnd_s, t3, bnd_s]
      simp only [if_true]
      rw [sameG_refl _ _ rfl (by simp only [thinG]; omega), bnd_s]
      simp only [Bool.not_true, Bool.false_eq_true, if_false]
      rw [c1, bnd_s, c2, bnd_s, c3, bnd_s]
      simp only [if_true]
      rw [sameG_refl _ _ (by rw [hrr, huw]) (by simp only; omega), bnd_s, if_pos rfl]
      have hlen : (thinG g nx ny st (m * n)).Cells.length = w.length := by simp only [thinG]; omega
      rw [hlen]
      simp only [decide_true, Bool.not_true, Bool.false_eq_true, if_false]
      rw [lfix_all (thinC g nx ny (m * n)) (fun _ => true) (β := Unit) (γ := Bool) _ () false]
      · simp [bnd_s]
      · intro j hj
        have hjw : j < w.length := by omega
        have hblk := thin_in_blk h hmn hj
        have hq := q3 j hjw
        have hcl : (thinG g nx ny st (m * n)).Cells.length = (thinC g nx ny (m * n)).length := rfl
        have hix : idx (thinG g nx ny st (m * n)).Cells (j : Int) = some (thinC g nx ny (m * n))[j] := idx_nat hj
        unfold lidarlaw09_ModelLevels_l15
        simp only
        rw [if_pos (by omega)]
        simp only [jn_d]
        rw [hix, bnd_s, idx_nat hjw, bnd_s, w64_succ (by omega)]
        generalize (thinC g nx ny (m * n))[j] = c at hblk
        generalize w[j] = d at hq
        cases hcv : c.Void with
        | true => simp
        | false =>
          cases hdv : d.Void with
          | true => have := (hq.v hdv).2 c hblk; rw [hcv] at this; cases this
          | false =>
            obtain ⟨h1, _, _⟩ := hq.n hdv
            have := h1 c hblk hcv
            simp only [Bool.false_eq_true, if_false]
            rw [if_neg (by omega), if_neg (by simp; omega)]
            simp
      · have hcl : (thinG g nx ny st (m * n)).Cells.length = (thinC g nx ny (m * n)).length := rfl
        unfold lidarlaw09_ModelLevels_l15
        simp only
        rw [if_neg (by omega)]
    · rw [if_pos (by rw [decide_eq_true_eq]; omega)]
  · rw [if_neg hg]; rfl
end Go.Proofs.Ytjhknbpiaikblaa
