/- Plain laws of layer 9: Coarse, and the document's Thin. -/
import Derived.Test.YtjhknbpiaikblaaP5
namespace Go.Proofs.Ytjhknbpiaikblaa
open Go Go.RowKit
def blkOf (nx k j : Nat) : Nat := j / nx / k * dim nx k + j % nx / k
theorem blkOf_lt {nx ny k j : Nat} (hx : 0 < nx) (hk : 1 ≤ k) (hj : j < nx * ny) : j % nx / k < dim nx k ∧ j / nx / k < dim ny k ∧ blkOf nx k j < dim nx k * dim ny k := by
  have h1 : j % nx / k < dim nx k := div_dim hk (Nat.mod_lt _ hx)
  have h2 : j / nx / k < dim ny k := div_dim hk (Nat.div_lt_of_lt_mul hj)
  exact ⟨h1, h2, cell_lt h1 h2⟩
theorem blk_iff {g : S_api_Grid} {nx ny st k i : Nat} (h : Dims g nx ny st) (hk : 1 ≤ k) (c : S_api_Cell) : Blk g nx ny k i c ↔ ∃ j, j < nx * ny ∧ g.Cells[j]? = some c ∧ blkOf nx k j = i := by
  have hbx := h.bx
  constructor
  · rintro ⟨x, y, hx, hy, e1, e2, hc⟩
    obtain ⟨s1, s2⟩ := split_mod (y := y) hx
    refine ⟨y * nx + x, cell_lt hx hy, hc, ?_⟩
    unfold blkOf
    rw [s1, s2, e1, e2, Nat.mul_comm]
    exact Nat.div_add_mod i (dim nx k)
  · rintro ⟨j, hj, hc, rfl⟩
    obtain ⟨b1, b2, b3⟩ := blkOf_lt (ny := ny) (show 0 < nx by omega) hk hj
    obtain ⟨s1, s2⟩ := split_mod (y := j / nx / k) b1
    refine ⟨j % nx, j / nx, Nat.mod_lt _ (by omega), Nat.div_lt_of_lt_mul hj, ?_, ?_, ?_⟩
    · unfold blkOf; rw [s1]
    · unfold blkOf; rw [s2]
    · rw [Nat.mul_comm, Nat.div_add_mod]; exact hc
theorem coarse_loop {g : S_api_Grid} {nx ny st k : Nat} (h : Dims g nx ny st) (hk : 1 ≤ k) (hk9 : k ≤ 1000000) {r : S_api_Raster} (hr : r.NX = ((dim nx k : Nat) : Int)) :
    ∃ t, lfix (model_Coarse_l7 g (k : Int) r) (List.replicate (dim nx k * dim ny k) voidC, 0) = some t ∧ (t.length = dim nx k * dim ny k ∧ ∀ (i : Nat) (hi : i < t.length), Hull (Blk g nx ny k i) t[i]) := by
  have hbx := h.bx; have hby := h.by_; have hle := h.le; have hlen := h.len
  have hdx : dim nx k ≤ nx := (dim_le h.bx.1 hk).2
  have hdy : dim ny k ≤ ny := (dim_le h.by_.1 hk).2
  have hD : dim nx k * dim ny k ≤ 4096 := Nat.le_trans (Nat.mul_le_mul hdx hdy) hle
  refine lfix_ind (μ := fun s => nx * ny - s.2.toNat)
    (C := fun s => ∃ (out : List S_api_Cell) (i : Nat), s = (out, (i : Int)) ∧ i ≤ nx * ny ∧ out.length = dim nx k * dim ny k ∧ ∀ (a : Nat) (ha : a < out.length), Hull (fun c => ∃ j, j < i ∧ g.Cells[j]? = some c ∧ blkOf nx k j = a) out[a])
    (R := fun (t : List S_api_Cell) => t.length = dim nx k * dim ny k ∧ ∀ (i : Nat) (hi : i < t.length), Hull (Blk g nx ny k i) t[i]) ?_ _ ⟨_, 0, rfl, Nat.zero_le _, by simp, fun a ha => ?_⟩
  · rintro s ⟨out, i, rfl, hi, hl, hh⟩
    by_cases hlt : i < nx * ny
    · left
      obtain ⟨b1, b2, b3⟩ := blkOf_lt (ny := ny) (show 0 < nx by omega) hk hlt
      have hic : i < g.Cells.length := by omega
      have hio : blkOf nx k i < out.length := by omega
      have hcell := h.cell _ (List.getElem_mem hic)
      refine ⟨(out.set (blkOf nx k i) (joinP out[blkOf nx k i] g.Cells[i]), ((i + 1 : Nat) : Int)), ?_, ⟨_, i + 1, rfl, by omega, by simpa using hl, fun a ha => ?_⟩, by simp only [Int.toNat_natCast]; omega⟩
      · unfold model_Coarse_l7
        simp only
        rw [if_pos (by omega), idx_nat hic, bnd_s, h.ex, gd_t (by omega), gd_t (by omega), gd_t (by omega), gd_t (by omega), hr]
        have q1 : i / nx ≤ 4096 := Nat.le_trans (Nat.div_le_self _ _) (by omega)
        have e1 : w64 (Int.tdiv (i : Int) (nx : Int)) = ((i / nx : Nat) : Int) := by rw [← Int.ofNat_tdiv, w64_nat (by omega)]
        have q2 : i / nx / k ≤ 4096 := Nat.le_trans (Nat.div_le_self _ _) q1
        have e2 : w64 (Int.tdiv ((i / nx : Nat) : Int) (k : Int)) = ((i / nx / k : Nat) : Int) := by rw [← Int.ofNat_tdiv, w64_nat (by omega)]
        have q3 : i / nx / k * dim nx k ≤ 4096 := by have : i / nx / k * dim nx k ≤ blkOf nx k i := Nat.le_add_right _ _; omega
        have e3 : w64 (((i / nx / k : Nat) : Int) * ((dim nx k : Nat) : Int)) = ((i / nx / k * dim nx k : Nat) : Int) := by rw [← Int.natCast_mul, w64_nat (by omega)]
        have q4 : i % nx / k ≤ 4096 := by omega
        have e4 : w64 (Int.tdiv (Int.tmod (i : Int) (nx : Int)) (k : Int)) = ((i % nx / k : Nat) : Int) := by rw [← Int.ofNat_tmod, ← Int.ofNat_tdiv, w64_nat (by omega)]
        have e5 : w64 (((i / nx / k * dim nx k : Nat) : Int) + ((i % nx / k : Nat) : Int)) = ((blkOf nx k i : Nat) : Int) := by rw [← Int.natCast_add, w64_nat (by omega)]; rfl
        rw [e1, e2, e3, e4, e5, idx_nat hio, bnd_s, joined_eq, bnd_s, bnd_s, setI_nat, w64_succ (by omega)]
      · have ha' : a < out.length := by simpa using ha
        rw [List.getElem_set]
        split
        · rename_i he
          subst he
          refine ((hh _ ha').join hcell).congr (fun c => ?_)
          constructor
          · rintro (⟨j, hj, hc, he⟩ | rfl)
            · exact ⟨j, by omega, hc, he⟩
            · exact ⟨i, by omega, List.getElem?_eq_getElem hic, rfl⟩
          · rintro ⟨j, hj, hc, he⟩
            rcases Nat.lt_or_ge j i with hji | hji
            · exact .inl ⟨j, hji, hc, he⟩
            · have : j = i := by omega
              subst this
              rw [List.getElem?_eq_getElem hic] at hc
              injection hc with hc
              exact .inr hc.symm
        · rename_i he
          refine (hh _ ha').congr (fun c => ?_)
          constructor
          · rintro ⟨j, hj, hc, he'⟩; exact ⟨j, by omega, hc, he'⟩
          · rintro ⟨j, hj, hc, he'⟩
            refine ⟨j, ?_, hc, he'⟩
            rcases Nat.lt_or_ge j i with hji | hji
            · exact hji
            · have : j = i := by omega
              subst this
              exact absurd he' he
    · right
      refine ⟨out, ?_, hl, fun a ha => (hh a ha).congr (fun c => ?_)⟩
      · unfold model_Coarse_l7
        simp only
        rw [if_neg (by omega)]
      · rw [blk_iff h hk]
        have : i = nx * ny := by omega
        subst this
        rfl
  · simp only [List.getElem_replicate]
    refine Hull.none.congr (fun c => ?_)
    constructor
    · intro h; exact h.elim
    · rintro ⟨j, hj, _⟩; omega
theorem coarse_eq {g : S_api_Grid} {nx ny st : Nat} (h : Dims g nx ny st) {k : Int} (he : thinE g k = 0) :
    ∃ t, model_Coarse g k = some (⟨redP g.Raster nx ny st k.toNat, t⟩, 0) ∧ t.length = dim nx k.toNat * dim ny k.toNat ∧ ∀ (i : Nat) (hi : i < t.length), Hull (Blk g nx ny k.toNat i) t[i] := by
  obtain ⟨hv, hk, hs⟩ := thinE_zero he
  obtain ⟨q, rfl⟩ : ∃ q : Nat, k = (q : Int) := ⟨k.toNat, by omega⟩
  have hq : 1 ≤ q := by omega
  have hsq : st * q ≤ 1000000 := by rw [h.es, ← Int.natCast_mul] at hs; omega
  have hq9 : q ≤ 1000000 := by have := Nat.mul_le_mul_right q h.bs.1; omega
  have hdx := dim_le h.bx.1 hq
  have hdy := dim_le h.by_.1 hq
  have hD : dim nx q * dim ny q ≤ 4096 := Nat.le_trans (Nat.mul_le_mul hdx.2 hdy.2) h.le
  have hD1 : 1 * 1 ≤ dim nx q * dim ny q := Nat.mul_le_mul hdx.1 hdy.1
  obtain ⟨t, h1, h2, h3⟩ := coarse_loop h hq hq9 (r := redP g.Raster nx ny st q) rfl
  simp only [Int.toNat_natCast]
  refine ⟨t, ?_, h2, h3⟩
  unfold model_Coarse
  rw [refused_eq, bnd_s, he, if_pos rfl, reduced_eq h hq hsq, bnd_s]
  have e1 : w64 ((redP g.Raster nx ny st q).NX * (redP g.Raster nx ny st q).NY) = ((dim nx q * dim ny q : Nat) : Int) := by
    show w64 (((dim nx q : Nat) : Int) * ((dim ny q : Nat) : Int)) = _
    rw [← Int.natCast_mul, w64_nat (by omega)]
  rw [e1, repeat_eq _ (by omega) hD, bnd_s]
  simp only [jn_d]
  unfold voidC at h1
  rw [h1, bnd_s]
theorem coarse_no {g : S_api_Grid} {k : Int} (he : thinE g k ≠ 0) : model_Coarse g k = some (⟨⟨0, 0, 0, 0, 0⟩, []⟩, thinE g k) := by
  unfold model_Coarse
  rw [refused_eq, bnd_s, if_neg he]
/-! ### the document's Thin -/
section
variable {g : S_api_Grid} {nx ny st k sz i : Nat}
theorem ref_inner (h : Dims g nx ny st) (hk9 : k ≤ 1000000) (hsz : sz ≤ 1000000) {s155 : List S_api_Cell × Int} (hs : s155.2 = (i : Int)) {r9 : S_api_Raster × Bool} {dx : Nat} (hr : r9.1.NX = (dx : Int)) (hd : 1 ≤ dx ∧ dx ≤ 64) {y : Nat} (hy : y < ny) {s223 : Bool × Int × Int × Int} (hs2 : s223.2.2.2 = (y : Int))
    (P : S_api_Cell → Prop) (c0 : S_api_Cell) (hP : Hull P c0) (hx0 : i % dx * k < nx) :
    ∃ t, lfix (lidarref09_Thin_l19 s155 r9 (k : Int) (sz : Int) g s223) (c0.Void, c0.Z.Lo, c0.Z.Hi, ((i % dx * k : Nat) : Int)) = some t ∧
      Hull (fun c => P c ∨ ∃ x, i % dx * k ≤ x ∧ x < min (i % dx * k + sz) nx ∧ g.Cells[y * nx + x]? = some c) ⟨t.1, ⟨t.2.1, t.2.2⟩⟩ := by
  have hbx := h.bx; have hby := h.by_; have hle := h.le; have hlen := h.len
  have hlim : min (w64 ((w64 ((Int.tmod s155.2 r9.1.NX) * (k : Int))) + (sz : Int))) g.Raster.NX = ((min (i % dx * k + sz) nx : Nat) : Int) := by
    rw [hs, hr, h.ex]
    have e1 : w64 (Int.tmod (i : Int) (dx : Int) * (k : Int)) = ((i % dx * k : Nat) : Int) := by rw [← Int.ofNat_tmod, ← Int.natCast_mul, w64_nat (by omega)]
    rw [e1, ← Int.natCast_add, w64_nat (by omega)]
    omega
  refine lfix_ind (μ := fun s => nx - s.2.2.2.toNat)
    (C := fun s => ∃ (x : Nat) (r : S_api_Cell), s = (r.Void, r.Z.Lo, r.Z.Hi, (x : Int)) ∧ i % dx * k ≤ x ∧ x ≤ min (i % dx * k + sz) nx ∧ Hull (fun c => P c ∨ ∃ x', i % dx * k ≤ x' ∧ x' < x ∧ g.Cells[y * nx + x']? = some c) r)
    (R := fun (t : Bool × Int × Int) => Hull (fun c => P c ∨ ∃ x, i % dx * k ≤ x ∧ x < min (i % dx * k + sz) nx ∧ g.Cells[y * nx + x]? = some c) ⟨t.1, ⟨t.2.1, t.2.2⟩⟩) ?_ _ ⟨i % dx * k, c0, rfl, Nat.le_refl _, by omega, hP.congr (fun c => ?_)⟩
  · rintro s ⟨x, r, rfl, h1, h2, h3⟩
    by_cases hlt : x < min (i % dx * k + sz) nx
    · left
      have hxn : x < nx := by omega
      have hcl : y * nx + x < g.Cells.length := by rw [hlen]; exact cell_lt hxn hy
      have hcell := h.cell _ (List.getElem_mem hcl)
      have hyn : y * nx ≤ 4096 := by omega
      have e2 : w64 ((y : Int) * (nx : Int)) = ((y * nx : Nat) : Int) := by rw [← Int.natCast_mul, w64_nat (by omega)]
      have e3 : w64 (((y * nx : Nat) : Int) + (x : Int)) = ((y * nx + x : Nat) : Int) := by rw [← Int.natCast_add, w64_nat (by omega)]
      have hstep : lidarref09_Thin_l19 s155 r9 (k : Int) (sz : Int) g s223 (r.Void, r.Z.Lo, r.Z.Hi, (x : Int)) = some (.inl ((joinP r g.Cells[y * nx + x]).Void, (joinP r g.Cells[y * nx + x]).Z.Lo, (joinP r g.Cells[y * nx + x]).Z.Hi, ((x + 1 : Nat) : Int))) := by
        unfold lidarref09_Thin_l19
        simp only
        rw [hlim, if_pos (by omega)]
        simp only [jn_d]
        rw [hs2, h.ex, e2, e3, idx_nat hcl, bnd_s, w64_succ (by omega)]
        generalize g.Cells[y * nx + x] = c at hcell ⊢
        have hv := h3.v
        unfold joinP
        cases hc : c.Void with
        | true =>
          rw [if_pos rfl]
          cases hr' : r.Void with
          | true =>
            have e4 := (hv hr').1
            have e5 := void_of hcell hc
            subst e4; subst e5; rfl
          | false => simp [hr']
        | false =>
          rw [if_neg (by simp)]
          cases hr' : r.Void with
          | true => simp [hc]
          | false => simp
      refine ⟨_, hstep, ⟨x + 1, joinP r g.Cells[y * nx + x], rfl, by omega, by omega, (h3.join hcell).congr (fun c => ?_)⟩, by simp only [Int.toNat_natCast]; omega⟩
      constructor
      · rintro ((hp | ⟨x', a1, a2, a3⟩) | rfl)
        · exact .inl hp
        · exact .inr ⟨x', a1, by omega, a3⟩
        · exact .inr ⟨x, h1, by omega, List.getElem?_eq_getElem hcl⟩
      · rintro (hp | ⟨x', a1, a2, a3⟩)
        · exact .inl (.inl hp)
        · rcases Nat.lt_or_ge x' x with hh | hh
          · exact .inl (.inr ⟨x', a1, hh, a3⟩)
          · have : x' = x := by omega
            subst this
            rw [List.getElem?_eq_getElem hcl] at a3
            injection a3 with a3
            exact .inr a3.symm
    · right
      refine ⟨(r.Void, r.Z.Lo, r.Z.Hi), ?_, ?_⟩
      · unfold lidarref09_Thin_l19
        simp only
        rw [hlim, if_neg (by omega)]
      · have : x = min (i % dx * k + sz) nx := by omega
        subst this
        exact h3
  · constructor
    · intro hp; exact .inl hp
    · rintro (hp | ⟨x', a1, a2, _⟩)
      · exact hp
      · omega
theorem ref_outer (h : Dims g nx ny st) (hk9 : k ≤ 1000000) (hsz : sz ≤ 1000000) {s155 : List S_api_Cell × Int} (hs : s155.2 = (i : Int)) {r9 : S_api_Raster × Bool} {dx : Nat} (hr : r9.1.NX = (dx : Int)) (hd : 1 ≤ dx ∧ dx ≤ 64) (hx0 : i % dx * k < nx) (hy0 : i / dx * k < ny) :
    ∃ t, lfix (lidarref09_Thin_l16 s155 r9 (k : Int) (sz : Int) g) (true, 0, 0, ((i / dx * k : Nat) : Int)) = some t ∧
      Hull (fun c => ∃ x y, i % dx * k ≤ x ∧ x < min (i % dx * k + sz) nx ∧ i / dx * k ≤ y ∧ y < min (i / dx * k + sz) ny ∧ g.Cells[y * nx + x]? = some c) ⟨t.1, ⟨t.2.1, t.2.2⟩⟩ := by
  have hbx := h.bx; have hby := h.by_; have hle := h.le; have hlen := h.len
  have hlim : min (w64 ((w64 ((w64 (Int.tdiv s155.2 r9.1.NX)) * (k : Int))) + (sz : Int))) g.Raster.NY = ((min (i / dx * k + sz) ny : Nat) : Int) := by
    rw [hs, hr, h.ey]
    have hdq : i / dx ≤ 64 ∨ k = 0 := by
      rcases Nat.eq_zero_or_pos k with hk | hk
      · exact .inr hk
      · left
        have : i / dx * 1 ≤ i / dx * k := Nat.mul_le_mul_left _ hk
        omega
    rcases hdq with hdq | rfl
    · have e0 : w64 (Int.tdiv (i : Int) (dx : Int)) = ((i / dx : Nat) : Int) := by rw [← Int.ofNat_tdiv, w64_nat (by omega)]
      have e1 : w64 (((i / dx : Nat) : Int) * (k : Int)) = ((i / dx * k : Nat) : Int) := by rw [← Int.natCast_mul, w64_nat (by omega)]
      rw [e0, e1, ← Int.natCast_add, w64_nat (by omega)]
      omega
    · simp only [Int.natCast_zero, Int.mul_zero, Nat.mul_zero]
      rw [show w64 0 = 0 from rfl, Int.zero_add, w64_nat (by omega)]
      omega
  have hx1 : w64 ((Int.tmod s155.2 r9.1.NX) * (k : Int)) = ((i % dx * k : Nat) : Int) := by
    rw [hs, hr, ← Int.ofNat_tmod, ← Int.natCast_mul, w64_nat (by omega)]
  have h0 : Hull (fun _ => False) voidC := Hull.none
  refine lfix_ind (μ := fun s => ny - s.2.2.2.toNat)
    (C := fun s => ∃ (y : Nat) (r : S_api_Cell), s = (r.Void, r.Z.Lo, r.Z.Hi, (y : Int)) ∧ i / dx * k ≤ y ∧ y ≤ min (i / dx * k + sz) ny ∧ Hull (fun c => ∃ x y', i % dx * k ≤ x ∧ x < min (i % dx * k + sz) nx ∧ i / dx * k ≤ y' ∧ y' < y ∧ g.Cells[y' * nx + x]? = some c) r)
    (R := fun (t : Bool × Int × Int) => Hull (fun c => ∃ x y, i % dx * k ≤ x ∧ x < min (i % dx * k + sz) nx ∧ i / dx * k ≤ y ∧ y < min (i / dx * k + sz) ny ∧ g.Cells[y * nx + x]? = some c) ⟨t.1, ⟨t.2.1, t.2.2⟩⟩) ?_ _ ⟨i / dx * k, voidC, rfl, Nat.le_refl _, by omega, h0.congr (fun c => ?_)⟩
  · rintro s ⟨y, r, rfl, h1, h2, h3⟩
    by_cases hlt : y < min (i / dx * k + sz) ny
    · left
      obtain ⟨t, e1, e2⟩ := ref_inner h hk9 hsz hs hr hd (show y < ny by omega) (s223 := (r.Void, r.Z.Lo, r.Z.Hi, (y : Int))) rfl _ r h3 hx0
      refine ⟨(t.1, t.2.1, t.2.2, ((y + 1 : Nat) : Int)), ?_, ⟨y + 1, ⟨t.1, ⟨t.2.1, t.2.2⟩⟩, rfl, by omega, by omega, e2.congr (fun c => ?_)⟩, by simp only [Int.toNat_natCast]; omega⟩
      · unfold lidarref09_Thin_l16
        simp only
        rw [hlim, if_pos (by omega)]
        simp only [jn_d]
        rw [hx1, e1, bnd_s, w64_succ (by omega)]
      · constructor
        · rintro (⟨x, y', a1, a2, a3, a4, a5⟩ | ⟨x, a1, a2, a3⟩)
          · exact ⟨x, y', a1, a2, a3, by omega, a5⟩
          · exact ⟨x, y, a1, a2, h1, by omega, a3⟩
        · rintro ⟨x, y', a1, a2, a3, a4, a5⟩
          rcases Nat.lt_or_ge y' y with hh | hh
          · exact .inl ⟨x, y', a1, a2, a3, hh, a5⟩
          · have : y' = y := by omega
            subst this
            exact .inr ⟨x, a1, a2, a5⟩
    · right
      refine ⟨(r.Void, r.Z.Lo, r.Z.Hi), ?_, ?_⟩
      · unfold lidarref09_Thin_l16
        simp only
        rw [hlim, if_neg (by omega)]
      · have : y = min (i / dx * k + sz) ny := by omega
        subst this
        exact h3
  · constructor
    · intro h; exact h.elim
    · rintro ⟨x, y', _, _, a3, a4, _⟩; omega
end
end Go.Proofs.Ytjhknbpiaikblaa
