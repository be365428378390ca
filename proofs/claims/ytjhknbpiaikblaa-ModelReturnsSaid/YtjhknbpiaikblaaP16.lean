/- Plain laws: the document's reader ends on any bytes; what Decode returns. -/
import Derived.Test.YtjhknbpiaikblaaP15
namespace Go.Proofs.Ytjhknbpiaikblaa
open Go Go.RowKit
def gNil : S_api_Grid := ⟨⟨0, 0, 0, 0, 0⟩, []⟩
theorem ref_ends {all : Nat} (ha : all ≤ 4096) (q q' : S_lidarref09_reader × Int) (hq : w64 (q.2 * q'.2) = (all : Int)) (b : List Int) (bad : Bool) (hb : b.length ≤ 1000000000) :
    ∃ t, lfix (lidarref09_Decode_l13 q q') (b, bad, [], 0) = some t ∧ ((∃ e, t = .inl e ∧ e.2.2.length ≤ 4096) ∨ t = .inr (gNil, 4)) := by
  refine lfix_ind (B := lidarref09_Decode_l13 q q') (μ := fun s => all - s.2.2.1.length + (if s.2.1 = true then 0 else 1)) (C := fun s => s.1.length ≤ 1000000000 ∧ s.2.2.1.length ≤ all)
    (R := fun (t : Sum ((List Int) × Bool × (List S_api_Cell)) (S_api_Grid × Int)) => (∃ e, t = .inl e ∧ e.2.2.length ≤ 4096) ∨ t = .inr (gNil, 4)) ?_ _ ⟨hb, by simp⟩
  rintro ⟨b, bad, d, z⟩ ⟨hb, hd⟩
  simp only at hb hd
  by_cases hgo : d.length < all ∧ bad = false
  · obtain ⟨hlt, rfl⟩ := hgo
    obtain ⟨⟨⟨b1, bad1⟩, v1⟩, a1, ⟨a2, _, a4⟩, a5⟩ := fread_any b false false hb
    simp only at a2 a4 a5
    obtain ⟨a5, a6⟩ := a5 trivial
    unfold lidarref09_Decode_l13
    simp only [jn_d, hq]
    rw [if_pos (by omega), if_pos (by simp), a1, bnd_s]
    simp only
    by_cases hv : v1 = 0
    · rw [if_pos hv]
      obtain ⟨⟨⟨b2, bad2⟩, v2⟩, c1, ⟨c2, _, c4⟩, c5⟩ := fread_any b1 bad1 false (by omega)
      simp only at c2 c4 c5
      obtain ⟨c5, c6⟩ := c5 trivial
      rw [c1, bnd_s]
      simp only
      rw [w64_id (x := (all : Int) - (d.length : Int)) (by omega) (by omega)]
      by_cases hm : (all : Int) - (d.length : Int) < v2
      · rw [if_pos hm]
        exact .inr ⟨_, rfl, .inr rfl⟩
      · rw [if_neg hm]
        left
        obtain ⟨n, rfl⟩ : ∃ n : Nat, v2 = (n : Int) := ⟨v2.toNat, by omega⟩
        have := ref_voids ((⟨b2, bad2⟩, (n : Int)) : S_lidarref09_reader × Int) rfl d (by omega) n 0 rfl (by omega)
        rw [List.replicate_zero, List.append_nil] at this
        rw [show lfix (lidarref09_Decode_l20 ((⟨b2, bad2⟩, (n : Int)) : S_lidarref09_reader × Int)) (d, 0) = _ from this, bnd_s]
        cases bad2 with
        | true =>
          rw [if_pos rfl]
          refine ⟨_, rfl, ⟨by simp only; omega, by simp only [List.length_append, List.length_replicate]; omega⟩, ?_⟩
          simp only [List.length_append, List.length_replicate]
          rw [if_neg (show ¬ (false = true) by simp), if_pos trivial]; omega
        | false =>
          rw [if_neg (by simp)]
          refine ⟨_, rfl, ⟨by simp only; omega, by simp only [List.length_append, List.length_replicate]; omega⟩, ?_⟩
          simp only [List.length_append, List.length_replicate]
          rw [if_neg (show ¬ (false = true) by simp)]
          by_cases hn : (n : Int) = 0
          · rw [if_pos (by simpa using hn)]; omega
          · split <;> omega
    · rw [if_neg hv]
      obtain ⟨⟨⟨b2, bad2⟩, v2⟩, c1, ⟨c2, _, c4⟩, _⟩ := fread_any b1 bad1 true (by omega)
      simp only at c2 c4
      rw [c1, bnd_s]
      simp only
      by_cases hbig : 1073741824 < v1 ∨ v2 < -1073741824 ∨ 1073741824 < v2
      · right
        refine ⟨.inr (gNil, 4), ?_, .inr rfl⟩
        by_cases h1 : 1073741824 < v1
        · rw [if_pos h1, if_pos trivial]; rfl
        · rw [if_neg h1]
          by_cases h2 : v2 < -1073741824
          · rw [if_pos h2, if_pos trivial]; rfl
          · rw [if_neg h2, if_pos (by simp only [decide_eq_true_eq]; omega)]; rfl
      · left
        rw [if_neg (by omega), if_neg (by omega), if_neg (by simp only [decide_eq_true_eq]; omega), gd_t (by omega)]
        refine ⟨_, rfl, ⟨by simp only; omega, by simp only [List.length_append, List.length_singleton]; omega⟩, ?_⟩
        simp only [List.length_append, List.length_singleton]
        rw [if_neg (show ¬ (false = true) by simp)]
        split <;> omega
  · right
    unfold lidarref09_Decode_l13
    simp only [jn_d, hq]
    by_cases hlt : d.length < all
    · have hbt : bad = true := by cases bad with
        | true => rfl
        | false => exact absurd ⟨hlt, rfl⟩ hgo
      subst hbt
      rw [if_pos (by omega), if_neg (by simp)]
      exact ⟨_, rfl, .inl ⟨_, rfl, by simp only; omega⟩⟩
    · rw [if_neg (by omega), if_neg (by simp)]
      exact ⟨_, rfl, .inl ⟨_, rfl, by simp only; omega⟩⟩
/-! ### the bytes of a grid -/
/-- The bytes ahead of the sum. -/
def Body (g : S_api_Grid) (bd : List Int) : Prop := ∃ bs, CE g.Cells 0 bs ∧ bd = vl (zz g.Raster.X0) ++ (vl (zz g.Raster.Y0) ++ (vl g.Raster.Step.toNat ++ (vl g.Raster.NX.toNat ++ (vl g.Raster.NY.toNat ++ bs))))
theorem valid_parts {g : S_api_Grid} (h : validP g = true) : GoodF g.Raster ∧ g.Cells.length ≤ 4096 ∧ (g.Cells.length : Int) = g.Raster.NX * g.Raster.NY ∧ ∀ c ∈ g.Cells, cellP c = true := by
  obtain ⟨h1, h2, h3, h4⟩ := validP_cells h
  refine ⟨goodF_of h4, h3, h1, fun c hc => ?_⟩
  unfold validP at h
  simp only [Bool.and_eq_true, List.all_eq_true] at h
  exact h.2 c hc
theorem encode_body {g : S_api_Grid} (hv : validP g = true) : ∃ (bd : List Int) (c0 c1 c2 c3 : Int), Body g bd ∧ bd.length ≤ 100000 ∧ model_encode g = some (bd ++ [c0, c1, c2, c3]) ∧ isB c0 ∧ isB c1 ∧ isB c2 ∧ isB c3 ∧ (∀ x ∈ bd, isB x) := by
  obtain ⟨hf, hl, _, hc⟩ := valid_parts hv
  obtain ⟨⟨s1, s2⟩, ⟨n1, n2⟩, ⟨m1, m2⟩, ⟨x1, x2⟩, ⟨y1, y2⟩⟩ := hf
  have k1 := vl_len 9 (zz g.Raster.X0) (by omega) (by unfold zz; split <;> omega)
  have k2 := vl_len 9 (zz g.Raster.Y0) (by omega) (by unfold zz; split <;> omega)
  have k3 := vl_len 9 g.Raster.Step.toNat (by omega) (by omega)
  have k4 := vl_len 9 g.Raster.NX.toNat (by omega) (by omega)
  have k5 := vl_len 9 g.Raster.NY.toNat (by omega) (by omega)
  have e1 : (signP [] g.Raster.X0).1 = [] ++ vl (zz g.Raster.X0) := signP_ok (by omega) (by omega)
  have e2 : (signP ([] ++ vl (zz g.Raster.X0)) g.Raster.Y0).1 = ([] ++ vl (zz g.Raster.X0)) ++ vl (zz g.Raster.Y0) := signP_ok (by omega) (by omega)
  generalize hw2 : ([] ++ vl (zz g.Raster.X0)) ++ vl (zz g.Raster.Y0) = w2 at *
  have l2 : w2.length ≤ 18 := by rw [← hw2]; simp only [List.length_append, List.length_nil]; omega
  have e3 : (numP w2 g.Raster.Step).1 = w2 ++ vl g.Raster.Step.toNat := by
    have := numP_ok (p := w2) (n := g.Raster.Step.toNat) (by omega)
    rwa [show ((g.Raster.Step.toNat : Nat) : Int) = g.Raster.Step by omega] at this
  generalize hw3 : w2 ++ vl g.Raster.Step.toNat = w3 at *
  have l3 : w3.length ≤ 27 := by rw [← hw3]; simp only [List.length_append]; omega
  have e4 : (numP w3 g.Raster.NX).1 = w3 ++ vl g.Raster.NX.toNat := by
    have := numP_ok (p := w3) (n := g.Raster.NX.toNat) (by omega)
    rwa [show ((g.Raster.NX.toNat : Nat) : Int) = g.Raster.NX by omega] at this
  generalize hw4 : w3 ++ vl g.Raster.NX.toNat = w4 at *
  have l4 : w4.length ≤ 36 := by rw [← hw4]; simp only [List.length_append]; omega
  have e5 : (numP w4 g.Raster.NY).1 = w4 ++ vl g.Raster.NY.toNat := by
    have := numP_ok (p := w4) (n := g.Raster.NY.toNat) (by omega)
    rwa [show ((g.Raster.NY.toNat : Nat) : Int) = g.Raster.NY by omega] at this
  generalize hw5 : w4 ++ vl g.Raster.NY.toNat = w5 at *
  have l5 : w5.length ≤ 45 := by rw [← hw5]; simp only [List.length_append]; omega
  obtain ⟨bs, c1, c2, c3⟩ := cells_enc g.Cells hc (by omega) g.Cells.length 0 w5 0 (by omega) (by omega) (by omega) (by decide)
  rw [List.drop_zero] at c1 c2
  obtain ⟨c, out, o1, _, _, _⟩ := encode_both g (by omega)
  have henc : ∃ c : Int, model_encode g = some ((w5 ++ bs) ++ [wu8 (shr_ .u32 c 24), wu8 (shr_ .u32 c 16), wu8 (shr_ .u32 c 8), wu8 c]) ∧ ∀ x ∈ w5 ++ bs, isB x := by
    have b0 : ∀ x ∈ ([] : List Int), isB x := by simp
    obtain ⟨out, h1, _, h3, h4⟩ := cells_both g (by omega) g.Cells.length 0 w5 0 (by omega) (by omega) (by omega) (by
      rw [← e5]; apply numP_B; rw [← e4]; apply numP_B; rw [← e3]; apply numP_B; rw [← e2]; apply signP_B; rw [← e1]; exact signP_B _ b0)
    rw [List.drop_zero, c2] at h1
    have : w5 ++ bs = out := by injection h1 with h1; injection h1
    subst this
    obtain ⟨c, q1, _⟩ := checksum_both (p := w5 ++ bs) (by omega) h4
    refine ⟨c, ?_, h4⟩
    unfold model_encode
    rw [wsigned_eq _ (by simp), bnd_s]
    simp only [e1]
    rw [wsigned_eq _ (by show ([] ++ vl _).length ≤ _; simp only [List.length_append, List.length_nil]; omega), bnd_s]
    simp only [e2]
    rw [wnumber_eq _ (by show w2.length ≤ _; omega), bnd_s]
    simp only [e3]
    rw [wnumber_eq _ (by show w3.length ≤ _; omega), bnd_s]
    simp only [e4]
    rw [wnumber_eq _ (by show w4.length ≤ _; omega), bnd_s]
    simp only [e5]
    unfold model_writer_cells
    simp only [c2]
    rw [bnd_s, bnd_s, q1, bnd_s, gd_t (by show ((w5 ++ bs).length + 4) * 1 ≤ _; omega)]
  obtain ⟨c', h1, h2⟩ := henc
  have wB : ∀ x, isB (wu8 x) := fun x => by unfold isB; rw [wu8_eq]; omega
  refine ⟨w5 ++ bs, _, _, _, _, ⟨bs, c1, ?_⟩, by rw [List.length_append]; omega, h1, wB _, wB _, wB _, wB _, h2⟩
  rw [← hw5, ← hw4, ← hw3, ← hw2]
  simp only [List.append_assoc, List.nil_append]
end Go.Proofs.Ytjhknbpiaikblaa
