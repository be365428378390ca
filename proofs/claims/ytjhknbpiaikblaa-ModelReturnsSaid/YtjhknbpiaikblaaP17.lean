/- Plain laws: what Decode returns for any bytes. -/
import Derived.Test.YtjhknbpiaikblaaP16
import Derived.Lib.Bytes
namespace Go.Proofs.Ytjhknbpiaikblaa
open Go Go.RowKit
theorem bytes_inj : ∀ (a b : List Int), (∀ x ∈ a, isB x) → (∀ x ∈ b, isB x) → (a.map fun n => UInt8.ofNat n.toNat) = (b.map fun n => UInt8.ofNat n.toNat) → a = b
  | [], [], _, _, _ => rfl
  | [], _ :: _, _, _, h => by simp at h
  | _ :: _, [], _, _, h => by simp at h
  | x :: a, y :: b, ha, hb, h => by
    simp only [List.map_cons, List.cons.injEq] at h
    have hx := ha x List.mem_cons_self
    have hy := hb y List.mem_cons_self
    unfold isB at hx hy
    have h1 : (UInt8.ofNat x.toNat).toNat = (UInt8.ofNat y.toNat).toNat := by rw [h.1]
    simp only [UInt8.toNat_ofNat'] at h1
    rw [bytes_inj a b (fun z hz => ha z (List.mem_cons_of_mem _ hz)) (fun z hz => hb z (List.mem_cons_of_mem _ hz)) h.2, show x = y by omega]
theorem str_eq {a b : List Int} (ha : ∀ x ∈ a, isB x) (hb : ∀ x ∈ b, isB x) : ((strOfNums a).toList == (strOfNums b).toList) = true ↔ a = b := by
  constructor
  · intro h
    rw [beq_iff_eq] at h
    have e : ∀ xs : List Int, (strOfNums xs).toList = xs.map fun n => UInt8.ofNat n.toNat := fun xs => by
      rw [Lib.strOfNums_toList]; rfl
    rw [e, e] at h
    exact bytes_inj a b ha hb h
  · rintro rfl; simp
theorem encode_B {g : S_api_Grid} (hv : validP g = true) : ∃ out, model_encode g = some out ∧ out.length ≤ 100004 ∧ ∀ x ∈ out, isB x := by
  obtain ⟨bd, c0, c1, c2, c3, _, hl, he, b0, b1, b2, b3, hb⟩ := encode_body hv
  refine ⟨_, he, by simp only [List.length_append, List.length_cons, List.length_nil]; omega, fun x hx => ?_⟩
  rcases List.mem_append.1 hx with hx | hx
  · exact hb x hx
  · simp only [List.mem_cons, List.not_mem_nil, or_false] at hx
    rcases hx with rfl | rfl | rfl | rfl <;> assumption
theorem raster_nat {f : S_api_Raster} (h : rasterP f = true) : ∃ all : Nat, f.NX * f.NY = (all : Int) ∧ all ≤ 4096 ∧ w64 (f.NX * f.NY) = (all : Int) := by
  obtain ⟨_, ⟨n1, n2⟩, ⟨m1, m2⟩, _, _⟩ := goodF_of h
  have := prod_bd n1 n2 m1 m2
  obtain ⟨q, hq⟩ : ∃ q : Nat, f.NX * f.NY = (q : Int) := ⟨(f.NX * f.NY).toNat, by omega⟩
  exact ⟨q, hq, by omega, by rw [w64_id (by omega) (by omega), hq]⟩
def Dec (b : List Int) (r : S_api_Grid × Int) : Prop := r = (gNil, 4) ∨ (r.2 = 0 ∧ validP r.1 = true ∧ model_encode r.1 = some b)
theorem model_decode {b : List Int} (hl : b.length ≤ 1000000) (hB : ∀ x ∈ b, isB x) : ∃ r, model_Decode b = some r ∧ Dec b r := by
  unfold model_Decode
  by_cases h4 : ((b.length : Nat) : Int) < 4
  · rw [if_pos h4]; exact ⟨_, rfl, .inl rfl⟩
  rw [if_neg h4]
  have hw : w64 (((b.length : Nat) : Int) - 4) = ((b.length - 4 : Nat) : Int) := by rw [w64_id (by omega) (by omega)]; omega
  simp only [hw, jn_d]
  rw [gd_t (by omega)]
  have hsl : (subl b 0 ((b.length - 4 : Nat) : Int)).length ≤ 1000000 := by rw [subl0, List.length_take]; omega
  generalize subl b 0 ((b.length - 4 : Nat) : Int) = p at *
  obtain ⟨⟨⟨p1, d1⟩, x0⟩, e1, ⟨l1, _, _⟩⟩ := rsig_any p false (by omega)
  simp only at l1
  rw [e1, bnd_s]; simp only
  obtain ⟨⟨⟨p2, d2⟩, y0⟩, e2, ⟨l2, _, _⟩⟩ := rsig_any p1 d1 (by omega)
  simp only at l2
  rw [e2, bnd_s]; simp only
  obtain ⟨⟨⟨p3, d3⟩, st⟩, e3, ⟨l3, _, _⟩, _⟩ := rnum_any p2 d2 (by omega)
  simp only at l3
  rw [e3, bnd_s]; simp only
  obtain ⟨⟨⟨p4, d4⟩, nx⟩, e4, ⟨l4, _, _⟩, _⟩ := rnum_any p3 d3 (by omega)
  simp only at l4
  rw [e4, bnd_s]; simp only
  obtain ⟨⟨⟨p5, d5⟩, ny⟩, e5, ⟨l5, _, _⟩, _⟩ := rnum_any p4 d4 (by omega)
  simp only at l5
  rw [e5, bnd_s]; simp only
  by_cases hd : d5 = true
  · rw [if_pos hd, if_pos trivial]; exact ⟨_, rfl, .inl rfl⟩
  rw [if_neg hd, validRaster_eq, bnd_s]
  by_cases hr : rasterP ⟨x0, y0, st, nx, ny⟩ = true
  · rw [if_neg (by simp [hr])]
    obtain ⟨all, a1, a2, a3⟩ := raster_nat hr
    simp only at a1 a3
    obtain ⟨⟨q1, q2, cs⟩, f1, f2⟩ := model_ends a2 p5 d5 (by omega)
    simp only at f2
    have hcells : model_reader_cells ⟨p5, d5⟩ (w64 (nx * ny)) = some (⟨q1, q2⟩, cs) := by
      unfold model_reader_cells
      simp only [jn_d]
      rw [a3, f1, bnd_s]
    rw [hcells, bnd_s]; simp only
    by_cases hq : q2 = true
    · rw [if_pos hq, if_pos trivial]; exact ⟨_, rfl, .inl rfl⟩
    rw [if_neg hq, valid_eq, bnd_s]
    by_cases hv : validP ⟨⟨x0, y0, st, nx, ny⟩, cs⟩ = true
    · obtain ⟨out, o1, _, o3⟩ := encode_B hv
      rw [if_pos hv, o1, bnd_s]
      by_cases he : out = b
      · rw [if_neg (by rw [(str_eq o3 hB).2 he]; simp)]
        exact ⟨_, rfl, .inr ⟨rfl, hv, by rw [← he]; exact o1⟩⟩
      · have : ((strOfNums out).toList == (strOfNums b).toList) = false := by
          cases hx : ((strOfNums out).toList == (strOfNums b).toList) with
          | false => rfl
          | true => exact absurd ((str_eq o3 hB).1 hx) he
        rw [if_pos (by rw [this]; rfl)]; exact ⟨_, rfl, .inl rfl⟩
    · rw [if_neg hv, if_pos trivial]; exact ⟨_, rfl, .inl rfl⟩
  · have hrf : rasterP ⟨x0, y0, st, nx, ny⟩ = false := by simpa using hr
    rw [if_pos (by rw [hrf]; rfl)]; exact ⟨_, rfl, .inl rfl⟩
theorem body_take {bd : List Int} {c0 c1 c2 c3 : Int} : subl (bd ++ [c0, c1, c2, c3]) 0 ((((bd ++ [c0, c1, c2, c3]).length - 4 : Nat)) : Int) = bd := by
  rw [subl0, List.length_append]
  simp
theorem decode_enc {g : S_api_Grid} {b : List Int} (hv : validP g = true) (he : model_encode g = some b) : model_Decode b = some (g, 0) := by
  obtain ⟨bd, c0, c1, c2, c3, ⟨bs, hce, hbd⟩, hbl, he2, b0, b1, b2, b3, hb⟩ := encode_body hv
  obtain ⟨out, o1, o2, o3⟩ := encode_B hv
  have hob : out = b := by rw [o1] at he; injection he
  have hbb : b = bd ++ [c0, c1, c2, c3] := by rw [he2] at he; injection he with he; exact he.symm
  subst hob
  obtain ⟨hf, hcl, hcn, _⟩ := valid_parts hv
  obtain ⟨⟨s1, s2⟩, ⟨n1, n2⟩, ⟨m1, m2⟩, ⟨x1, x2⟩, ⟨y1, y2⟩⟩ := hf
  have hlen : out.length = bd.length + 4 := by rw [hbb]; simp
  unfold model_Decode
  have hw : w64 (((out.length : Nat) : Int) - 4) = ((out.length - 4 : Nat) : Int) := by rw [w64_id (by omega) (by omega)]; omega
  rw [if_neg (by omega)]
  simp only [hw, jn_d]
  have hsub : subl out 0 ((out.length - 4 : Nat) : Int) = bd := by rw [hbb]; exact body_take
  rw [gd_t (by omega), hsub, hbd]
  have L := hbl
  rw [hbd] at L
  simp only [List.length_append] at L
  rw [rsig_vl (by omega) (by omega) (by simp only [List.length_append]; omega), bnd_s]; simp only
  rw [rsig_vl (by omega) (by omega) (by simp only [List.length_append]; omega), bnd_s]; simp only
  rw [rnum_vl (by omega) (by simp only [List.length_append]; omega), bnd_s]; simp only
  rw [rnum_vl (by omega) (by simp only [List.length_append]; omega), bnd_s]; simp only
  rw [rnum_vl (by omega) (by simp only [List.length_append]; omega), bnd_s]; simp only
  rw [show ((g.Raster.Step.toNat : Nat) : Int) = g.Raster.Step by omega, show ((g.Raster.NX.toNat : Nat) : Int) = g.Raster.NX by omega, show ((g.Raster.NY.toNat : Nat) : Int) = g.Raster.NY by omega]
  have hras : rasterP g.Raster = true := (validP_cells hv).2.2.2
  rw [if_neg (by simp), validRaster_eq, bnd_s, if_neg (by rw [show (⟨g.Raster.X0, g.Raster.Y0, g.Raster.Step, g.Raster.NX, g.Raster.NY⟩ : S_api_Raster) = g.Raster from rfl, hras]; simp)]
  obtain ⟨all, a1, a2, a3⟩ := raster_nat hras
  have hall : all = g.Cells.length := by omega
  have hdec := model_dec hce [] [] (by decide) (by simp; omega) (by simp only [List.length_append, List.length_nil]; omega)
  simp only [List.length_nil, Nat.zero_add, List.nil_append, List.append_nil] at hdec
  have hcells : model_reader_cells ⟨bs, false⟩ (w64 (g.Raster.NX * g.Raster.NY)) = some (⟨[], false⟩, g.Cells) := by
    unfold model_reader_cells
    simp only [jn_d]
    rw [a3, hall, hdec, bnd_s]
  rw [hcells, bnd_s]; simp only
  rw [if_neg (by simp), valid_eq, bnd_s, if_pos hv, o1, bnd_s, if_neg (by rw [(str_eq o3 o3).2 rfl]; simp)]
end Go.Proofs.Ytjhknbpiaikblaa
