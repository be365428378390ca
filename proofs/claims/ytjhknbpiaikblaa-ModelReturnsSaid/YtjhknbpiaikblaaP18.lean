/- Plain laws: what the document's Decode returns; the two laws. -/
import Derived.Test.YtjhknbpiaikblaaP17
namespace Go.Proofs.Ytjhknbpiaikblaa
open Go Go.RowKit
theorem refEncode_cases (g : S_api_Grid) (h : g.Cells.length ≤ 5000) : (validP g = true ∧ ∃ out, model_encode g = some out ∧ lidarref09_Encode g = some (out, 0)) ∨ (validP g ≠ true ∧ lidarref09_Encode g = some ([], 90)) := by
  by_cases hv : validP g = true
  · obtain ⟨c, out, h1, _, _, h3⟩ := encode_both g h
    exact .inl ⟨hv, _, h1, h3 hv⟩
  · refine .inr ⟨hv, ?_⟩
    unfold lidarref09_Encode
    rw [refValid_eq, bnd_s, if_neg hv]
theorem zip_all : ∀ (a b : List Int), a.length = b.length → ((List.zip a b).all (fun x => x.1 == x.2) = true ↔ a = b)
  | [], [], _ => by simp
  | [], _ :: _, h => by simp at h
  | _ :: _, [], h => by simp at h
  | x :: a, y :: b, h => by
    simp only [List.zip_cons_cons, List.all_cons, Bool.and_eq_true, beq_iff_eq, List.cons.injEq]
    rw [zip_all a b (by simpa using h)]
theorem ref_cmp {b out : List Int} (h : out.length = b.length) (hl : b.length ≤ 1000000000) : lfix (lidarref09_Decode_l33 b (out, 0)) 0 = some (if out = b then .inl () else .inr (gNil, 4)) := by
  have hz : (List.zip out b).length = b.length := by rw [List.length_zip, h]; omega
  rw [lfix_all (List.zip out b) (fun x => x.1 == x.2) (lidarref09_Decode_l33 b (out, 0)) () (gNil, 4)]
  · by_cases e : out = b
    · rw [if_pos ((zip_all out b h).2 e), if_pos e]
    · rw [if_neg (fun hh => e ((zip_all out b h).1 hh)), if_neg e]
  · intro j hj
    rw [hz] at hj
    unfold lidarref09_Decode_l33
    rw [if_pos (by omega)]
    simp only
    rw [idx_nat (show j < out.length by omega), bnd_s, idx_nat hj, bnd_s, w64_succ (by omega), List.getElem_zip]
    by_cases e : out[j] = b[j]
    · rw [if_pos e, if_pos (by simpa using e)]
    · rw [if_neg e, if_neg (by simpa using e)]; rfl
  · unfold lidarref09_Decode_l33
    rw [hz, if_neg (by omega)]
theorem ref_decode {b : List Int} (hl : b.length ≤ 1000000) : ∃ r, lidarref09_Decode b = some r ∧ Dec b r := by
  unfold lidarref09_Decode
  by_cases h4 : ((b.length : Nat) : Int) < 4
  · rw [if_pos h4]; exact ⟨_, rfl, .inl rfl⟩
  rw [if_neg h4]
  have hw : w64 (((b.length : Nat) : Int) - 4) = ((b.length - 4 : Nat) : Int) := by rw [w64_id (by omega) (by omega)]; omega
  simp only [hw, jn_d, List.nil_append]
  rw [gd_t (by omega)]
  have hsl : (subl b 0 ((b.length - 4 : Nat) : Int)).length ≤ 1000000 := by rw [subl0, List.length_take]; omega
  generalize subl b 0 ((b.length - 4 : Nat) : Int) = p at *
  rw [gd_t (by simp only [List.length_nil]; omega)]
  obtain ⟨⟨⟨p1, d1⟩, x0⟩, e1, ⟨l1, _, _⟩, _⟩ := fread_any p false true (by omega)
  simp only at l1
  rw [e1, bnd_s]; simp only
  obtain ⟨⟨⟨p2, d2⟩, y0⟩, e2, ⟨l2, _, _⟩, _⟩ := fread_any p1 d1 true (by omega)
  simp only at l2
  rw [e2, bnd_s]; simp only
  obtain ⟨⟨⟨p3, d3⟩, st⟩, e3, ⟨l3, _, _⟩, _⟩ := fread_any p2 d2 false (by omega)
  simp only at l3
  rw [e3, bnd_s]; simp only
  obtain ⟨⟨⟨p4, d4⟩, nx⟩, e4, ⟨l4, _, _⟩, _⟩ := fread_any p3 d3 false (by omega)
  simp only at l4
  rw [e4, bnd_s]; simp only
  obtain ⟨⟨⟨p5, d5⟩, ny⟩, e5, ⟨l5, _, _⟩, _⟩ := fread_any p4 d4 false (by omega)
  simp only at l5
  rw [e5, bnd_s]; simp only
  by_cases hd : d5 = true
  · rw [if_pos hd, if_pos trivial]; exact ⟨_, rfl, .inl rfl⟩
  rw [if_neg hd, refValidRaster_eq, bnd_s]
  by_cases hr : rasterP ⟨x0, y0, st, nx, ny⟩ = true
  · rw [if_neg (by simp [hr])]
    obtain ⟨all, a1, a2, a3⟩ := raster_nat hr
    simp only at a1 a3
    obtain ⟨t, f1, f2⟩ := ref_ends a2 (⟨p4, d4⟩, nx) (⟨p5, d5⟩, ny) a3 p5 d5 (by omega)
    rw [f1, bnd_s]
    rcases f2 with ⟨⟨q1, q2, cs⟩, rfl, f2⟩ | rfl
    · simp only at f2
      simp only
      rcases refEncode_cases ⟨⟨x0, y0, st, nx, ny⟩, cs⟩ (by simp only; omega) with ⟨hv, out, o1, o2⟩ | ⟨hv, o2⟩
      · rw [o2, bnd_s]
        simp only
        by_cases hq : q2 = true
        · rw [if_pos hq, if_pos trivial]; exact ⟨_, rfl, .inl rfl⟩
        rw [if_neg hq, if_pos trivial]
        by_cases hlen : out.length = b.length
        · rw [if_neg (by rw [hlen]; simp), ref_cmp hlen (by omega), bnd_s]
          by_cases he : out = b
          · rw [if_pos he]
            exact ⟨_, rfl, .inr ⟨rfl, hv, by rw [← he]; exact o1⟩⟩
          · rw [if_neg he]; exact ⟨_, rfl, .inl rfl⟩
        · rw [if_pos (by simp; omega)]; exact ⟨_, rfl, .inl rfl⟩
      · rw [o2, bnd_s]
        simp only
        by_cases hq : q2 = true
        · rw [if_pos hq, if_pos trivial]; exact ⟨_, rfl, .inl rfl⟩
        · rw [if_neg hq, if_neg (by decide), if_pos trivial]; exact ⟨_, rfl, .inl rfl⟩
    · exact ⟨_, rfl, .inl rfl⟩
  · have hrf : rasterP ⟨x0, y0, st, nx, ny⟩ = false := by simpa using hr
    rw [if_pos (by rw [hrf]; rfl)]; exact ⟨_, rfl, .inl rfl⟩
theorem ref_decode_enc {g : S_api_Grid} {b : List Int} (hv : validP g = true) (he : model_encode g = some b) : lidarref09_Decode b = some (g, 0) := by
  obtain ⟨bd, c0, c1, c2, c3, ⟨bs, hce, hbd⟩, hbl, he2, b0, b1, b2, b3, hb⟩ := encode_body hv
  have hbb : b = bd ++ [c0, c1, c2, c3] := by rw [he2] at he; injection he with he; exact he.symm
  obtain ⟨hf, hcl, hcn, _⟩ := valid_parts hv
  obtain ⟨⟨s1, s2⟩, ⟨n1, n2⟩, ⟨m1, m2⟩, ⟨x1, x2⟩, ⟨y1, y2⟩⟩ := hf
  have hlen : b.length = bd.length + 4 := by rw [hbb]; simp
  unfold lidarref09_Decode
  have hw : w64 (((b.length : Nat) : Int) - 4) = ((b.length - 4 : Nat) : Int) := by rw [w64_id (by omega) (by omega)]; omega
  rw [if_neg (by omega)]
  simp only [hw, jn_d, List.nil_append]
  have hsub : subl b 0 ((b.length - 4 : Nat) : Int) = bd := by rw [hbb]; exact body_take
  rw [gd_t (by omega), hsub, gd_t (by simp only [List.length_nil]; omega), hbd]
  have L := hbl
  rw [hbd] at L
  simp only [List.length_append] at L
  rw [fsig_vl (by omega) (by omega) (by simp only [List.length_append]; omega), bnd_s]; simp only
  rw [fsig_vl (by omega) (by omega) (by simp only [List.length_append]; omega), bnd_s]; simp only
  rw [fnum_vl (by omega) (by simp only [List.length_append]; omega), bnd_s]; simp only
  rw [fnum_vl (by omega) (by simp only [List.length_append]; omega), bnd_s]; simp only
  rw [fnum_vl (by omega) (by simp only [List.length_append]; omega), bnd_s]; simp only
  rw [show ((g.Raster.Step.toNat : Nat) : Int) = g.Raster.Step by omega, show ((g.Raster.NX.toNat : Nat) : Int) = g.Raster.NX by omega, show ((g.Raster.NY.toNat : Nat) : Int) = g.Raster.NY by omega]
  have hras : rasterP g.Raster = true := (validP_cells hv).2.2.2
  rw [if_neg (by simp), refValidRaster_eq, bnd_s, if_neg (by rw [show (⟨g.Raster.X0, g.Raster.Y0, g.Raster.Step, g.Raster.NX, g.Raster.NY⟩ : S_api_Raster) = g.Raster from rfl, hras]; simp)]
  obtain ⟨all, a1, a2, a3⟩ := raster_nat hras
  have hall : all = g.Cells.length := by omega
  have hdec := ref_dec hce [] [] (⟨vl g.Raster.NY.toNat ++ bs, false⟩, g.Raster.NX) (⟨bs, false⟩, g.Raster.NY) (by simp only [List.length_nil, Nat.zero_add]; rw [a3, hall]) (by decide) (by simp; omega) (by simp only [List.length_append, List.length_nil]; omega)
  simp only [List.nil_append, List.append_nil] at hdec
  rw [hdec, bnd_s]
  simp only
  rcases refEncode_cases g (by omega) with ⟨_, out, o1, o2⟩ | ⟨hnv, _⟩
  · have hob : out = b := by rw [o1] at he; injection he
    subst hob
    rw [o2, bnd_s]
    simp only
    rw [if_neg (by simp), if_pos trivial, if_neg (by simp), ref_cmp rfl (by omega), bnd_s, if_pos rfl]
  · exact absurd hv hnv
theorem modelDecodes_eq (b : List Int) (hB : ∀ x ∈ b, isB x) : lidarlaw09_ModelDecodes b = some true := by
  unfold lidarlaw09_ModelDecodes
  have hf : lidarlaw09_first = some true := rfl
  simp only [jn_d, bnd_s, hf]
  by_cases hl : (3000 : Int) < ((b.length : Nat) : Int)
  · rw [if_pos hl]
  rw [if_neg hl]
  obtain ⟨r, r1, r2⟩ := model_decode (b := b) (by omega) hB
  obtain ⟨s, s1, s2⟩ := ref_decode (b := b) (by omega)
  have hrs : r = s ∧ r.1.Cells.length ≤ 5000 := by
    rcases r2 with rfl | ⟨q1, q2, q3⟩
    · rcases s2 with rfl | ⟨q1, q2, q3⟩
      · exact ⟨rfl, by simp [gNil]⟩
      · have := decode_enc q2 q3
        rw [r1] at this
        injection this with this
        rw [Prod.mk.injEq] at this
        exact absurd this.2 (by decide)
    · have := ref_decode_enc q2 q3
      rw [s1] at this
      injection this with this
      refine ⟨?_, by have := (valid_parts q2).2.1; omega⟩
      rw [this, ← q1]
  obtain ⟨rfl, hc⟩ := hrs
  rw [r1, bnd_s, s1, bnd_s, if_pos rfl, sameG_refl r.1 r.1 rfl hc, bnd_s, if_pos rfl]
/-! ### ModelReturns -/
theorem vl_cancel {n n' : Nat} {t t' : List Int} (hn : n ≤ 4611686018427387903) (hn' : n' ≤ 4611686018427387903) (hl : (vl n ++ t).length ≤ 1000000000) (h : vl n ++ t = vl n' ++ t') : n = n' ∧ t = t' := by
  have h1 := linkRead_vl hn hl
  rw [h] at hl h1
  rw [linkRead_vl hn' hl] at h1
  injection h1 with h1
  rw [Prod.mk.injEq] at h1
  obtain rfl : n = n' := by have := h1.1; omega
  exact ⟨rfl, List.append_cancel_left h⟩
theorem zz_inj {a b : Int} (h : zz a = zz b) : a = b := by unfold zz at h; split at h <;> split at h <;> omega
theorem body_prefix {g g' : S_api_Grid} {bd t : List Int} (hv : validP g = true) (hv' : validP g' = true) (h : Body g bd) (h' : Body g' (bd ++ t)) (hl : (bd ++ t).length ≤ 1000000) : t = [] := by
  obtain ⟨bs, hce, hbd⟩ := h
  obtain ⟨bs', hce', hbd'⟩ := h'
  obtain ⟨⟨⟨s1, s2⟩, ⟨n1, n2⟩, ⟨m1, m2⟩, ⟨x1, x2⟩, ⟨y1, y2⟩⟩, hcl, hcn, _⟩ := valid_parts hv
  obtain ⟨⟨⟨s1', s2'⟩, ⟨n1', n2'⟩, ⟨m1', m2'⟩, ⟨x1', x2'⟩, ⟨y1', y2'⟩⟩, hcl', hcn', _⟩ := valid_parts hv'
  have hz : ∀ x : Int, -268435456 ≤ x → x ≤ 268435456 → zz x ≤ 4611686018427387903 := fun x a b => by unfold zz; split <;> omega
  have L := hl
  rw [hbd] at hbd' L
  simp only [List.append_assoc] at hbd' L
  simp only [List.length_append] at L
  obtain ⟨q1, hbd'⟩ := vl_cancel (hz _ x1 x2) (hz _ x1' x2') (by simp only [List.length_append]; omega) hbd'
  obtain ⟨q2, hbd'⟩ := vl_cancel (hz _ y1 y2) (hz _ y1' y2') (by simp only [List.length_append]; omega) hbd'
  obtain ⟨q3, hbd'⟩ := vl_cancel (by omega) (by omega) (by simp only [List.length_append]; omega) hbd'
  obtain ⟨q4, hbd'⟩ := vl_cancel (by omega) (by omega) (by simp only [List.length_append]; omega) hbd'
  obtain ⟨q5, hbd'⟩ := vl_cancel (by omega) (by omega) (by simp only [List.length_append]; omega) hbd'
  have hnx : g.Raster.NX = g'.Raster.NX := by omega
  have hny : g.Raster.NY = g'.Raster.NY := by omega
  have hcc : g.Cells.length = g'.Cells.length := by rw [hnx, hny] at hcn; omega
  have e1 := model_dec hce t [] (by decide) (by simp; omega) (by simp only [List.length_append]; omega)
  have e2 := model_dec hce' [] [] (by decide) (by simp; omega) (by rw [List.append_nil, ← hbd']; simp only [List.length_append]; omega)
  rw [List.append_nil, ← hbd', ← hcc, e1] at e2
  injection e2 with e2
  rw [Prod.mk.injEq] at e2
  exact e2.1
theorem not_more {g : S_api_Grid} {b : List Int} (hv : validP g = true) (he : model_encode g = some b) : model_Decode (b ++ [0]) = some (gNil, 4) := by
  obtain ⟨bd, c0, c1, c2, c3, hbody, hbl, he2, b0, b1, b2, b3, hb⟩ := encode_body hv
  obtain ⟨out, o1, o2, o3⟩ := encode_B hv
  have hob : out = b := by rw [o1] at he; injection he
  have hbb : b = bd ++ [c0, c1, c2, c3] := by rw [he2] at he; injection he with he; exact he.symm
  subst hob
  obtain ⟨r, r1, r2⟩ := model_decode (b := out ++ [0]) (by rw [List.length_append, List.length_singleton]; omega) (fun x hx => by
    rcases List.mem_append.1 hx with hx | hx
    · exact o3 x hx
    · simp only [List.mem_singleton] at hx; subst hx; unfold isB; omega)
  rw [r1]
  rcases r2 with rfl | ⟨q1, q2, q3⟩
  · rfl
  · exfalso
    obtain ⟨bd', d0, d1, d2, d3, hbody', hbl', he2', _⟩ := encode_body q2
    rw [q3] at he2'
    injection he2' with he2'
    rw [hbb, show (bd ++ [c0, c1, c2, c3]) ++ [0] = (bd ++ [c0]) ++ [c1, c2, c3, 0] by simp] at he2'
    have h1 := (List.append_inj' he2' rfl).1
    rw [← h1] at hbody' hbl'
    have := body_prefix hv q2 hbody hbody' (by omega)
    simp at this
theorem not_less {g : S_api_Grid} {b : List Int} (hv : validP g = true) (he : model_encode g = some b) : model_Decode (b.take (b.length - 1)) = some (gNil, 4) := by
  obtain ⟨bd, c0, c1, c2, c3, hbody, hbl, he2, b0, b1, b2, b3, hb⟩ := encode_body hv
  obtain ⟨out, o1, o2, o3⟩ := encode_B hv
  have hob : out = b := by rw [o1] at he; injection he
  have hbb : b = bd ++ [c0, c1, c2, c3] := by rw [he2] at he; injection he with he; exact he.symm
  subst hob
  have ht : out.take (out.length - 1) = bd ++ [c0, c1, c2] := by
    have h1 : out = (bd ++ [c0, c1, c2]) ++ [c3] := by rw [hbb]; simp
    rw [h1, List.length_append, List.length_singleton, Nat.add_sub_cancel, List.take_left]
  obtain ⟨r, r1, r2⟩ := model_decode (b := out.take (out.length - 1)) (by rw [List.length_take]; omega) (fun x hx => o3 x (List.mem_of_mem_take hx))
  rw [r1]
  rcases r2 with rfl | ⟨q1, q2, q3⟩
  · rfl
  · exfalso
    obtain ⟨bd', d0, d1, d2, d3, hbody', hbl', he2', _⟩ := encode_body q2
    rw [q3] at he2'
    injection he2' with he2'
    rw [ht, show bd' ++ [d0, d1, d2, d3] = (bd' ++ [d0]) ++ [d1, d2, d3] by simp] at he2'
    have h1 := (List.append_inj' he2' rfl).1
    rw [h1] at hbody hbl
    have := body_prefix q2 hv hbody' hbody (by omega)
    simp at this
end Go.Proofs.Ytjhknbpiaikblaa
