/- Plain laws: cells are read back from their bytes; the program's reader always ends. -/
import Derived.Test.YtjhknbpiaikblaaP14
namespace Go.Proofs.Ytjhknbpiaikblaa
open Go Go.RowKit
theorem rep_snoc (k : Nat) (d : List S_api_Cell) : (d ++ List.replicate k vCell) ++ [(⟨true, (⟨0, 0⟩ : S_api_Span)⟩ : S_api_Cell)] = d ++ List.replicate (k + 1) vCell := by
  rw [List.append_assoc, List.replicate_succ']; rfl
theorem model_voids (r : S_model_reader × Int) (st : (List Int) × Bool × (List S_api_Cell) × Int) {n : Nat} (hr : r.2 = (n : Int)) (d : List S_api_Cell) (hd : d.length + n ≤ 100000) : ∀ (m k : Nat), n - k = m → k ≤ n →
    lfix (model_reader_cells_l15 r false st) (d ++ List.replicate k vCell, (k : Int)) = some (r.1.b, false, d ++ List.replicate n vCell, st.2.2.2) := by
  intro m
  induction m with
  | zero =>
    intro k hm hk
    obtain rfl : k = n := by omega
    rw [lfix_eq]
    unfold model_reader_cells_l15
    simp only [jn_d]
    rw [if_neg (by omega), if_neg (by simp)]
  | succ m ih =>
    intro k hm hk
    have e : model_reader_cells_l15 r false st (d ++ List.replicate k vCell, (k : Int)) = some (.inl (d ++ List.replicate (k + 1) vCell, ((k + 1 : Nat) : Int))) := by
      unfold model_reader_cells_l15
      simp only [jn_d]
      rw [if_pos (by omega), if_pos (by simp), gd_t (by simp only [List.length_append, List.length_replicate]; omega), w64_succ (by omega), rep_snoc]
    rw [lfix_eq, e]
    exact ih (k + 1) (by omega) (by omega)
theorem model_voids_bad (r : S_model_reader × Int) (st : (List Int) × Bool × (List S_api_Cell) × Int) (d : List S_api_Cell) : lfix (model_reader_cells_l15 r true st) (d, 0) = some (r.1.b, true, d, st.2.2.2) := by
  rw [lfix_eq]
  have e : model_reader_cells_l15 r true st (d, 0) = some (.inr (r.1.b, true, d, st.2.2.2)) := by
    unfold model_reader_cells_l15
    simp only [jn_d]
    by_cases h : 0 < r.2
    · rw [if_pos h, if_neg (by simp)]
    · rw [if_neg h, if_neg (by simp)]
  rw [e]
theorem ref_voids (r : S_lidarref09_reader × Int) {n : Nat} (hr : r.2 = (n : Int)) (d : List S_api_Cell) (hd : d.length + n ≤ 100000) : ∀ (m k : Nat), n - k = m → k ≤ n →
    lfix (lidarref09_Decode_l20 r) (d ++ List.replicate k vCell, (k : Int)) = some (d ++ List.replicate n vCell) := by
  intro m
  induction m with
  | zero =>
    intro k hm hk
    obtain rfl : k = n := by omega
    rw [lfix_eq]
    unfold lidarref09_Decode_l20
    simp only
    rw [if_neg (by omega)]
  | succ m ih =>
    intro k hm hk
    have e : lidarref09_Decode_l20 r (d ++ List.replicate k vCell, (k : Int)) = some (.inl (d ++ List.replicate (k + 1) vCell, ((k + 1 : Nat) : Int))) := by
      unfold lidarref09_Decode_l20
      simp only
      rw [if_pos (by omega), gd_t (by simp only [List.length_append, List.length_replicate]; omega), w64_succ (by omega), rep_snoc]
    rw [lfix_eq, e]
    exact ih (k + 1) (by omega) (by omega)
theorem cell_eta {c : S_api_Cell} (hv : c.Void = false) : (⟨false, ⟨c.Z.Lo, c.Z.Hi⟩⟩ : S_api_Cell) = c := by obtain ⟨v, lo, hi⟩ := c; simp only at hv; rw [hv]
theorem model_dec {cs : List S_api_Cell} {z : Int} {bs : List Int} (h : CE cs z bs) : ∀ (t : List Int) (d : List S_api_Cell), coordP z = true → d.length + cs.length ≤ 4096 → (bs ++ t).length ≤ 1000000000 →
    lfix (model_reader_cells_l3 ((d.length + cs.length : Nat) : Int)) (bs ++ t, false, d, z) = some (t, false, d ++ cs) := by
  induction h with
  | nil =>
    intro t d hz hd ht
    rw [lfix_eq]
    unfold model_reader_cells_l3
    simp only [jn_d]
    rw [if_neg (by simp), if_neg (by simp)]
    simp
  | @void n cs z bs hn ht ih =>
    intro t d hz hd hl
    simp only [List.length_append, List.length_replicate] at hd hl
    have e : model_reader_cells_l3 ((d.length + (List.replicate n vCell ++ cs).length : Nat) : Int) ((vl 0 ++ (vl n ++ bs)) ++ t, false, d, z) = some (.inl (bs ++ t, false, d ++ List.replicate n vCell, z)) := by
      unfold model_reader_cells_l3
      simp only [jn_d, List.length_append, List.length_replicate, List.append_assoc]
      rw [if_pos (by omega), if_pos (by simp), rnum_vl (n := 0) (by omega) (by simp only [List.length_append]; omega), bnd_s, if_neg (by simp)]
      simp only
      rw [rnum_vl (by omega) (by simp only [List.length_append]; omega), bnd_s]
      simp only
      rw [if_neg (by omega), if_neg (by rw [w64_id (by omega) (by omega)]; simp only [decide_eq_true_eq]; omega)]
      have := model_voids ((⟨bs ++ t, false⟩, (n : Int)) : S_model_reader × Int) (vl 0 ++ (vl n ++ (bs ++ t)), false, d, z) rfl d (by omega) n 0 rfl (by omega)
      rw [List.replicate_zero, List.append_nil] at this
      rw [show lfix (model_reader_cells_l15 ((⟨bs ++ t, false⟩, (n : Int)) : S_model_reader × Int) false (vl 0 ++ (vl n ++ (bs ++ t)), false, d, z)) (d, 0) = _ from this, bnd_s]
    rw [lfix_eq, e]
    have := ih t (d ++ List.replicate n vCell) hz (by simp only [List.length_append, List.length_replicate]; omega) (by simp only [List.length_append]; omega)
    simp only [List.length_append, List.length_replicate, List.append_assoc, Nat.add_assoc] at this ⊢
    exact this
  | @cell c cs z bs hv hle h1 h2 ht ih =>
    intro t d hz hd hl
    have b1 := coord_bd h1; have b2 := coord_bd h2; have b3 := coord_bd hz
    simp only [List.length_cons] at hd
    simp only [List.length_append] at hl
    have e : model_reader_cells_l3 ((d.length + (c :: cs).length : Nat) : Int) ((vl (1 + c.Z.Hi - c.Z.Lo).toNat ++ (vl (zz (c.Z.Lo - z)) ++ bs)) ++ t, false, d, z) = some (.inl (bs ++ t, false, d ++ [c], c.Z.Lo)) := by
      unfold model_reader_cells_l3
      simp only [jn_d, List.length_cons, List.append_assoc]
      rw [if_pos (by omega), if_pos (by simp), rnum_vl (by omega) (by simp only [List.length_append]; omega), bnd_s, if_pos (by simp only; omega)]
      simp only
      rw [rsig_vl (by omega) (by omega) (by simp only [List.length_append]; omega), bnd_s]
      simp only
      rw [w64_id (x := z + (c.Z.Lo - z)) (by omega) (by omega), show z + (c.Z.Lo - z) = c.Z.Lo by omega, validCoord_eq, bnd_s, if_pos h1, gd_t (by omega), w64_id (x := c.Z.Lo + _) (by omega) (by omega), w64_id (by omega) (by omega), show c.Z.Lo + ((((1 + c.Z.Hi - c.Z.Lo).toNat : Nat)) : Int) - 1 = c.Z.Hi by omega, cell_eta hv]
    rw [lfix_eq, e]
    have := ih t (d ++ [c]) h1 (by simp only [List.length_append, List.length_singleton]; omega) (by simp only [List.length_append]; omega)
    simp only [List.length_append, List.length_singleton, List.length_cons, List.append_assoc, List.singleton_append, Nat.add_assoc, Nat.add_comm 1 cs.length, List.length_nil, Nat.zero_add] at this ⊢
    exact this
theorem ref_dec {cs : List S_api_Cell} {z : Int} {bs : List Int} (h : CE cs z bs) : ∀ (t : List Int) (d : List S_api_Cell) (q q' : S_lidarref09_reader × Int), w64 (q.2 * q'.2) = ((d.length + cs.length : Nat) : Int) → coordP z = true → d.length + cs.length ≤ 4096 → (bs ++ t).length ≤ 1000000000 →
    lfix (lidarref09_Decode_l13 q q') (bs ++ t, false, d, z) = some (.inl (t, false, d ++ cs)) := by
  induction h with
  | nil =>
    intro t d q q' hq hz hd ht
    rw [lfix_eq]
    unfold lidarref09_Decode_l13
    simp only [jn_d, hq]
    rw [if_neg (by simp), if_neg (by simp)]
    simp
  | @void n cs z bs hn ht ih =>
    intro t d q q' hq hz hd hl
    simp only [List.length_append, List.length_replicate] at hd hl hq
    have e : lidarref09_Decode_l13 q q' ((vl 0 ++ (vl n ++ bs)) ++ t, false, d, z) = some (.inl (bs ++ t, false, d ++ List.replicate n vCell, z)) := by
      unfold lidarref09_Decode_l13
      simp only [jn_d, hq, List.append_assoc]
      rw [if_pos (by omega), if_pos (by simp), fnum_vl (n := 0) (by omega) (by simp only [List.length_append]; omega), bnd_s, if_pos (by simp)]
      simp only
      rw [fnum_vl (by omega) (by simp only [List.length_append]; omega), bnd_s]
      simp only
      rw [w64_id (by omega) (by omega), if_neg (by omega)]
      have := ref_voids ((⟨bs ++ t, false⟩, (n : Int)) : S_lidarref09_reader × Int) rfl d (by omega) n 0 rfl (by omega)
      rw [List.replicate_zero, List.append_nil] at this
      rw [show lfix (lidarref09_Decode_l20 ((⟨bs ++ t, false⟩, (n : Int)) : S_lidarref09_reader × Int)) (d, 0) = _ from this, bnd_s, if_neg (by simp)]
      rw [show decide ((n : Int) = 0) = false by simp; omega]
    rw [lfix_eq, e]
    have := ih t (d ++ List.replicate n vCell) q q' (by rw [hq]; simp only [List.length_append, List.length_replicate, Nat.add_assoc]) hz (by simp only [List.length_append, List.length_replicate]; omega) (by simp only [List.length_append]; omega)
    simp only [List.append_assoc] at this ⊢
    exact this
  | @cell c cs z bs hv hle h1 h2 ht ih =>
    intro t d q q' hq hz hd hl
    have b1 := coord_bd h1; have b2 := coord_bd h2; have b3 := coord_bd hz
    simp only [List.length_cons] at hd hq
    simp only [List.length_append] at hl
    have e : lidarref09_Decode_l13 q q' ((vl (1 + c.Z.Hi - c.Z.Lo).toNat ++ (vl (zz (c.Z.Lo - z)) ++ bs)) ++ t, false, d, z) = some (.inl (bs ++ t, false, d ++ [c], c.Z.Lo)) := by
      unfold lidarref09_Decode_l13
      simp only [jn_d, hq, List.append_assoc]
      rw [if_pos (by omega), if_pos (by simp), fnum_vl (by omega) (by simp only [List.length_append]; omega), bnd_s, if_neg (by simp only; omega)]
      simp only
      rw [fsig_vl (by omega) (by omega) (by simp only [List.length_append]; omega), bnd_s]
      simp only
      rw [if_neg (by omega), if_neg (by omega), if_neg (by simp only [decide_eq_true_eq]; omega), gd_t (by omega)]
      rw [w64_id (x := z + (c.Z.Lo - z)) (by omega) (by omega), show z + (c.Z.Lo - z) = c.Z.Lo by omega, w64_id (x := c.Z.Lo + _) (by omega) (by omega), w64_id (by omega) (by omega), show c.Z.Lo + ((((1 + c.Z.Hi - c.Z.Lo).toNat : Nat)) : Int) - 1 = c.Z.Hi by omega, cell_eta hv]
    rw [lfix_eq, e]
    have := ih t (d ++ [c]) q q' (by rw [hq]; simp only [List.length_append, List.length_singleton]; omega) h1 (by simp only [List.length_append, List.length_singleton]; omega) (by simp only [List.length_append]; omega)
    simp only [List.append_assoc, List.singleton_append] at this ⊢
    exact this
/-! ### the readers end on any bytes -/
theorem model_ends {all : Nat} (ha : all ≤ 4096) (b : List Int) (bad : Bool) (hb : b.length ≤ 1000000000) : ∃ t, lfix (model_reader_cells_l3 (all : Int)) (b, bad, [], 0) = some t ∧ t.2.2.length ≤ 4096 := by
  refine lfix_ind (B := model_reader_cells_l3 (all : Int)) (μ := fun s => all - s.2.2.1.length + (if s.2.1 = true then 0 else 1)) (C := fun s => s.1.length ≤ 1000000000 ∧ s.2.2.1.length ≤ all)
    (R := fun (t : (List Int) × Bool × (List S_api_Cell)) => t.2.2.length ≤ 4096) ?_ _ ⟨hb, by simp⟩
  rintro ⟨b, bad, d, z⟩ ⟨hb, hd⟩
  simp only at hb hd
  by_cases hgo : d.length < all ∧ bad = false
  · obtain ⟨hlt, rfl⟩ := hgo
    left
    obtain ⟨⟨⟨b1, bad1⟩, v1⟩, a1, ⟨a2, _, a4⟩, a5, a6⟩ := rnum_any b false hb
    simp only at a2 a4 a5 a6
    unfold model_reader_cells_l3
    simp only [jn_d]
    rw [if_pos (by omega), if_pos (by simp), a1, bnd_s]
    simp only
    by_cases hv : 0 < v1
    · rw [if_pos hv]
      obtain ⟨⟨⟨b2, bad2⟩, v2⟩, c1, ⟨c2, _, c4⟩⟩ := rsig_any b1 bad1 (by omega)
      simp only at c2 c4
      rw [c1, bnd_s]
      simp only
      rw [validCoord_eq, bnd_s]
      by_cases hc : coordP (w64 (z + v2)) = true
      · rw [if_pos hc, gd_t (by omega)]
        refine ⟨_, rfl, ⟨by simp only; omega, by simp only [List.length_append, List.length_singleton]; omega⟩, ?_⟩
        simp only [List.length_append, List.length_singleton]
        rw [if_neg (show ¬ (false = true) by simp)]
        split <;> omega
      · rw [if_neg hc, gd_t (by omega)]
        refine ⟨_, rfl, ⟨by simp only; omega, by simp only [List.length_append, List.length_singleton]; omega⟩, ?_⟩
        simp only [List.length_append, List.length_singleton]
        rw [if_neg (show ¬ (false = true) by simp), if_pos trivial]
        omega
    · rw [if_neg hv]
      obtain ⟨⟨⟨b2, bad2⟩, v2⟩, c1, ⟨c2, _, c4⟩, c5, c6⟩ := rnum_any b1 bad1 (by omega)
      simp only at c2 c4 c5 c6
      rw [c1, bnd_s]
      simp only
      have hw : w64 ((all : Int) - (d.length : Int)) = (all : Int) - (d.length : Int) := w64_id (by omega) (by omega)
      by_cases hbad : v2 < 1 ∨ (all : Int) - (d.length : Int) < v2
      · have hx : (if v2 < 1 then bnd (lfix (model_reader_cells_l15 ((⟨b2, bad2⟩, v2) : S_model_reader × Int) true (b, false, d, z)) (d, 0)) (fun t159 => some (Sum.inl t159 : Sum ((List Int) × Bool × (List S_api_Cell) × Int) ((List Int) × Bool × (List S_api_Cell)))) else bnd (lfix (model_reader_cells_l15 ((⟨b2, bad2⟩, v2) : S_model_reader × Int) true (b, false, d, z)) (d, 0)) (fun t159 => some (Sum.inl t159))) = some (.inl (b2, true, d, z)) := by
          rw [model_voids_bad, bnd_s]; split <;> rfl
        refine ⟨(b2, true, d, z), ?_, ⟨by simp only; omega, by simp only; omega⟩, ?_⟩
        · by_cases h1 : v2 < 1
          · rw [if_pos h1, if_pos trivial, model_voids_bad, bnd_s]
          · rw [if_neg h1, if_pos (by rw [hw]; simp only [decide_eq_true_eq]; omega), model_voids_bad, bnd_s]
        · simp only
          rw [if_neg (show ¬ (false = true) by simp), if_pos trivial]; omega
      · have hb2 : bad2 = false := by
          cases bad2 with
          | false => rfl
          | true => have := c4 rfl; omega
        subst hb2
        obtain ⟨n, rfl⟩ : ∃ n : Nat, v2 = (n : Int) := ⟨v2.toNat, by omega⟩
        have := model_voids ((⟨b2, false⟩, (n : Int)) : S_model_reader × Int) (b, false, d, z) rfl d (by omega) n 0 rfl (by omega)
        rw [List.replicate_zero, List.append_nil] at this
        refine ⟨(b2, false, d ++ List.replicate n vCell, z), ?_, ⟨by simp only; omega, by simp only [List.length_append, List.length_replicate]; omega⟩, ?_⟩
        · rw [if_neg (by omega), if_neg (by rw [hw]; simp only [decide_eq_true_eq]; omega)]
          rw [show lfix (model_reader_cells_l15 ((⟨b2, false⟩, (n : Int)) : S_model_reader × Int) false (b, false, d, z)) (d, 0) = _ from this, bnd_s]
        · simp only [List.length_append, List.length_replicate]; omega
  · right
    unfold model_reader_cells_l3
    simp only [jn_d]
    by_cases hlt : d.length < all
    · have hbt : bad = true := by cases bad with
        | true => rfl
        | false => exact absurd ⟨hlt, rfl⟩ hgo
      subst hbt
      rw [if_pos (by omega), if_neg (by simp)]
      exact ⟨_, rfl, by simp only; omega⟩
    · rw [if_neg (by omega), if_neg (by simp)]
      exact ⟨_, rfl, by simp only; omega⟩
end Go.Proofs.Ytjhknbpiaikblaa
