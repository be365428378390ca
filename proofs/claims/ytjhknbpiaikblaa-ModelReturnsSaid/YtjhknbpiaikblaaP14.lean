/- Plain laws: the readers of numbers; the bytes of cells as a relation. -/
import Derived.Test.YtjhknbpiaikblaaP13
namespace Go.Proofs.Ytjhknbpiaikblaa
open Go Go.RowKit
theorem subl_drop {p : List Int} {k : Nat} : subl p (k : Int) (((p.length : Nat)) : Int) = p.drop k := by unfold subl; simp
theorem drop_vl (n : Nat) (t : List Int) : (vl n ++ t).drop (vl n).length = t := List.drop_left
theorem step_vl {p : List Int} {k : Nat} {v : Int} (hk : k ≤ p.length) : model_reader_step ⟨p, false⟩ v (k : Int) 0 = some (⟨p.drop k, false⟩, v) := by
  unfold model_reader_step
  simp only [jn_d]
  rw [if_pos trivial, if_neg (by simp), gd_t (by omega), subl_drop]
theorem rnum_vl {n : Nat} {t : List Int} (hn : n ≤ 4611686018427387903) (ht : (vl n ++ t).length ≤ 1000000000) : model_reader_number ⟨vl n ++ t, false⟩ = some (⟨t, false⟩, (n : Int)) := by
  unfold model_reader_number
  simp only
  rw [linkRead_vl hn ht, bnd_s]
  simp only
  rw [step_vl (by rw [List.length_append]; omega), drop_vl, bnd_s]
theorem rsig_vl {n : Int} {t : List Int} (h0 : -2305843009213693952 ≤ n) (h1 : n ≤ 2305843009213693951) (ht : (vl (zz n) ++ t).length ≤ 1000000000) : model_reader_signed ⟨vl (zz n) ++ t, false⟩ = some (⟨t, false⟩, n) := by
  unfold model_reader_signed
  simp only
  rw [linkReadS_vl h0 h1 ht, bnd_s]
  simp only
  rw [step_vl (by rw [List.length_append]; omega), drop_vl, bnd_s]
theorem fnum_vl {n : Nat} {t : List Int} (hn : n ≤ 4611686018427387903) (ht : (vl n ++ t).length ≤ 1000000000) : lidarref09_reader_number ⟨vl n ++ t, false⟩ false = some (⟨t, false⟩, (n : Int)) := by
  unfold lidarref09_reader_number
  simp only [jn_d]
  rw [if_neg (by simp), if_neg (by simp), refRead_vl hn ht, bnd_s]
  simp only
  rw [if_pos trivial, gd_t (by rw [List.length_append]; omega), subl_drop, drop_vl]
theorem fsig_vl {n : Int} {t : List Int} (h0 : -2305843009213693952 ≤ n) (h1 : n ≤ 2305843009213693951) (ht : (vl (zz n) ++ t).length ≤ 1000000000) : lidarref09_reader_number ⟨vl (zz n) ++ t, false⟩ true = some (⟨t, false⟩, n) := by
  unfold lidarref09_reader_number
  simp only [jn_d]
  rw [if_neg (by simp), if_pos trivial, refReadS_vl h0 h1 ht, bnd_s]
  simp only
  rw [if_pos trivial, gd_t (by rw [List.length_append]; omega), subl_drop, drop_vl]
/-- What any step of a reader gives. -/
def StepR (l : Nat) (bad : Bool) (l' : Nat) (bad' : Bool) (v : Int) : Prop := l' ≤ l ∧ (bad = true → bad' = true) ∧ (bad' = true → v = 0)
theorem step_any (p : List Int) (bad : Bool) (v k e : Int) (h : (e = 0 ∧ 1 ≤ k ∧ k ≤ (p.length : Int)) ∨ (e ≠ 0 ∧ v = 0 ∧ k = 0)) : ∃ r, model_reader_step ⟨p, bad⟩ v k e = some r ∧ StepR p.length bad r.1.b.length r.1.bad r.2 ∧ (r.2 = v ∨ r.2 = 0) := by
  unfold model_reader_step
  simp only [jn_d]
  by_cases he : e = 0
  · rw [if_pos he]
    have hk : 1 ≤ k ∧ k ≤ (p.length : Int) := by rcases h with h | h; exact h.2; exact absurd he h.1
    cases bad with
    | true => rw [if_pos rfl]; exact ⟨_, rfl, ⟨Nat.le_refl _, fun _ => rfl, fun _ => rfl⟩, .inr rfl⟩
    | false =>
      obtain ⟨q, rfl⟩ : ∃ q : Nat, k = (q : Int) := ⟨k.toNat, by omega⟩
      rw [if_neg (by simp), gd_t (by omega), subl_drop]
      exact ⟨_, rfl, ⟨by simp only [List.length_drop]; omega, fun hh => hh, fun hh => by simp at hh⟩, .inl rfl⟩
  · rw [if_neg he, if_pos trivial]
    exact ⟨_, rfl, ⟨Nat.le_refl _, fun _ => rfl, fun _ => rfl⟩, .inr rfl⟩
theorem rnum_any (p : List Int) (bad : Bool) (hp : p.length ≤ 1000000000) : ∃ r, model_reader_number ⟨p, bad⟩ = some r ∧ StepR p.length bad r.1.b.length r.1.bad r.2 ∧ 0 ≤ r.2 ∧ r.2 ≤ 4611686018427387903 := by
  unfold model_reader_number
  simp only
  obtain ⟨⟨n, k, e⟩, h1, h2⟩ := linkRead_any p hp
  unfold Rd9 at h2
  simp only at h2
  obtain ⟨r, h3, h4, h5⟩ := step_any p bad n k e (by omega)
  rw [h1, bnd_s]
  simp only
  rw [h3, bnd_s]
  exact ⟨_, rfl, h4, by simp only; omega, by simp only; omega⟩
theorem rsig_any (p : List Int) (bad : Bool) (hp : p.length ≤ 1000000000) : ∃ r, model_reader_signed ⟨p, bad⟩ = some r ∧ StepR p.length bad r.1.b.length r.1.bad r.2 := by
  unfold model_reader_signed
  simp only
  obtain ⟨⟨n, k, e⟩, h1, h2⟩ := linkReadS_any p hp
  unfold Rs9 at h2
  simp only at h2
  obtain ⟨r, h3, h4, h5⟩ := step_any p bad n k e (by omega)
  rw [h1, bnd_s]
  simp only
  rw [h3, bnd_s]
  exact ⟨_, rfl, h4⟩
theorem fread_any (p : List Int) (bad s : Bool) (hp : p.length ≤ 1000000000) : ∃ r, lidarref09_reader_number ⟨p, bad⟩ s = some r ∧ StepR p.length bad r.1.rest.length r.1.bad r.2 ∧ (s = false → 0 ≤ r.2 ∧ r.2 ≤ 4611686018427387903) := by
  unfold lidarref09_reader_number
  simp only [jn_d]
  cases bad with
  | true => rw [if_pos rfl]; exact ⟨_, rfl, ⟨Nat.le_refl _, fun _ => rfl, fun _ => rfl⟩, fun _ => by simp⟩
  | false =>
    rw [if_neg (by simp)]
    have fin : ∀ (n k e : Int), ((e = 0 ∧ 1 ≤ k ∧ k ≤ (p.length : Int)) ∨ (e ≠ 0 ∧ n = 0 ∧ k = 0)) → (s = false → 0 ≤ n ∧ n ≤ 4611686018427387903) →
        ∃ r, (if e = 0 then gd (0 ≤ k ∧ k ≤ ((p.length : Nat) : Int)) (some ((⟨subl p k ((p.length : Nat) : Int), false⟩ : S_lidarref09_reader), n)) else some ((⟨p, true⟩ : S_lidarref09_reader), 0)) = some r ∧ StepR p.length false r.1.rest.length r.1.bad r.2 ∧ (s = false → 0 ≤ r.2 ∧ r.2 ≤ 4611686018427387903) := by
      intro n k e h hs
      by_cases he : e = 0
      · have hk : 1 ≤ k ∧ k ≤ (p.length : Int) := by rcases h with h | h; exact h.2; exact absurd he h.1
        obtain ⟨q, rfl⟩ : ∃ q : Nat, k = (q : Int) := ⟨k.toNat, by omega⟩
        rw [if_pos he, gd_t (by omega), subl_drop]
        exact ⟨_, rfl, ⟨by simp only [List.length_drop]; omega, fun hh => hh, fun hh => by simp at hh⟩, hs⟩
      · rw [if_neg he]
        exact ⟨_, rfl, ⟨Nat.le_refl _, fun _ => rfl, fun _ => rfl⟩, fun _ => by simp⟩
    cases s with
    | true =>
      obtain ⟨⟨n, k, e⟩, h1, h2⟩ := refReadS_any p hp
      unfold Rs9 at h2
      simp only at h2
      rw [if_pos rfl, h1, bnd_s]
      exact fin n k e (by omega) (fun h => by simp at h)
    | false =>
      obtain ⟨⟨n, k, e⟩, h1, h2⟩ := refRead_any p hp
      unfold Rd9 at h2
      simp only at h2
      rw [if_neg (by simp), h1, bnd_s]
      exact fin n k e (by omega) (fun _ => by omega)
/-! ### the bytes of cells -/
def vCell : S_api_Cell := ⟨true, ⟨0, 0⟩⟩
inductive CE : List S_api_Cell → Int → List Int → Prop
  | nil {z : Int} : CE [] z []
  | void {n : Nat} {cs : List S_api_Cell} {z : Int} {bs : List Int} (h : 1 ≤ n) (t : CE cs z bs) : CE (List.replicate n vCell ++ cs) z (vl 0 ++ (vl n ++ bs))
  | cell {c : S_api_Cell} {cs : List S_api_Cell} {z : Int} {bs : List Int} (hv : c.Void = false) (h : c.Z.Lo ≤ c.Z.Hi) (h1 : coordP c.Z.Lo = true) (h2 : coordP c.Z.Hi = true) (t : CE cs c.Z.Lo bs) :
      CE (c :: cs) z (vl (1 + c.Z.Hi - c.Z.Lo).toNat ++ (vl (zz (c.Z.Lo - z)) ++ bs))
theorem numP_ok {p : List Int} {n : Nat} (h : n ≤ 4611686018427387903) : (numP p (n : Int)).1 = p ++ vl n := by
  unfold numP; rw [if_neg (by omega)]; simp
theorem signP_ok {p : List Int} {n : Int} (h0 : -2305843009213693952 ≤ n) (h1 : n ≤ 2305843009213693951) : (signP p n).1 = p ++ vl (zz n) := by
  unfold signP zz numP
  rw [if_neg (by omega)]
  by_cases hn : n < 0
  · rw [if_pos hn, if_pos hn, if_neg (by omega)]
  · rw [if_neg hn, if_neg hn, if_neg (by omega)]
theorem void_cell {c : S_api_Cell} (h : cellP c = true) (hv : c.Void = true) : c = vCell := by
  unfold cellP at h
  rw [if_pos hv, decide_eq_true_eq] at h
  obtain ⟨v, ⟨lo, hi⟩⟩ := c
  simp only at hv h
  unfold vCell
  rw [hv, h.1, h.2]
theorem solid_cell {c : S_api_Cell} (h : cellP c = true) (hv : c.Void = false) : c.Z.Lo ≤ c.Z.Hi ∧ coordP c.Z.Lo = true ∧ coordP c.Z.Hi = true := by
  unfold cellP at h
  rw [if_neg (by simp [hv])] at h
  simp only [Bool.and_eq_true, decide_eq_true_eq] at h
  exact ⟨h.1.1, h.1.2, h.2⟩
theorem void_run : ∀ (l : List S_api_Cell), (∀ c ∈ l, cellP c = true) → l.takeWhile (·.Void) = List.replicate (l.takeWhile (·.Void)).length vCell
  | [], _ => rfl
  | c :: l, h => by
    rw [List.takeWhile_cons]
    by_cases hv : c.Void = true
    · have := void_run l (fun x hx => h x (List.mem_cons_of_mem _ hx))
      rw [if_pos hv, List.length_cons, List.replicate_succ, ← this, void_cell (h c List.mem_cons_self) hv]
    · rw [if_neg hv]; rfl
theorem coord_bd {x : Int} (h : coordP x = true) : -268435456 ≤ x ∧ x ≤ 268435456 := by unfold coordP at h; simpa using h
theorem cells_enc (cs : List S_api_Cell) (hc : ∀ c ∈ cs, cellP c = true) (h : cs.length ≤ 5000) : ∀ (m k : Nat) (b : List Int) (z : Int), k ≤ cs.length → cs.length - k ≤ m → b.length + 18 * (cs.length - k) ≤ 1000000 → coordP z = true →
    ∃ bs, CE (cs.drop k) z bs ∧ lfix model_writer_cells_l1 (b, cs.drop k, z) = some ⟨b ++ bs⟩ ∧ bs.length ≤ 18 * (cs.length - k) := by
  have stop : ∀ (k : Nat) (b : List Int) (z : Int), k = cs.length → ∃ bs, CE (cs.drop k) z bs ∧ lfix model_writer_cells_l1 (b, cs.drop k, z) = some ⟨b ++ bs⟩ ∧ bs.length ≤ 18 * (cs.length - k) := by
    intro k b z hk
    subst hk
    refine ⟨[], by rw [List.drop_length]; exact .nil, ?_, by simp⟩
    rw [lfix_eq]
    unfold model_writer_cells_l1
    simp only
    rw [if_neg (by simp)]
    simp
  intro m
  induction m with
  | zero => intro k b z hk hm hb hz; exact stop k b z (by omega)
  | succ m ih =>
    intro k b z hk hm hb hz
    by_cases he : k = cs.length
    · exact stop k b z he
    have hlt : k < cs.length := by omega
    have hdl : (cs.drop k).length = cs.length - k := List.length_drop
    have hrun : ((cs.drop k).takeWhile (·.Void)).length ≤ (cs.drop k).length := (List.takeWhile_prefix _).length_le
    have hL := linkRun b (cs.drop k) z (by omega)
    have hrep := void_run (cs.drop k) (fun c hcm => hc c (List.mem_of_mem_drop hcm))
    have hsplit : cs.drop k = (cs.drop k).takeWhile (·.Void) ++ (cs.drop k).drop ((cs.drop k).takeWhile (·.Void)).length := by
      have := List.takeWhile_append_dropWhile (p := (·.Void)) (l := cs.drop k)
      have h2 : (cs.drop k).drop ((cs.drop k).takeWhile (·.Void)).length = (cs.drop k).dropWhile (·.Void) := by
        conv => lhs; arg 2; rw [← this]
        exact List.drop_left
      rw [h2, this]
    have hzero : ((cs.drop k).takeWhile (·.Void)).length = 0 → cs[k].Void = false := by
      intro h0
      rw [List.drop_eq_getElem_cons hlt, List.takeWhile_cons] at h0
      cases hv : cs[k].Void with
      | false => rfl
      | true => rw [if_pos hv] at h0; simp at h0
    generalize hn : ((cs.drop k).takeWhile (·.Void)).length = n at *
    by_cases h0 : 0 < n
    · have e0 : (numP b 0).1 = b ++ vl 0 := numP_ok (n := 0) (by omega)
      have e1 : (numP (b ++ vl 0) (n : Int)).1 = (b ++ vl 0) ++ vl n := numP_ok (by omega)
      have l0 := vl_len 9 0 (by omega) (by omega)
      have l1 := vl_len 9 n (by omega) (by omega)
      obtain ⟨bs, o1, o2, o3⟩ := ih (k + n) ((b ++ vl 0) ++ vl n) z (by omega) (by omega) (by simp only [List.length_append]; omega) hz
      have s1 : model_writer_cells_l1 (b, cs.drop k, z) = some (.inl ((b ++ vl 0) ++ vl n, cs.drop (k + n), z)) := by
        unfold model_writer_cells_l1
        simp only [jn_d]
        rw [if_pos (by omega), hL, bnd_s, if_pos (by omega), wnumber_eq 0 (by show b.length ≤ _; omega), bnd_s]
        simp only [e0]
        rw [wnumber_eq _ (by show (b ++ vl 0).length ≤ _; simp only [List.length_append]; omega), bnd_s, gd_t (by omega)]
        simp only [e1]
        congr 3
        unfold subl
        rw [Int.toNat_natCast, Int.toNat_natCast, List.take_length, List.drop_drop]
      refine ⟨vl 0 ++ (vl n ++ bs), ?_, ?_, by simp only [List.length_append]; omega⟩
      · rw [hsplit, hrep, List.drop_drop]; exact .void h0 o1
      · rw [lfix_eq, s1]
        simp only [List.append_assoc] at o2 ⊢
        exact o2
    · obtain ⟨c1, c2, c3⟩ := solid_cell (hc _ (List.getElem_mem hlt)) (hzero (by omega))
      have b2 := coord_bd c2; have b3 := coord_bd c3; have b1 := coord_bd hz
      have hz' : CE (cs.drop k) z = CE (cs[k] :: cs.drop (k + 1)) z := by rw [List.drop_eq_getElem_cons hlt]
      rw [hz']
      generalize hcc : cs[k] = c at *
      have w1 : w64 (w64 (1 + c.Z.Hi) - c.Z.Lo) = (((1 + c.Z.Hi - c.Z.Lo).toNat : Nat) : Int) := by rw [w64_id (x := 1 + c.Z.Hi) (by omega) (by omega), w64_id (by omega) (by omega)]; omega
      have w2 : w64 (c.Z.Lo - z) = c.Z.Lo - z := w64_id (by omega) (by omega)
      have e0 : (numP b (((1 + c.Z.Hi - c.Z.Lo).toNat : Nat) : Int)).1 = b ++ vl (1 + c.Z.Hi - c.Z.Lo).toNat := numP_ok (by omega)
      have e1 : (signP (b ++ vl (1 + c.Z.Hi - c.Z.Lo).toNat) (c.Z.Lo - z)).1 = (b ++ vl (1 + c.Z.Hi - c.Z.Lo).toNat) ++ vl (zz (c.Z.Lo - z)) := signP_ok (by omega) (by omega)
      have l0 := vl_len 9 (1 + c.Z.Hi - c.Z.Lo).toNat (by omega) (by omega)
      have l1 := vl_len 9 (zz (c.Z.Lo - z)) (by omega) (by unfold zz; split <;> omega)
      obtain ⟨bs, o1, o2, o3⟩ := ih (k + 1) ((b ++ vl (1 + c.Z.Hi - c.Z.Lo).toNat) ++ vl (zz (c.Z.Lo - z))) c.Z.Lo (by omega) (by omega) (by simp only [List.length_append]; omega) c2
      have i0 : idx (cs.drop k) 0 = some c := by
        have h3 := idx_nat (l := cs.drop k) (j := 0) (by omega)
        simp only [List.getElem_drop, Nat.add_zero, hcc] at h3
        exact h3
      have s1 : model_writer_cells_l1 (b, cs.drop k, z) = some (.inl ((b ++ vl (1 + c.Z.Hi - c.Z.Lo).toNat) ++ vl (zz (c.Z.Lo - z)), cs.drop (k + 1), c.Z.Lo)) := by
        unfold model_writer_cells_l1
        simp only [jn_d]
        rw [if_pos (by omega), hL, bnd_s, if_neg (by omega), i0, bnd_s, w1, w2, wnumber_eq _ (by show b.length ≤ _; omega), bnd_s]
        simp only [e0]
        rw [wsigned_eq _ (by show (b ++ vl _).length ≤ _; simp only [List.length_append]; omega), bnd_s, gd_t (by omega)]
        simp only [e1]
        congr 3
        unfold subl
        rw [Int.toNat_natCast, List.take_length, List.drop_drop]; rfl
      refine ⟨vl (1 + c.Z.Hi - c.Z.Lo).toNat ++ (vl (zz (c.Z.Lo - z)) ++ bs), .cell (hzero (by omega)) c1 c2 c3 o1, ?_, by simp only [List.length_append]; omega⟩
      rw [lfix_eq, s1]
      simp only [List.append_assoc] at o2 ⊢
      exact o2
end Go.Proofs.Ytjhknbpiaikblaa
