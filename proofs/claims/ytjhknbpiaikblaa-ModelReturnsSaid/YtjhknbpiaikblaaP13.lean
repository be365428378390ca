/- Plain laws: what the document's reader reads of the bytes of a number; signed numbers. -/
import Derived.Test.YtjhknbpiaikblaaP12
namespace Go.Proofs.Ytjhknbpiaikblaa
open Go Go.RowKit
theorem refScan {n : Nat} {t : List Int} (hn : n ≤ 4611686018427387903) (ht : (vl n ++ t).length ≤ 1000000000) : ∀ (m i : Nat), (vl n).length - 1 - i = m → i + 1 ≤ (vl n).length →
    lfix (lidarref02_ReadNumber_l2 (vl n ++ t)) (i : Int) = some ((((vl n).length - 1 : Nat)) : Int) := by
  have hl9 := vl_len 9 n (by omega) (by omega)
  intro m
  induction m with
  | zero =>
    intro i h1 h2
    obtain ⟨hj, hg⟩ := app_get (t := t) (show i < (vl n).length by omega)
    have e : lidarref02_ReadNumber_l2 (vl n ++ t) (i : Int) = some (.inr (i : Int)) := by
      unfold lidarref02_ReadNumber_l2
      simp only [jn_d]
      rw [if_pos (by omega), if_pos (by omega), idx_nat hj, bnd_s, if_neg (by rw [hg, if_neg (by omega)]; simp; omega)]
    rw [lfix_eq, e]
    show some (i : Int) = _
    congr 2; omega
  | succ m ih =>
    intro i h1 h2
    obtain ⟨hj, hg⟩ := app_get (t := t) (show i < (vl n).length by omega)
    have e : lidarref02_ReadNumber_l2 (vl n ++ t) (i : Int) = some (.inl ((i + 1 : Nat) : Int)) := by
      unfold lidarref02_ReadNumber_l2
      simp only [jn_d]
      rw [if_pos (by omega), if_pos (by omega), idx_nat hj, bnd_s, if_pos (by rw [hg, if_pos (by omega)]; simp; omega), w64_succ (by omega)]
    rw [lfix_eq, e]
    exact ih (i + 1) (by omega) (by omega)
theorem refValue {n : Nat} {t : List Int} (hn : n ≤ 4611686018427387903) : ∀ (j : Nat), j ≤ (vl n).length → lfix (lidarref02_ReadNumber_l12 (vl n ++ t)) (((n / 128 ^ j : Nat) : Int), (j : Int) - 1) = some (n : Int) := by
  have hl9 := vl_len 9 n (by omega) (by omega)
  intro j
  induction j with
  | zero =>
    intro _
    rw [lfix_eq]
    unfold lidarref02_ReadNumber_l12
    simp only
    rw [if_neg (by omega)]
    simp
  | succ j ih =>
    intro h
    obtain ⟨hj, hg⟩ := app_get (t := t) (show j < (vl n).length by omega)
    have hle : n / 128 ^ j ≤ n := Nat.div_le_self _ _
    have hq : n / 128 ^ (j + 1) = n / 128 ^ j / 128 := by rw [Nat.pow_succ, Nat.div_div_eq_div_mul]
    have hd : wu64 (Int.tmod (vl n ++ t)[j] 128) = ((n / 128 ^ j % 128 : Nat) : Int) := by
      rw [hg, tmod_pos (by omega), wu64_eq]
      split <;> omega
    have e : lidarref02_ReadNumber_l12 (vl n ++ t) (((n / 128 ^ (j + 1) : Nat) : Int), ((j + 1 : Nat) : Int) - 1) = some (.inl (((n / 128 ^ j : Nat) : Int), (j : Int) - 1)) := by
      unfold lidarref02_ReadNumber_l12
      simp only
      rw [show ((j + 1 : Nat) : Int) - 1 = (j : Int) by omega, if_pos (by omega), idx_nat hj, bnd_s, hd, hq, w64_id (x := (j : Int) - 1) (by omega) (by omega)]
      congr 3
      rw [wu64_eq, wu64_eq]
      generalize n / 128 ^ j = y at *
      omega
    rw [lfix_eq, e]
    exact ih (by omega)
theorem refRead_vl {n : Nat} {t : List Int} (hn : n ≤ 4611686018427387903) (ht : (vl n ++ t).length ≤ 1000000000) : lidarref02_ReadNumber (vl n ++ t) = some ((n : Int), (((vl n).length : Nat) : Int), 0) := by
  have hl9 := vl_len 9 n (by omega) (by omega)
  have hp := vl_pos n
  obtain ⟨v1, v2, _⟩ := vl_get n n (Nat.le_refl _)
  obtain ⟨hj, hg⟩ := app_get (t := t) (show (vl n).length - 1 < (vl n).length by omega)
  have hlen : (vl n ++ t).length = (vl n).length + t.length := List.length_append
  unfold lidarref02_ReadNumber
  simp only [jn_d]
  rw [show lfix (lidarref02_ReadNumber_l2 (vl n ++ t)) 0 = _ from refScan hn ht _ 0 rfl (by omega), bnd_s, if_neg (by omega), if_neg (by omega)]
  have hv := refValue (t := t) hn (vl n).length (Nat.le_refl _)
  rw [Nat.div_eq_of_lt v1] at hv
  have hv' : lfix (lidarref02_ReadNumber_l12 (vl n ++ t)) (0, (((vl n).length - 1 : Nat) : Int)) = some (n : Int) := by
    rw [show ((((vl n).length - 1 : Nat)) : Int) = (((vl n).length : Nat) : Int) - 1 by omega]; exact hv
  have hend : w64 ((((vl n).length - 1 : Nat) : Int) + 1) = (((vl n).length : Nat) : Int) := by rw [w64_succ (by omega)]; omega
  have hmax : ¬ ((4611686018427387903 : Int) < (n : Int)) := by omega
  by_cases h0 : (0 : Int) < (((vl n).length - 1 : Nat) : Int)
  · have h5 := v2 (by omega)
    have h6 : 1 ≤ n / 128 ^ ((vl n).length - 1) := (Nat.one_le_div_iff (Nat.pow_pos (by omega))).2 h5
    have h7 : n / 128 ^ ((vl n).length - 1) < 128 := Nat.div_lt_of_lt_mul (by rw [show 128 ^ ((vl n).length - 1) * 128 = 128 ^ (vl n).length by rw [← Nat.pow_succ]; congr 1; omega]; exact v1)
    rw [if_neg (by omega), Nat.mod_eq_of_lt h7] at hg
    rw [if_pos h0, idx_nat hj, bnd_s, if_neg (by rw [hg]; simp only [decide_eq_true_eq]; omega), hv', bnd_s, if_neg hmax, w64_nat (by omega), hend]
  · rw [if_neg h0, if_neg (by simp), hv', bnd_s, if_neg hmax, w64_nat (by omega), hend]
theorem refRead_any (p : List Int) (hp : p.length ≤ 1000000000) : ∃ r, lidarref02_ReadNumber p = some r ∧ Rd9 p r := by
  unfold lidarref02_ReadNumber
  simp only [jn_d]
  obtain ⟨t, h1, i, rfl, hi, hi9⟩ := lfix_ind (B := lidarref02_ReadNumber_l2 p) (μ := fun s => 9 - s.toNat) (C := fun s => ∃ i : Nat, s = (i : Int) ∧ i ≤ p.length ∧ i ≤ 9)
    (R := fun (t : Int) => ∃ i : Nat, t = (i : Int) ∧ i ≤ p.length ∧ i ≤ 9) (by
      rintro z ⟨i, hz, hi, hi9⟩
      subst hz
      unfold lidarref02_ReadNumber_l2
      simp only [jn_d]
      by_cases hl : i < p.length
      · rw [if_pos (by omega)]
        by_cases h9 : i < 9
        · rw [if_pos (by omega), idx_nat hl, bnd_s]
          by_cases hb : decide (128 ≤ p[i]) = true
          · rw [if_pos hb, w64_succ (by omega)]
            exact .inl ⟨_, rfl, ⟨i + 1, rfl, by omega, by omega⟩, by omega⟩
          · rw [if_neg hb]
            exact .inr ⟨_, rfl, i, rfl, hi, hi9⟩
        · rw [if_neg (by omega), if_neg (by simp)]
          exact .inr ⟨_, rfl, i, rfl, hi, hi9⟩
      · rw [if_neg (by omega), if_neg (by simp)]
        exact .inr ⟨_, rfl, i, rfl, hi, hi9⟩) 0 ⟨0, rfl, by omega, by omega⟩
  rw [h1, bnd_s]
  by_cases h9 : (i : Int) = 9
  · rw [if_pos h9]; exact ⟨_, rfl, .inr ⟨by decide, rfl, rfl⟩⟩
  rw [if_neg h9]
  by_cases hl : (i : Int) = (p.length : Int)
  · rw [if_pos hl]; exact ⟨_, rfl, .inr ⟨by decide, rfl, rfl⟩⟩
  rw [if_neg hl]
  have hlt : i < p.length := by omega
  obtain ⟨v, h2, h3⟩ := lfix_ind (B := lidarref02_ReadNumber_l12 p) (μ := fun s => (s.2 + 1).toNat) (C := fun s => 0 ≤ s.1 ∧ ∃ k : Nat, s.2 + 1 = (k : Int) ∧ k ≤ p.length)
    (R := fun (t : Int) => 0 ≤ t) (by
      rintro ⟨a, z⟩ ⟨ha, k, hz, hk⟩
      simp only at hz ha
      unfold lidarref02_ReadNumber_l12
      simp only
      by_cases h0 : 0 ≤ z
      · obtain ⟨q, rfl⟩ : ∃ q : Nat, z = (q : Int) := ⟨z.toNat, by omega⟩
        rw [if_pos h0, idx_nat (show q < p.length by omega), bnd_s, w64_id (x := (q : Int) - 1) (by omega) (by omega)]
        exact .inl ⟨_, rfl, ⟨by simp only; rw [wu64_eq]; omega, q, by simp only; omega, by omega⟩, by simp only; omega⟩
      · rw [if_neg h0]
        exact .inr ⟨_, rfl, ha⟩) (0, (i : Int)) ⟨by simp, i + 1, by simp, by omega⟩
  have fin : ∃ r : Int × Int × Int, (if 4611686018427387903 < v then some ((0 : Int), (0 : Int), (4 : Int)) else some (w64 v, w64 ((i : Int) + 1), 0)) = some r ∧ Rd9 p r := by
    by_cases hv : 4611686018427387903 < v
    · rw [if_pos hv]; exact ⟨_, rfl, .inr ⟨by decide, rfl, rfl⟩⟩
    · rw [if_neg hv, w64_id (x := v) (by omega) (by omega), w64_succ (by omega)]
      exact ⟨_, rfl, .inl ⟨rfl, h3, by show v ≤ _; omega, by show (1 : Int) ≤ ((i + 1 : Nat) : Int); omega, by show ((i + 1 : Nat) : Int) ≤ _; omega⟩⟩
  by_cases h0 : (0 : Int) < (i : Int)
  · rw [if_pos h0, idx_nat hlt, bnd_s]
    by_cases hz : decide (p[i] = 0) = true
    · rw [if_pos hz]; exact ⟨_, rfl, .inr ⟨by decide, rfl, rfl⟩⟩
    · rw [if_neg hz, h2, bnd_s]; exact fin
  · rw [if_neg h0, if_neg (by simp), h2, bnd_s]; exact fin
/-! ### signed numbers -/
def zz (n : Int) : Nat := if n < 0 then (-2 * n - 1).toNat else (2 * n).toNat
def Rs9 (p : List Int) (r : Int × Int × Int) : Prop := (r.2.2 = 0 ∧ -2305843009213693952 ≤ r.1 ∧ r.1 ≤ 2305843009213693952 ∧ 1 ≤ r.2.1 ∧ r.2.1 ≤ (p.length : Int)) ∨ (r.2.2 ≠ 0 ∧ r.1 = 0 ∧ r.2.1 = 0)
theorem linkReadS_vl {n : Int} {t : List Int} (h0 : -2305843009213693952 ≤ n) (h1 : n ≤ 2305843009213693951) (ht : (vl (zz n) ++ t).length ≤ 1000000000) : link_ReadSigned (vl (zz n) ++ t) = some (n, (((vl (zz n)).length : Nat) : Int), 0) := by
  have hz : zz n ≤ 4611686018427387903 := by unfold zz; split <;> omega
  unfold link_ReadSigned
  rw [linkRead_vl hz ht, bnd_s, if_pos rfl]
  have e1 : Int.tmod ((zz n : Nat) : Int) 2 = ((zz n % 2 : Nat) : Int) := by rw [tmod_pos (by omega)]; omega
  have e2 : Int.tdiv ((zz n : Nat) : Int) 2 = ((zz n / 2 : Nat) : Int) := by rw [tdiv_pos (by omega)]; omega
  simp only [e1, e2]
  by_cases hn : n < 0
  · have hzz : zz n = (-2 * n - 1).toNat := by unfold zz; rw [if_pos hn]
    rw [if_pos (by omega), w64_id (x := ((zz n / 2 : Nat) : Int)) (by omega) (by omega), w64_id (x := -((zz n / 2 : Nat) : Int)) (by omega) (by omega), w64_id (by omega) (by omega)]
    congr 2; omega
  · have hzz : zz n = (2 * n).toNat := by unfold zz; rw [if_neg hn]
    rw [if_neg (by omega), w64_id (by omega) (by omega)]
    congr 2; omega
theorem refReadS_vl {n : Int} {t : List Int} (h0 : -2305843009213693952 ≤ n) (h1 : n ≤ 2305843009213693951) (ht : (vl (zz n) ++ t).length ≤ 1000000000) : lidarref02_ReadSigned (vl (zz n) ++ t) = some (n, (((vl (zz n)).length : Nat) : Int), 0) := by
  have hz : zz n ≤ 4611686018427387903 := by unfold zz; split <;> omega
  unfold lidarref02_ReadSigned
  rw [refRead_vl hz ht, bnd_s, if_pos rfl]
  have e1 : Int.tmod ((zz n : Nat) : Int) 2 = ((zz n % 2 : Nat) : Int) := by rw [tmod_pos (by omega)]; omega
  have e2 : Int.tdiv ((zz n : Nat) : Int) 2 = ((zz n / 2 : Nat) : Int) := by rw [tdiv_pos (by omega)]; omega
  have e4 : w64 (((zz n : Nat) : Int) + 1) = ((zz n + 1 : Nat) : Int) := w64_succ (by omega)
  have e3 : Int.tdiv ((zz n + 1 : Nat) : Int) 2 = (((zz n + 1) / 2 : Nat) : Int) := by rw [tdiv_pos (by omega)]; omega
  simp only [e1, e2, e4, e3]
  by_cases hn : n < 0
  · have hzz : zz n = (-2 * n - 1).toNat := by unfold zz; rw [if_pos hn]
    rw [if_neg (by omega), w64_id (x := (((zz n + 1) / 2 : Nat) : Int)) (by omega) (by omega), w64_id (by omega) (by omega)]
    congr 2; omega
  · have hzz : zz n = (2 * n).toNat := by unfold zz; rw [if_neg hn]
    rw [if_pos (by omega), w64_id (by omega) (by omega)]
    congr 2; omega
theorem linkReadS_any (p : List Int) (hp : p.length ≤ 1000000000) : ∃ r, link_ReadSigned p = some r ∧ Rs9 p r := by
  obtain ⟨⟨n, k, e⟩, h1, h2⟩ := linkRead_any p hp
  unfold link_ReadSigned
  rw [h1, bnd_s]
  rcases h2 with ⟨h2, h3, h4, h5, h6⟩ | ⟨h2, h3, h4⟩
  · simp only at h2 h3 h4 h5 h6
    simp only
    rw [if_pos h2, tdiv_pos h3, tmod_pos h3]
    split
    · refine ⟨_, rfl, .inl ⟨rfl, ?_, ?_, h5, h6⟩⟩ <;> simp only <;> rw [w64_id (x := n / 2) (by omega) (by omega), w64_id (x := -(n / 2)) (by omega) (by omega), w64_id (by omega) (by omega)] <;> omega
    · refine ⟨_, rfl, .inl ⟨rfl, ?_, ?_, h5, h6⟩⟩ <;> simp only <;> rw [w64_id (by omega) (by omega)] <;> omega
  · simp only at h2 h3 h4
    simp only
    rw [if_neg h2]
    exact ⟨_, rfl, .inr ⟨h2, rfl, rfl⟩⟩
theorem refReadS_any (p : List Int) (hp : p.length ≤ 1000000000) : ∃ r, lidarref02_ReadSigned p = some r ∧ Rs9 p r := by
  obtain ⟨⟨n, k, e⟩, h1, h2⟩ := refRead_any p hp
  unfold lidarref02_ReadSigned
  rw [h1, bnd_s]
  rcases h2 with ⟨h2, h3, h4, h5, h6⟩ | ⟨h2, h3, h4⟩
  · simp only at h2 h3 h4 h5 h6
    simp only
    rw [if_pos h2, tdiv_pos h3, tmod_pos h3]
    split
    · refine ⟨_, rfl, .inl ⟨rfl, ?_, ?_, h5, h6⟩⟩ <;> simp only <;> rw [w64_id (by omega) (by omega)] <;> omega
    · refine ⟨_, rfl, .inl ⟨rfl, ?_, ?_, h5, h6⟩⟩ <;> simp only <;> rw [w64_id (x := n + 1) (by omega) (by omega), tdiv_pos (by omega), w64_id (x := (n + 1) / 2) (by omega) (by omega), w64_id (by omega) (by omega)] <;> omega
  · simp only at h2 h3 h4
    simp only
    rw [if_neg h2]
    exact ⟨_, rfl, .inr ⟨h2, rfl, rfl⟩⟩
end Go.Proofs.Ytjhknbpiaikblaa
