/- Plain laws: what is read of the bytes of a number. -/
import Derived.Test.YtjhknbpiaikblaaG5
import Derived.Test.YtjhknbpiaikblaaP11
namespace Go.Proofs.Ytjhknbpiaikblaa
open Go Go.RowKit
/-- The digits of a number. -/
theorem vl_get : ∀ (m n : Nat), n ≤ m → n < 128 ^ (vl n).length ∧ (1 < (vl n).length → 128 ^ ((vl n).length - 1) ≤ n) ∧ ∀ (j : Nat) (h : j < (vl n).length), (vl n)[j] = ((n / 128 ^ j % 128 + if j + 1 < (vl n).length then 128 else 0 : Nat) : Int)
  | m, n, hm => by
    by_cases hn : n < 128
    · have e : vl n = [(n : Int)] := by rw [vl, if_pos hn]
      rw [e]
      refine ⟨by simpa using hn, by simp, fun j h => ?_⟩
      simp only [List.length_singleton] at h
      obtain rfl : j = 0 := by omega
      simp
      omega
    · have e : vl n = ((n % 128 + 128 : Nat) : Int) :: vl (n / 128) := by rw [vl, if_neg hn]
      cases m with
      | zero => omega
      | succ m =>
        obtain ⟨h1, h2, h3⟩ := vl_get m (n / 128) (by omega)
        have hp := vl_pos (n / 128)
        rw [e]
        refine ⟨?_, ?_, ?_⟩
        · simp only [List.length_cons, Nat.pow_succ]; omega
        · intro _
          simp only [List.length_cons, Nat.add_sub_cancel]
          by_cases h4 : 1 < (vl (n / 128)).length
          · have h5 := h2 h4
            obtain ⟨q, hq⟩ : ∃ q, (vl (n / 128)).length = q + 1 := ⟨(vl (n / 128)).length - 1, by omega⟩
            rw [hq] at h5 ⊢
            rw [Nat.add_sub_cancel] at h5
            rw [Nat.pow_succ]; omega
          · rw [show (vl (n / 128)).length = 1 by omega]; omega
        · intro j h
          simp only [List.length_cons] at h ⊢
          cases j with
          | zero =>
            simp only [List.getElem_cons_zero, Nat.pow_zero, Nat.div_one]
            rw [if_pos (by omega)]
          | succ j =>
            simp only [List.getElem_cons_succ]
            rw [h3 j (by omega), Nat.pow_succ, Nat.mul_comm (128 ^ j) 128, ← Nat.div_div_eq_div_mul]
            congr 2
            simp only [Nat.add_lt_add_iff_right]
theorem app_get {n : Nat} {t : List Int} {j : Nat} (h : j < (vl n).length) : ∃ h' : j < (vl n ++ t).length, (vl n ++ t)[j] = ((n / 128 ^ j % 128 + if j + 1 < (vl n).length then 128 else 0 : Nat) : Int) :=
  ⟨by rw [List.length_append]; omega, by rw [List.getElem_append_left h]; exact (vl_get n n (Nat.le_refl _)).2.2 j h⟩
theorem wu64_eq (x : Int) : wu64 x = x % 18446744073709551616 := by unfold wu64; rw [IntKind.wrap_u64]
theorem bv64 (n : Nat) (h : n < 18446744073709551616) : (BitVec.ofInt 64 (n : Int)).toNat = n := by
  rw [BitVec.ofInt_natCast, BitVec.toNat_ofNat]; exact Nat.mod_eq_of_lt h
theorem or64 {a b : Nat} (ha : a < 18446744073709551616) (hb : b < 18446744073709551616) : bit_or .u64 (a : Int) (b : Int) = ((a ||| b : Nat) : Int) := by
  unfold bit_or
  show IntKind.wrap .u64 ((BitVec.ofInt 64 (a : Int) ||| BitVec.ofInt 64 (b : Int)).toNat : Int) = _
  rw [BitVec.toNat_or, bv64 a ha, bv64 b hb, IntKind.wrap_u64]
  have := Nat.or_lt_two_pow (n := 64) ha hb
  omega
theorem bit_or_pos (a b : Int) : 0 ≤ bit_or .u64 a b := by
  unfold bit_or; rw [IntKind.wrap_u64]; omega
theorem shl7 {x i : Nat} (hx : x < 128) (hi : i ≤ 8) : shl_ .u64 (x : Int) ((7 * i : Nat) : Int) = ((x * 128 ^ i : Nat) : Int) := by
  unfold shl_
  have h1 : min (Int.toNat ((7 * i : Nat) : Int)) IntKind.u64.bits = 7 * i := by
    show min (Int.toNat ((7 * i : Nat) : Int)) 64 = 7 * i
    omega
  have h2 : (128 : Nat) ^ i = 2 ^ (7 * i) := by rw [Nat.pow_mul]
  have h3 : x * 2 ^ (7 * i) < 18446744073709551616 := by
    have : 2 ^ (7 * i) ≤ 2 ^ 56 := Nat.pow_le_pow_right (by omega) (by omega)
    have := Nat.mul_le_mul (show x ≤ 127 by omega) this
    omega
  rw [h1, IntKind.wrap_u64, h2]
  have : ((x : Int) * 2 ^ (7 * i)) = ((x * 2 ^ (7 * i) : Nat) : Int) := by simp
  rw [this]; omega
theorem or_add {a x i : Nat} (ha : a < 128 ^ i) (hx : x < 128) (hi : i ≤ 8) : bit_or .u64 (a : Int) (shl_ .u64 (x : Int) ((7 * i : Nat) : Int)) = ((a + x * 128 ^ i : Nat) : Int) := by
  have h2 : (128 : Nat) ^ i = 2 ^ (7 * i) := by rw [Nat.pow_mul]
  have h4 : 2 ^ (7 * i) ≤ 2 ^ 56 := Nat.pow_le_pow_right (by omega) (by omega)
  have h5 := Nat.mul_le_mul (show x ≤ 127 by omega) h4
  rw [shl7 hx hi, or64 (by rw [h2] at ha; omega) (by rw [h2]; omega)]
  congr 1
  rw [h2] at ha ⊢
  rw [Nat.add_comm, ← Nat.shiftLeft_eq, Nat.shiftLeft_add_eq_or_of_lt ha, Nat.or_comm]
/-! ### the program's reading -/
theorem linkRead_loop {n : Nat} {t : List Int} (hn : n ≤ 4611686018427387903) (ht : (vl n ++ t).length ≤ 1000000000) : ∀ (m i : Nat), (vl n).length - i = m → i < (vl n).length →
    lfix (link_ReadNumber_l3 (vl n ++ t)) (((n % 128 ^ i : Nat) : Int), (i : Int)) = some (.inr ((n : Int), (((vl n).length : Nat) : Int), 0)) := by
  have hl9 := vl_len 9 n (by omega) (by omega)
  obtain ⟨v1, v2, _⟩ := vl_get n n (Nat.le_refl _)
  intro m
  induction m with
  | zero => intro i h1 h2; omega
  | succ m ih =>
    intro i h1 h2
    obtain ⟨hj, hg⟩ := app_get (t := t) h2
    have hx : n / 128 ^ i % 128 < 128 := Nat.mod_lt _ (by omega)
    have hs : wu64 (w64 (7 * (i : Int))) = ((7 * i : Nat) : Int) := by rw [w64_id (by omega) (by omega), wu64_eq]; omega
    have ha : n % 128 ^ i < 128 ^ i := Nat.mod_lt _ (Nat.pow_pos (by omega))
    have hd : wu64 (Int.tmod (vl n ++ t)[i] 128) = ((n / 128 ^ i % 128 : Nat) : Int) := by
      rw [hg, tmod_pos (by omega), wu64_eq]
      split <;> omega
    have hsum : n % 128 ^ i + n / 128 ^ i % 128 * 128 ^ i = n % 128 ^ (i + 1) := by rw [Nat.pow_succ, Nat.mod_mul, Nat.mul_comm]
    have hor : bit_or .u64 ((n % 128 ^ i : Nat) : Int) (shl_ .u64 ((n / 128 ^ i % 128 : Nat) : Int) ((7 * i : Nat) : Int)) = ((n % 128 ^ (i + 1) : Nat) : Int) := by rw [or_add ha hx (by omega), hsum]
    by_cases hlast : i + 1 < (vl n).length
    · have e : link_ReadNumber_l3 (vl n ++ t) (((n % 128 ^ i : Nat) : Int), (i : Int)) = some (.inl (((n % 128 ^ (i + 1) : Nat) : Int), ((i + 1 : Nat) : Int))) := by
        unfold link_ReadNumber_l3
        simp only
        rw [if_pos (by omega), if_neg (by omega), idx_nat hj, bnd_s, hs, gd_t (by omega), bnd_s, if_pos (by rw [hg, if_pos hlast]; omega), hd, hor, w64_succ (by omega)]
      rw [lfix_eq, e]
      exact ih (i + 1) (by omega) hlast
    · have hfull : n % 128 ^ (i + 1) = n := Nat.mod_eq_of_lt (by rw [show i + 1 = (vl n).length by omega]; exact v1)
      rw [hfull] at hor
      have e : link_ReadNumber_l3 (vl n ++ t) (((n % 128 ^ i : Nat) : Int), (i : Int)) = some (.inr (.inr ((n : Int), (((vl n).length : Nat) : Int), 0))) := by
        unfold link_ReadNumber_l3
        simp only [jn_d]
        rw [if_pos (by omega), if_neg (by omega), idx_nat hj, bnd_s, hs, gd_t (by omega), bnd_s, if_neg (by rw [hg, if_neg hlast]; omega), bnd_s, hd, hor, w64_succ (by omega), show i + 1 = (vl n).length by omega, w64_nat (by omega)]
        have hmax : ¬ ((4611686018427387903 : Int) < (n : Int)) := by omega
        by_cases hz : (vl n ++ t)[i] = 0
        · rw [if_pos hz]
          have hi0 : i = 0 := by
            by_cases h0 : i = 0
            · exact h0
            · have h5 := v2 (by omega)
              rw [show (vl n).length - 1 = i by omega] at h5
              have h6 : 1 ≤ n / 128 ^ i := (Nat.one_le_div_iff (Nat.pow_pos (by omega))).2 h5
              have h7 : n / 128 ^ i < 128 := Nat.div_lt_of_lt_mul (by have e := v1; rw [show (vl n).length = i + 1 by omega, Nat.pow_succ] at e; exact e)
              rw [hg, if_neg hlast, Nat.mod_eq_of_lt h7] at hz
              omega
          rw [if_neg (by omega), if_neg (by simpa using hmax)]
        · rw [if_neg hz, if_neg (by simpa using hmax)]
      rw [lfix_eq, e]
theorem linkRead_vl {n : Nat} {t : List Int} (hn : n ≤ 4611686018427387903) (ht : (vl n ++ t).length ≤ 1000000000) : link_ReadNumber (vl n ++ t) = some ((n : Int), (((vl n).length : Nat) : Int), 0) := by
  unfold link_ReadNumber
  simp only [jn_d]
  have := linkRead_loop hn ht (vl n).length 0 rfl (vl_pos n)
  rw [show n % 128 ^ 0 = 0 by rw [Nat.pow_zero, Nat.mod_one]] at this
  rw [show lfix (link_ReadNumber_l3 (vl n ++ t)) (0, 0) = _ from this, bnd_s]
/-- What any reading gives. -/
def Rd9 (p : List Int) (r : Int × Int × Int) : Prop := (r.2.2 = 0 ∧ 0 ≤ r.1 ∧ r.1 ≤ 4611686018427387903 ∧ 1 ≤ r.2.1 ∧ r.2.1 ≤ (p.length : Int)) ∨ (r.2.2 ≠ 0 ∧ r.1 = 0 ∧ r.2.1 = 0)
theorem linkRead_any (p : List Int) (hp : p.length ≤ 1000000000) : ∃ r, link_ReadNumber p = some r ∧ Rd9 p r := by
  unfold link_ReadNumber
  simp only [jn_d]
  obtain ⟨t, h1, h2⟩ := lfix_ind (B := link_ReadNumber_l3 p) (μ := fun s => 9 - s.2.toNat) (C := fun s => ∃ i : Nat, s.2 = (i : Int) ∧ i ≤ p.length ∧ i ≤ 9)
    (R := fun (t : Sum Unit (Int × Int × Int)) => ∀ r, t = .inr r → Rd9 p r) (by
      rintro ⟨a, z⟩ ⟨i, hz, hi, hi9⟩
      simp only at hz
      subst hz
      unfold link_ReadNumber_l3
      simp only [jn_d]
      by_cases h9 : i < 9
      · rw [if_pos (by omega)]
        by_cases hl : i = p.length
        · rw [if_pos (by omega)]
          exact .inr ⟨_, rfl, fun r hr => by cases hr; exact .inr ⟨by decide, rfl, rfl⟩⟩
        · rw [if_neg (by omega), idx_nat (show i < p.length by omega), bnd_s, gd_t (by rw [wu64_eq]; omega), bnd_s, w64_succ (by omega), bnd_s]
          generalize hX : bit_or .u64 a (shl_ .u64 (wu64 (Int.tmod p[i] 128)) (wu64 (w64 (7 * (i : Int))))) = X
          have hX0 : 0 ≤ X := by rw [← hX]; exact bit_or_pos _ _
          by_cases hb : 128 ≤ p[i]
          · rw [if_pos hb]
            exact .inl ⟨_, rfl, ⟨i + 1, rfl, by omega, by omega⟩, by simp only; omega⟩
          · rw [if_neg hb]
            right
            by_cases hbad : (p[i] = 0 ∧ 0 < (i : Int)) ∨ 4611686018427387903 < X
            · refine ⟨.inr (0, 0, 4), ?_, fun r hr => by cases hr; exact .inr ⟨by decide, rfl, rfl⟩⟩
              by_cases hz : p[i] = 0
              · rw [if_pos hz]
                by_cases h0 : 0 < (i : Int)
                · rw [if_pos h0, if_pos trivial]
                · rw [if_neg h0, if_pos (by simp; omega)]
              · rw [if_neg hz, if_pos (by simp; omega)]
            · refine ⟨.inr (X, ((i + 1 : Nat) : Int), 0), ?_, fun r hr => by cases hr; exact .inl ⟨rfl, hX0, by show X ≤ _; omega, by show (1 : Int) ≤ ((i + 1 : Nat) : Int); omega, by show ((i + 1 : Nat) : Int) ≤ _; omega⟩⟩
              have hXw : w64 X = X := w64_id (by omega) (by omega)
              rw [hXw]
              by_cases hz : p[i] = 0
              · rw [if_pos hz, if_neg (by omega), if_neg (by simp; omega)]
              · rw [if_neg hz, if_neg (by simp; omega)]
      · rw [if_neg (by omega)]
        exact .inr ⟨_, rfl, fun r hr => by cases hr⟩) (0, 0) ⟨0, rfl, by omega, by omega⟩
  rw [h1, bnd_s]
  cases t with
  | inl u => exact ⟨_, rfl, .inr ⟨by decide, rfl, rfl⟩⟩
  | inr r => exact ⟨_, rfl, h2 r rfl⟩
end Go.Proofs.Ytjhknbpiaikblaa
