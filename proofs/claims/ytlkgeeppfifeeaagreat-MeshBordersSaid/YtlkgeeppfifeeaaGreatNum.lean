/- The plain laws of the arithmetic on lists of words. -/
import Derived.Test.YtlkgeeppfifeeaaGreatNat
namespace Go.Proofs.YtlkgeeppfifeeaaGreat
open Go Go.RowKit

theorem natOf_dig (m : Nat) (hm : m ≤ 18446744073709551615) : nrm [m % 4294967296, m / 4294967296 % 4294967296] = dig 4294967296 m := by
  rw [nrm_eq (b := 4294967296) (by omega) _ (by intro x hx; simp at hx; omega)]
  congr 1
  simp only [val]
  omega
theorem mul_lt32 {a b : Nat} (ha : a < 4294967296) (hb : b < 4294967296) : a * b ≤ 18446744065119617025 := by
  have : a * b ≤ 4294967295 * 4294967295 := Nat.mul_le_mul (by omega) (by omega)
  omega
theorem mem_set_lt {l : List Nat} {j v b : Nat} (h : ∀ x ∈ l, x < b) (hv : v < b) : ∀ x ∈ l.set j v, x < b := by
  intro x hx
  rcases List.mem_or_eq_of_mem_set hx with h' | h'
  · exact h x h'
  · rw [h']; exact hv
theorem mul_inner {l r out out0 : List Nat} {n m i j cy : Nat} (hi : i < l.length) (hj : j < r.length) (hn : l.length = n) (hm : r.length = m) (h1 : l[i] < 4294967296) (h2 : r[j] < 4294967296)
    (hD1 : out.length = n + m) (hD2 : cy < 4294967296) (hD3 : j ≤ m) (hD4 : ∀ x ∈ out, x < 4294967296) (hD5 : ∀ (q : Nat) (h : q < out.length), i + m ≤ q → out[q] = 0)
    (hD6 : val 4294967296 out + cy * 4294967296 ^ (i + j) = val 4294967296 out0 + l[i] * val 4294967296 (r.take j) * 4294967296 ^ i) (hk : i + j < out.length) :
    (out.set (i + j) ((l[i] * r[j] + out[i + j] + cy) % 4294967296)).length = n + m ∧ (l[i] * r[j] + out[i + j] + cy) / 4294967296 < 4294967296 ∧ j + 1 ≤ m ∧
      (∀ x ∈ out.set (i + j) ((l[i] * r[j] + out[i + j] + cy) % 4294967296), x < 4294967296) ∧
      (∀ (q : Nat) (h : q < (out.set (i + j) ((l[i] * r[j] + out[i + j] + cy) % 4294967296)).length), i + m ≤ q → (out.set (i + j) ((l[i] * r[j] + out[i + j] + cy) % 4294967296))[q] = 0) ∧
      val 4294967296 (out.set (i + j) ((l[i] * r[j] + out[i + j] + cy) % 4294967296)) + (l[i] * r[j] + out[i + j] + cy) / 4294967296 * 4294967296 ^ (i + (j + 1)) =
        val 4294967296 out0 + l[i] * val 4294967296 (r.take (j + 1)) * 4294967296 ^ i := by
  have h3 := hD4 out[i + j] (List.getElem_mem hk)
  have hmm := mul_lt32 h1 h2
  refine ⟨by simp [hD1], by omega, by omega, mem_set_lt hD4 (Nat.mod_lt _ (by omega)), fun q hq hiq => ?_, ?_⟩
  · rw [List.getElem_set_ne (by omega)]
    exact hD5 q (by simpa using hq) hiq
  · have hs := val_set (b := 4294967296) out (i + j) ((l[i] * r[j] + out[i + j] + cy) % 4294967296) hk
    rw [val_take_succ r j hj]
    generalize hV : val 4294967296 (out.set (i + j) ((l[i] * r[j] + out[i + j] + cy) % 4294967296)) = V at hs ⊢
    have hdm := Nat.div_add_mod (l[i] * r[j] + out[i + j] + cy) 4294967296
    generalize (l[i] * r[j] + out[i + j] + cy) / 4294967296 = q at hdm ⊢
    generalize (l[i] * r[j] + out[i + j] + cy) % 4294967296 = t at hdm hs
    have hp : (4294967296 : Nat) ^ (i + (j + 1)) = 4294967296 ^ (i + j) * 4294967296 := by rw [← Nat.add_assoc, Nat.pow_succ]
    have hp2 : (4294967296 : Nat) ^ (i + j) = 4294967296 ^ i * 4294967296 ^ j := Nat.pow_add _ _ _
    rw [hp]
    rw [hp2] at hs hD6 ⊢
    generalize (4294967296 : Nat) ^ i = P at *
    generalize (4294967296 : Nat) ^ j = R at *
    generalize val 4294967296 (r.take j) = W at *
    generalize val 4294967296 out = O at *
    generalize val 4294967296 out0 = O0 at *
    generalize l[i] = a at *
    generalize r[j] = c at *
    generalize out[i + j] = o at *
    have e := congrArg (· * (P * R)) hdm

    grind
theorem mul_outer {l r out out0 : List Nat} {n m i j cy : Nat} (hi : i < l.length) (hn : l.length = n) (hm : r.length = m) (hD1 : out.length = n + m) (hD2 : cy < 4294967296) (hD4 : ∀ x ∈ out, x < 4294967296)
    (hD5 : ∀ (q : Nat) (h : q < out.length), i + m ≤ q → out[q] = 0)
    (hD6 : val 4294967296 out + cy * 4294967296 ^ (i + j) = val 4294967296 out0 + l[i] * val 4294967296 (r.take j) * 4294967296 ^ i)
    (hC5 : val 4294967296 out0 = val 4294967296 (l.take i) * val 4294967296 r) (hj : j = m) :
    (out.set (i + m) (cy % 4294967296)).length = n + m ∧ i + 1 ≤ n ∧ (∀ x ∈ out.set (i + m) (cy % 4294967296), x < 4294967296) ∧
      (∀ (q : Nat) (h : q < (out.set (i + m) (cy % 4294967296)).length), i + 1 + m ≤ q → (out.set (i + m) (cy % 4294967296))[q] = 0) ∧
      val 4294967296 (out.set (i + m) (cy % 4294967296)) = val 4294967296 (l.take (i + 1)) * val 4294967296 r := by
  subst hj
  rw [Nat.mod_eq_of_lt hD2]
  refine ⟨by simp [hD1], by omega, mem_set_lt hD4 hD2, fun q hq hiq => ?_, ?_⟩
  · rw [List.getElem_set_ne (by omega)]
    exact hD5 q (by simpa using hq) (by omega)
  · have hk : i + j < out.length := by omega
    have hs := val_set (b := 4294967296) out (i + j) cy hk
    rw [hD5 (i + j) hk (Nat.le_refl _)] at hs
    rw [val_take_succ l i hi]
    rw [List.take_of_length_le (by omega)] at hD6
    rw [hC5] at hD6
    rw [Nat.add_mul]
    have : 4294967296 ^ i * l[i] * val 4294967296 r = l[i] * val 4294967296 r * 4294967296 ^ i := by grind
    omega
theorem mul_done {l r out : List Nat} {n m i : Nat} (hi : i = n) (hn : l.length = n) (hC1 : out.length = n + m) (hC3 : ∀ x ∈ out, x < 4294967296)
    (hC5 : val 4294967296 out = val 4294967296 (l.take i) * val 4294967296 r) : nrm out = dig 4294967296 (val 4294967296 l * val 4294967296 r) := by
  subst hi
  rw [nrm_eq (b := 4294967296) (by omega) out hC3, hC5, List.take_of_length_le (by omega)]
theorem dig_one {b : Nat} (hb : 2 ≤ b) : dig b 1 = [1] := by
  rw [dig_pos hb (by omega), Nat.mod_eq_of_lt (by omega), Nat.div_eq_of_lt (by omega)]; rfl
theorem dig_len {b : Nat} (hb : 2 ≤ b) : ∀ (k m : Nat), m < b ^ k → (dig b m).length ≤ k := by
  intro k
  induction k with
  | zero => intro m hm; have : m = 0 := by simpa using hm
            subst this; simp [dig_zero]
  | succ k ih =>
    intro m hm
    by_cases h0 : m = 0
    · subst h0; simp [dig_zero]
    · rw [dig_pos hb h0, List.length_cons]
      have := ih (m / b) (Nat.div_lt_of_lt_mul (by rw [Nat.pow_succ] at hm; rw [Nat.mul_comm]; exact hm))
      omega
end Go.Proofs.YtlkgeeppfifeeaaGreat
