/- Plain laws on the reference's numbers: sums, differences, quotients by 1, rational numbers that are whole. -/
import Derived.Test.YtjhknbpiaikblaaQ20
namespace Go.Proofs.Ytjhknbpiaikblaa
open Go Go.RowKit
theorem val_takeD {b : Nat} (l : List Nat) (i : Nat) : val b (l.take (i + 1)) = val b (l.take i) + b ^ i * l.getD i 0 := by
  by_cases h : i < l.length
  · rw [val_take_succ l i h]; simp [h]
  · rw [List.take_of_length_le (by omega), List.take_of_length_le (by omega)]; simp [h]
theorem getD_lt {l : List Nat} (hl : ∀ x ∈ l, x < 65536) (i : Nat) : l.getD i 0 < 65536 := by
  by_cases h : i < l.length
  · have := hl _ (List.getElem_mem h); simpa [h] using this
  · simp [h]
theorem getD_in {l : List Nat} {i : Nat} (h : i < l.length) : l.getD i 0 = l[i] := by simp [h]
theorem getD_out {l : List Nat} {i : Nat} (h : ¬ i < l.length) : l.getD i 0 = 0 := by simp [h]
theorem plus_body (l r o : List Nat) (cy i : Nat) (hl : ∀ x ∈ l, x < 65536) (hr : ∀ x ∈ r, x < 65536) (hcy : cy ≤ 1) (hi : i ≤ 1000001) (ho : o.length = i) :
    lidarref01_plus_l4 (nI r) (nI l) (nI o, (cy : Int), (i : Int)) = if i < l.length ∨ i < r.length ∨ 0 < cy then some (.inl (nI (o ++ [(cy + l.getD i 0 + r.getD i 0) % 65536]), (((cy + l.getD i 0 + r.getD i 0) / 65536 : Nat) : Int), ((i + 1 : Nat) : Int))) else some (.inr (nI o)) := by
  have h1 := getD_lt hl i
  have h2 := getD_lt hr i
  have fin : ∀ s : Nat, s ≤ 131071 → (nI o ++ [Int.tmod (s : Int) 65536], w64 (Int.tdiv (s : Int) 65536), w64 ((i : Int) + 1)) = (nI (o ++ [s % 65536]), ((s / 65536 : Nat) : Int), ((i + 1 : Nat) : Int)) := by
    intro s hs
    rw [tmod16, tdiv16, w64_nat (by omega), w64_succ (by omega)]
    simp [nI]
  unfold lidarref01_plus_l4
  simp only [jn_d, nI_len]
  by_cases hn : i < l.length
  · rw [if_pos (show (i : Int) < (l.length : Int) by omega), if_pos trivial, if_pos (show (i : Int) < (l.length : Int) by omega), idx_nI hn, bnd_s, if_pos (show i < l.length ∨ i < r.length ∨ 0 < cy from .inl hn)]
    rw [show w64 ((cy : Int) + (l[i] : Int)) = ((cy + l.getD i 0 : Nat) : Int) from by rw [getD_in hn] at *; rw [w64_id (by omega) (by omega)]; omega]
    by_cases hm : i < r.length
    · rw [if_pos (show (i : Int) < (r.length : Int) by omega), idx_nI hm, bnd_s, gd_t (by omega)]
      rw [show w64 (((cy + l.getD i 0 : Nat) : Int) + (r[i] : Int)) = ((cy + l.getD i 0 + r.getD i 0 : Nat) : Int) from by rw [getD_in hm] at *; rw [w64_id (by omega) (by omega)]; omega]
      rw [fin _ (by omega)]
    · rw [if_neg (show ¬ (i : Int) < (r.length : Int) by omega), gd_t (by omega), fin _ (by omega), getD_out hm]; rfl
  · rw [if_neg (show ¬ (i : Int) < (l.length : Int) by omega)]
    by_cases hm : i < r.length
    · rw [if_pos (show (i : Int) < (r.length : Int) by omega), if_pos trivial, if_neg (show ¬ (i : Int) < (l.length : Int) by omega), if_pos (show (i : Int) < (r.length : Int) by omega), idx_nI hm, bnd_s, gd_t (by omega), if_pos (show i < l.length ∨ i < r.length ∨ 0 < cy from .inr (.inl hm)), getD_out hn, Nat.add_zero]
      rw [show w64 ((cy : Int) + (r[i] : Int)) = ((cy + r.getD i 0 : Nat) : Int) from by rw [getD_in hm] at *; rw [w64_id (by omega) (by omega)]; omega]
      rw [fin _ (by omega)]
    · rw [if_neg (show ¬ (i : Int) < (r.length : Int) by omega)]
      by_cases hc : 0 < cy
      · rw [if_pos (by simpa using hc), if_neg (show ¬ (i : Int) < (l.length : Int) by omega), if_neg (show ¬ (i : Int) < (r.length : Int) by omega), gd_t (by omega), fin _ (by omega), if_pos (show i < l.length ∨ i < r.length ∨ 0 < cy from .inr (.inr hc)), getD_out hn, getD_out hm]; rfl
      · rw [if_neg (by simpa using hc), if_neg (by omega)]
theorem plus_n (l r : List Nat) (hl : ∀ x ∈ l, x < 65536) (hr : ∀ x ∈ r, x < 65536) (h1 : l.length ≤ 1000000) (h2 : r.length ≤ 1000000) :
    lidarref01_plus (nI l) (nI r) = some (L16 (val 65536 l + val 65536 r)) := by
  obtain ⟨t, ht, out, rfl, hd⟩ := lfix_ind (B := lidarref01_plus_l4 (nI r) (nI l)) (fun s => 2 * (max l.length r.length - s.2.2.toNat) + s.2.1.toNat)
    (fun s => ∃ (o : List Nat) (cy i : Nat), s = (nI o, (cy : Int), (i : Int)) ∧ o.length = i ∧ cy ≤ 1 ∧ i ≤ max l.length r.length + 1 ∧ (i = max l.length r.length + 1 → cy = 0) ∧ (∀ x ∈ o, x < 65536) ∧ val 65536 o + cy * 65536 ^ i = val 65536 (l.take i) + val 65536 (r.take i))
    (fun t => ∃ out, t = nI out ∧ nrm out = dig 65536 (val 65536 l + val 65536 r)) (by
      rintro s ⟨o, cy, i, rfl, hC1, hC2, hC3, hC0, hC4, hC5⟩
      have g1 := getD_lt hl i
      have g2 := getD_lt hr i
      rw [plus_body l r o cy i hl hr hC2 (by omega) hC1]
      by_cases hc : i < l.length ∨ i < r.length ∨ 0 < cy
      · left
        rw [if_pos hc]
        refine ⟨_, rfl, ⟨_, _, _, rfl, by simp [hC1], by omega, by omega, fun he => ?_, ?_, ?_⟩, ?_⟩
        · rw [getD_out (show ¬ i < l.length by omega), getD_out (show ¬ i < r.length by omega)]
          omega
        · intro x hx
          rcases List.mem_append.1 hx with hx | hx
          · exact hC4 x hx
          · simp at hx; omega
        · rw [val_append, hC1, val_takeD, val_takeD]
          have e : val 65536 [(cy + l.getD i 0 + r.getD i 0) % 65536] = (cy + l.getD i 0 + r.getD i 0) % 65536 := by simp [val]
          rw [e]
          have e2 := Nat.div_add_mod (cy + l.getD i 0 + r.getD i 0) 65536
          have e3 := congrArg (· * 65536 ^ i) e2
          simp only [Nat.add_mul] at e3
          have e4 : 65536 ^ (i + 1) = 65536 * 65536 ^ i := by rw [Nat.pow_succ, Nat.mul_comm]
          rw [e4]
          generalize 65536 ^ i = P at *
          generalize (cy + l.getD i 0 + r.getD i 0) % 65536 = M at *
          generalize (cy + l.getD i 0 + r.getD i 0) / 65536 = D at *
          generalize l.getD i 0 = a at *
          generalize r.getD i 0 = b at *
          have e5 : D * (65536 * P) = 65536 * D * P := by grind
          have e6 : P * M = M * P := Nat.mul_comm _ _
          have e7 : P * a = a * P := Nat.mul_comm _ _
          have e8 : P * b = b * P := Nat.mul_comm _ _
          omega
        · simp only [Int.toNat_natCast]
          by_cases hb : i < l.length ∨ i < r.length
          · omega
          · rw [getD_out (show ¬ i < l.length by omega), getD_out (show ¬ i < r.length by omega)]
            omega
      · right
        rw [if_neg hc]
        refine ⟨_, rfl, o, rfl, ?_⟩
        have : cy = 0 := by omega
        subst this
        rw [nrm_eq (b := 65536) (by omega) o hC4]
        rw [List.take_of_length_le (by omega), List.take_of_length_le (by omega)] at hC5
        rw [show val 65536 o = val 65536 l + val 65536 r by omega])
    (nI [], ((0 : Nat) : Int), ((0 : Nat) : Int)) ⟨[], 0, 0, rfl, rfl, by omega, by omega, by omega, by simp, by simp [val]⟩
  unfold lidarref01_plus
  have ht' : lfix (lidarref01_plus_l4 (nI r) (nI l)) ([], 0, 0) = some (nI out) := ht
  simp only [jn_d]
  rw [ht', bnd_s, trim_nI, bnd_s, hd]; rfl
theorem less_body (l r o : List Nat) (bw i : Nat) (hi : i < l.length) (hl : ∀ x ∈ l, x < 65536) (hr : ∀ x ∈ r, x < 65536) (hb : bw ≤ 1) (h9 : l.length ≤ 1000000) (ho : o.length = i) :
    ∃ d b' : Nat, lidarref01_less_l4 (nI l) (nI r) (nI o, (bw : Int), (i : Int)) = some (.inl (nI (o ++ [d]), (b' : Int), ((i + 1 : Nat) : Int))) ∧ d < 65536 ∧ b' ≤ 1 ∧ d + bw + r.getD i 0 = l.getD i 0 + 65536 * b' := by
  have h1 := getD_lt hl i
  have h2 := getD_lt hr i
  unfold lidarref01_less_l4
  simp only [jn_d, nI_len]
  rw [if_pos (show (i : Int) < (l.length : Int) by omega), idx_nI hi, bnd_s]
  rw [getD_in hi] at *
  have fin : ∀ t : Int, t = (l[i] : Int) - bw - (r.getD i 0 : Int) → ∃ d b' : Nat, (if t < 0 then gd (((nI o).length + 1) * 8 ≤ 140737488355328) (some (Sum.inl (β := List Int) (nI o ++ [w64 (t + 65536)], (1 : Int), w64 ((i : Int) + 1)))) else gd (((nI o).length + 1) * 8 ≤ 140737488355328) (some (.inl (nI o ++ [t], (0 : Int), w64 ((i : Int) + 1))))) = some (.inl (nI (o ++ [d]), (b' : Int), ((i + 1 : Nat) : Int))) ∧ d < 65536 ∧ b' ≤ 1 ∧ d + bw + r.getD i 0 = l[i] + 65536 * b' := by
    intro t ht
    rw [gd_t (by rw [nI_len]; omega), gd_t (by rw [nI_len]; omega), w64_succ (by omega)]
    by_cases h0 : t < 0
    · refine ⟨(t + 65536).toNat, 1, ?_, by omega, by omega, by omega⟩
      rw [if_pos h0, w64_id (by omega) (by omega)]
      simp [nI, Int.toNat_of_nonneg (show 0 ≤ t + 65536 by omega)]
    · refine ⟨t.toNat, 0, ?_, by omega, by omega, by omega⟩
      rw [if_neg h0]
      simp [nI, Int.toNat_of_nonneg (show 0 ≤ t by omega)]
  by_cases hm : i < r.length
  · rw [if_pos (show (i : Int) < (r.length : Int) by omega), idx_nI hm, bnd_s]
    have := fin (w64 (w64 ((l[i] : Int) - (bw : Int)) - (r[i] : Int))) (by rw [getD_in hm] at *; rw [w64_id (x := (l[i] : Int) - (bw : Int)) (by omega) (by omega), w64_id (by omega) (by omega)])
    simpa only [nI_len] using this
  · rw [if_neg (show ¬ (i : Int) < (r.length : Int) by omega)]
    have := fin (w64 ((l[i] : Int) - (bw : Int))) (by rw [getD_out hm, w64_id (by omega) (by omega)]; omega)
    simpa only [nI_len] using this
theorem less_n (l r : List Nat) (hl : ∀ x ∈ l, x < 65536) (hr : ∀ x ∈ r, x < 65536) (h1 : l.length ≤ 1000000) (h2 : r.length ≤ l.length) (hle : val 65536 r ≤ val 65536 l) :
    lidarref01_less (nI l) (nI r) = some (L16 (val 65536 l - val 65536 r)) := by
  obtain ⟨t, ht, out, rfl, hd⟩ := lfix_ind (B := lidarref01_less_l4 (nI l) (nI r)) (fun s => l.length - s.2.2.toNat)
    (fun s => ∃ (o : List Nat) (bw i : Nat), s = (nI o, (bw : Int), (i : Int)) ∧ o.length = i ∧ bw ≤ 1 ∧ i ≤ l.length ∧ (∀ x ∈ o, x < 65536) ∧ val 65536 o + val 65536 (r.take i) = val 65536 (l.take i) + bw * 65536 ^ i)
    (fun t => ∃ out, t = nI out ∧ nrm out = dig 65536 (val 65536 l - val 65536 r)) (by
      rintro s ⟨o, bw, i, rfl, hC1, hC2, hC3, hC4, hC5⟩
      by_cases hi : i < l.length
      · left
        obtain ⟨d, b', hB, hd1, hb1, he⟩ := less_body l r o bw i hi hl hr hC2 h1 hC1
        refine ⟨_, hB, ⟨_, _, _, rfl, by simp [hC1], hb1, by omega, ?_, ?_⟩, by simp; omega⟩
        · intro x hx
          rcases List.mem_append.1 hx with hx | hx
          · exact hC4 x hx
          · simp at hx; omega
        · rw [val_append, hC1, val_takeD, val_takeD]
          have e : val 65536 [d] = d := by simp [val]
          rw [e]
          have e3 := congrArg (· * 65536 ^ i) he
          simp only [Nat.add_mul] at e3
          have e4 : 65536 ^ (i + 1) = 65536 * 65536 ^ i := by rw [Nat.pow_succ, Nat.mul_comm]
          rw [e4]
          generalize 65536 ^ i = P at *
          generalize l.getD i 0 = a at *
          generalize r.getD i 0 = b at *
          have e5 : b' * (65536 * P) = 65536 * b' * P := by grind
          have e6 : P * d = d * P := Nat.mul_comm _ _
          have e7 : P * a = a * P := Nat.mul_comm _ _
          have e8 : P * b = b * P := Nat.mul_comm _ _
          omega
      · right
        have hil : i = l.length := by omega
        refine ⟨nI o, ?_, o, rfl, ?_⟩
        · unfold lidarref01_less_l4
          simp only [nI_len]
          rw [if_neg (by omega)]
        · rw [List.take_of_length_le (by omega), List.take_of_length_le (by omega)] at hC5
          rw [nrm_eq (b := 65536) (by omega) o hC4]
          have hlt := val_lt o hC4
          rw [hC1] at hlt
          have : bw = 0 ∨ bw = 1 := by omega
          rcases this with rfl | rfl
          · rw [show val 65536 o = val 65536 l - val 65536 r by omega]
          · omega)
    (nI [], ((0 : Nat) : Int), ((0 : Nat) : Int)) ⟨[], 0, 0, rfl, rfl, by omega, by omega, by simp, by simp [val]⟩
  unfold lidarref01_less
  have ht' : lfix (lidarref01_less_l4 (nI l) (nI r)) ([], 0, 0) = some (nI out) := ht
  simp only [jn_d]
  rw [ht', bnd_s, trim_nI, bnd_s, hd]; rfl
theorem short_1 (l : List Nat) (hl : ∀ x ∈ l, x < 65536) (h1 : l.length ≤ 1000000) : lidarref01_short (nI l) 1 = some (nI (nrm l), 0) := by
  obtain ⟨t, ht, hR⟩ := lfix_ind (B := lidarref01_short_l4 (nI l) 1) (fun s => (s.2.2 + 1).toNat)
    (fun s => ∃ (o : List Nat) (k : Nat), s = (nI o, 0, (k : Int) - 1) ∧ o.length = l.length ∧ k ≤ l.length ∧ ∀ (j : Nat) (h : j < o.length) (h' : j < l.length), k ≤ j → o[j] = l[j])
    (fun t => t = (nI l, 0)) (by
      rintro s ⟨o, k, rfl, hC1, hC2, hC3⟩
      unfold lidarref01_short_l4
      by_cases hk : k = 0
      · right
        subst hk
        refine ⟨_, by simp only []; rw [if_neg (by omega)], ?_⟩
        rw [List.ext_getElem hC1 (fun j h h' => hC3 j h h' (by omega))]
      · left
        have h1' : k - 1 < l.length := by omega
        have h2' : k - 1 < o.length := by omega
        have hd := hl _ (List.getElem_mem h1')
        refine ⟨(nI (o.set (k - 1) l[k - 1]), 0, ((k - 1 : Nat) : Int) - 1), ?_, ⟨_, k - 1, rfl, by simp [hC1], by omega, fun j h h' hj => ?_⟩, by simp; omega⟩
        · simp only []
          rw [if_pos (by omega), show ((k : Int) - 1) = ((k - 1 : Nat) : Int) from by omega, idx_nI h1', bnd_s, gd_t (by omega), idx_nI h2', bnd_s, gd_t (by omega)]
          rw [show w64 (0 * 65536) = 0 from by decide, Int.zero_add, w64_nat (by omega), Int.tdiv_one, w64_nat (by omega), setI_nI, Int.tmod_one, w64_id (by omega) (by omega)]
        · rw [List.getElem_set]
          split
          · rename_i he; subst he; rfl
          · exact hC3 j (by simpa using h) h' (by omega))
    (nI (List.replicate l.length 0), 0, (l.length : Int) - 1) ⟨_, _, rfl, by simp, Nat.le_refl _, fun j h h' hj => by omega⟩
  unfold lidarref01_short
  simp only [jn_d, nI_len, Int.toNat_natCast, zeros_nI]
  rw [gd_t ⟨by omega, by omega⟩, w64_id (by omega) (by omega), ht, bnd_s, hR]
  simp only []
  rw [trim_nI, bnd_s]
theorem one_L : ([1] : List Int) = L16 1 := by unfold L16; rw [dig_one (by omega)]; rfl
theorem small_eq {z : Int} (h1 : -9223372036854775808 ≤ z) (h2 : z ≤ 9223372036854775807) : lidarref01_Small z = some (Z16 z) := by unfold lidarref01_Small; rw [if_pos ⟨h1, h2⟩]
theorem divide_1 (a : Nat) (h : (dig 65536 a).length ≤ 1000000) : lidarref01_divide (L16 a) [1] = some (L16 a, []) := by
  unfold lidarref01_divide
  rw [one_L, cmp_L a 1 h, bnd_s, ← one_L]
  by_cases h0 : a = 0
  · subst h0
    rw [if_pos (by decide)]; rfl
  · rw [if_neg (by simp only [cmpN]; split <;> (try split) <;> omega)]
    simp only [List.length_singleton]
    rw [if_pos (by decide), show idx ([1] : List Int) 0 = some 1 from rfl, bnd_s]
    unfold L16
    rw [short_1 _ (dig_lt (by omega) a) h, bnd_s]
    simp only []
    rw [small_eq (by omega) (by omega), bnd_s, nrm_dig (by omega)]
    rfl
theorem gcd_1 (a : Nat) (h : (dig 65536 a).length ≤ 1000000) : lidarref01_gcd (L16 a) [1] = some [1] := by
  unfold lidarref01_gcd
  simp only [jn_d]
  have e : lfix lidarref01_gcd_l1 (L16 a, [1]) = some [1] := by
    rw [lfix_eq]
    have : lidarref01_gcd_l1 (L16 a, [1]) = some (.inl ([1], [])) := by
      unfold lidarref01_gcd_l1
      simp only [List.length_singleton]
      rw [if_pos (by decide), divide_1 a h, bnd_s]
    rw [this]
    simp only []
    rw [lfix_eq]
    have : lidarref01_gcd_l1 (([1] : List Int), ([] : List Int)) = some (.inr [1]) := by
      unfold lidarref01_gcd_l1
      simp
    rw [this]
  rw [e, bnd_s]
theorem L16_nil {a : Nat} : (L16 a).length = 0 ↔ a = 0 := by
  unfold L16; rw [nI_len, List.length_eq_zero_iff, dig_nil (by omega)]
theorem frac_1 (z : Int) (h : (dig 65536 z.natAbs).length ≤ 1000000) : lidarref01_Frac (Z16 z) ⟨false, [1]⟩ = some ⟨Z16 z, [1]⟩ := by
  unfold lidarref01_Frac
  simp only [jn_d, Z16]
  rw [gcd_1 _ h, bnd_s, divide_1 _ h, bnd_s]
  rw [one_L, ← one_L, show lidarref01_divide [1] [1] = some (([1] : List Int), []) from by
    have := divide_1 1 (by rw [dig_one (by omega)]; simp)
    rw [← one_L] at this; exact this]
  rw [bnd_s]
  show (if decide (z < 0) = true then some (⟨⟨decide (0 < (((L16 z.natAbs).length : Nat) : Int)), L16 z.natAbs⟩, [1]⟩ : S_lidarref01_Q) else some ⟨⟨false, L16 z.natAbs⟩, [1]⟩) = some ⟨⟨decide (z < 0), L16 z.natAbs⟩, [1]⟩
  by_cases h0 : z < 0
  · have : (L16 z.natAbs).length ≠ 0 := fun e => by have := L16_nil.1 e; omega
    rw [if_pos (by simpa using h0)]
    have e1 : decide (0 < (((L16 z.natAbs).length : Nat) : Int)) = true := decide_eq_true (by omega)
    rw [e1, decide_eq_true h0]
  · rw [if_neg (by simpa using h0), decide_eq_false h0]
theorem L16_lt {a : Nat} : ∀ x ∈ dig 65536 a, x < 65536 := dig_lt (by omega) a
theorem plus_L {a b : Nat} (ha : (dig 65536 a).length ≤ 1000000) (hb : (dig 65536 b).length ≤ 1000000) : lidarref01_plus (L16 a) (L16 b) = some (L16 (a + b)) := by
  have := plus_n _ _ (L16_lt (a := a)) (L16_lt (a := b)) ha hb
  rwa [val_dig (by omega), val_dig (by omega)] at this
theorem dig_mono {a b : Nat} (h : a ≤ b) : (dig 65536 a).length ≤ (dig 65536 b).length := by
  rcases Nat.lt_or_ge (dig 65536 b).length (dig 65536 a).length with h1 | h1
  · have := dig_len_lt (b := 65536) (by omega) h1; omega
  · exact h1
theorem less_L {a b : Nat} (ha : (dig 65536 a).length ≤ 1000000) (h : b ≤ a) : lidarref01_less (L16 a) (L16 b) = some (L16 (a - b)) := by
  have := less_n _ _ (L16_lt (a := a)) (L16_lt (a := b)) ha (dig_mono h) (by rw [val_dig (by omega), val_dig (by omega)]; exact h)
  rwa [val_dig (by omega), val_dig (by omega)] at this
theorem times_L {a b : Nat} (h : (dig 65536 a).length + (dig 65536 b).length ≤ 1000000) : lidarref01_times (L16 a) (L16 b) = some (L16 (a * b)) := by
  have := times_n _ _ (L16_lt (a := a)) (L16_lt (a := b)) h
  rwa [val_dig (by omega), val_dig (by omega)] at this
theorem Z16_L {z : Int} : (Z16 z).L = L16 z.natAbs := rfl
theorem Z16_neg {z : Int} : (Z16 z).Neg = decide (z < 0) := rfl
theorem Z16_mk {b : Bool} {l : List Int} {z : Int} (h1 : b = decide (z < 0)) (h2 : l = L16 z.natAbs) : (some ⟨b, l⟩ : Option S_lidarref01_Int) = some (Z16 z) := by subst h1; subst h2; rfl
theorem add_Z {x y : Int} (hx : (dig 65536 x.natAbs).length ≤ 1000000) (hy : (dig 65536 y.natAbs).length ≤ 1000000) : lidarref01_Int_Add (Z16 x) (Z16 y) = some (Z16 (x + y)) := by
  unfold lidarref01_Int_Add
  simp only [Z16_L]
  by_cases hs' : x < 0 ↔ y < 0
  · rw [if_pos (by rw [Z16_neg, Z16_neg]; by_cases h : x < 0 <;> simp [h] <;> omega), plus_L hx hy, bnd_s]
    refine Z16_mk ?_ ?_
    · rw [Z16_neg]; by_cases h : x < 0 <;> simp [h] <;> omega
    · congr 1; omega
  · rw [if_neg (by rw [Z16_neg, Z16_neg]; by_cases h : x < 0 <;> simp [h] <;> omega), cmp_L _ _ hx, bnd_s]
    by_cases h1 : x.natAbs < y.natAbs
    · rw [show cmpN x.natAbs y.natAbs = -1 from if_pos h1, if_neg (by decide), if_neg (by decide), less_L hy (by omega), bnd_s]
      refine Z16_mk ?_ ?_
      · rw [Z16_neg]; by_cases h : y < 0 <;> simp [h] <;> omega
      · congr 1; omega
    · by_cases h2 : x.natAbs = y.natAbs
      · rw [show cmpN x.natAbs y.natAbs = 0 from (if_neg h1).trans (if_pos h2), if_pos rfl]
        have : x + y = 0 := by omega
        rw [this]; rfl
      · rw [show cmpN x.natAbs y.natAbs = 1 from (if_neg h1).trans (if_neg h2), if_neg (by decide), if_pos (by decide), less_L hx (by omega), bnd_s]
        refine Z16_mk ?_ ?_
        · rw [Z16_neg]; by_cases h : x < 0 <;> simp [h] <;> omega
        · congr 1; omega
theorem mul_Z {x y : Int} (h : (dig 65536 x.natAbs).length + (dig 65536 y.natAbs).length ≤ 1000000) : lidarref01_Int_Mul (Z16 x) (Z16 y) = some (Z16 (x * y)) := by
  unfold lidarref01_Int_Mul
  simp only [Z16_L, jn_d]
  rw [times_L h, bnd_s]
  have hsg := sign_mul (z := x) (y := y)
  have e2 := L16_nil (a := x.natAbs * y.natAbs)
  by_cases hs' : x < 0 ↔ y < 0
  · rw [if_pos (by rw [Z16_neg, Z16_neg]; by_cases h : x < 0 <;> simp [h] <;> omega)]
    refine Z16_mk ?_ (by rw [Int.natAbs_mul])
    rw [← hsg]
    have e : (decide (x < 0) == decide (y < 0)) = true := by by_cases h : x < 0 <;> simp [h] <;> omega
    rw [e]; rfl
  · rw [if_neg (by rw [Z16_neg, Z16_neg]; by_cases h : x < 0 <;> simp [h] <;> omega)]
    refine Z16_mk ?_ (by rw [Int.natAbs_mul])
    rw [← hsg]
    have e : (decide (x < 0) == decide (y < 0)) = false := by by_cases h : x < 0 <;> simp [h] <;> omega
    rw [e]
    by_cases h0 : x.natAbs * y.natAbs = 0
    · have := e2.2 h0
      rw [decide_eq_true h0, decide_eq_false (by omega)]; rfl
    · have : (L16 (x.natAbs * y.natAbs)).length ≠ 0 := fun e => h0 (e2.1 e)
      rw [decide_eq_false h0, decide_eq_true (by omega)]; rfl
def QZ (z : Int) : S_lidarref01_Q := ⟨Z16 z, [1]⟩
theorem whole_eq {z : Int} (h1 : -9223372036854775808 ≤ z) (h2 : z ≤ 9223372036854775807) : lidarref01_Whole z = some (QZ z) := by
  unfold lidarref01_Whole; rw [small_eq h1 h2, bnd_s]; rfl
theorem one_Z : (⟨false, [1]⟩ : S_lidarref01_Int) = Z16 1 := by unfold Z16; rw [one_L]; rfl
theorem one_len : (dig 65536 (1 : Int).natAbs).length = 1 := by rw [show (1 : Int).natAbs = 1 from rfl, dig_one (by omega)]; rfl
theorem times_11 : lidarref01_times [1] [1] = some ([1] : List Int) := by
  have := times_L (a := 1) (b := 1) (by rw [dig_one (by omega)]; simp)
  rw [← one_L] at this; exact this
theorem add_Q {x y : Int} (hx : (dig 65536 x.natAbs).length ≤ 100000) (hy : (dig 65536 y.natAbs).length ≤ 100000) (hz : (dig 65536 (x + y).natAbs).length ≤ 1000000) : lidarref01_Q_Add (QZ x) (QZ y) = some (QZ (x + y)) := by
  unfold lidarref01_Q_Add
  simp only [QZ]
  have e1 : lidarref01_Int_Mul (Z16 x) ⟨false, [1]⟩ = some (Z16 x) := by
    rw [one_Z, mul_Z (by rw [one_len]; omega), Int.mul_one]
  have e2 : lidarref01_Int_Mul (Z16 y) ⟨false, [1]⟩ = some (Z16 y) := by
    rw [one_Z, mul_Z (by rw [one_len]; omega), Int.mul_one]
  rw [e1, bnd_s, e2, bnd_s, add_Z (by omega) (by omega), bnd_s, times_11, bnd_s, frac_1 _ hz, bnd_s]
theorem mul_Q {x y : Int} (h : (dig 65536 x.natAbs).length + (dig 65536 y.natAbs).length ≤ 1000000) (hz : (dig 65536 (x * y).natAbs).length ≤ 1000000) : lidarref01_Q_Mul (QZ x) (QZ y) = some (QZ (x * y)) := by
  unfold lidarref01_Q_Mul
  simp only [QZ]
  rw [mul_Z h, bnd_s, times_11, bnd_s, frac_1 _ hz, bnd_s]
end Go.Proofs.Ytjhknbpiaikblaa
