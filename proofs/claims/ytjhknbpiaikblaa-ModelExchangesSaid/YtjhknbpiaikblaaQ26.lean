/- Plain laws on the program's numbers of words of 32 bits, and on Add and Sign. -/
import Derived.Test.YtjhknbpiaikblaaN10
import Derived.Test.YtjhknbpiaikblaaQ20
namespace Go.Proofs.Ytjhknbpiaikblaa
open Go Go.RowKit
theorem wu32_m {n : Nat} (h : n < 4294967296) : wu32 (n : Int) = n := wrap_nat .u32 n (by simp only [top]; omega)
theorem wu64_m {n : Nat} (h : n < 18446744073709551616) : wu64 (n : Int) = n := wrap_nat .u64 n (by simp only [top]; omega)
theorem norm_nI (l : List Nat) (h9 : l.length ≤ 1000000) : ratio_nat_norm (nI l) = some (nI (nrm l)) := by
  obtain ⟨t, ht, hR⟩ := lfix_ind (B := ratio_nat_norm_l1) (fun s => s.length)
    (fun s => ∃ k : Nat, k ≤ l.length ∧ s = nI (l.take k) ∧ ∀ (j : Nat) (h : j < l.length), k ≤ j → l[j] = 0)
    (fun t => t = nI (nrm l)) (by
      rintro s ⟨k, hk, rfl, hz⟩
      have hlen : (l.take k).length = k := by rw [List.length_take]; omega
      unfold ratio_nat_norm_l1
      simp only [jn_d, nI_len, hlen]
      by_cases h0 : k = 0
      · right
        subst h0
        rw [if_neg (by omega), if_neg (by simp)]
        refine ⟨_, rfl, ?_⟩
        rw [nrm_zeros l (fun x hx => by obtain ⟨j, hj, rfl⟩ := List.getElem_of_mem hx; exact hz j hj (by omega))]; rfl
      · rw [if_pos (by omega)]
        · rw [w64_id (by omega) (by omega), show ((k : Int) - 1) = ((k - 1 : Nat) : Int) from by omega, idx_nI (by omega), bnd_s]
          have e : (l.take k)[k - 1]'(by omega) = l[k - 1] := by rw [List.getElem_take]
          rw [e]
          by_cases hx : l[k - 1] = 0
          · left
            refine ⟨nI (l.take (k - 1)), ?_, ⟨k - 1, by omega, rfl, fun j h hj => ?_⟩, by simp only [nI_len, List.length_take]; omega⟩
            · rw [if_pos (by rw [hx]; rfl), gd_t ⟨by omega, by omega⟩]
              congr 2
              simp only [subl, nI, Int.toNat_natCast, Int.toNat_zero, List.drop_zero, ← List.map_take, List.take_take]
              rw [show min (k - 1) k = k - 1 by omega]
            · rcases Nat.lt_or_ge (k - 1) j with hq | hq
              · exact hz j h (by omega)
              · obtain rfl : j = k - 1 := by omega
                exact hx
          · right
            rw [if_neg (by rw [decide_eq_true_eq]; omega)]
            refine ⟨_, rfl, ?_⟩
            have h1 := nrm_at l k hk hz (fun h0' h' => hx)
            conv => rhs; rw [nrm_take, h1])
    (nI l) ⟨l.length, by omega, by rw [List.take_length], fun j h hj => by omega⟩
  unfold ratio_nat_norm
  simp only [jn_d]
  rw [ht, bnd_s, hR]
theorem wu32_mod (n : Nat) : wu32 (n : Int) = ((n % 4294967296 : Nat) : Int) := by
  show IntKind.u32.wrap (n : Int) = _
  simp [IntKind.wrap, IntKind.bits, IntKind.signed]
theorem shr32 (n : Nat) : shr_ .u64 (n : Int) 32 = ((n / 4294967296 : Nat) : Int) := by
  show (n : Int).fdiv (2 ^ (min (32 : Int).toNat 64)) = _
  rw [show (2 : Int) ^ (min (32 : Int).toNat 64) = 4294967296 from by decide, Int.fdiv_eq_ediv_of_nonneg _ (by omega)]
  omega
theorem mulW_n (l r : List Nat) (hl : ∀ x ∈ l, x < 4294967296) (hr : ∀ x ∈ r, x < 4294967296) (hb : l.length + r.length ≤ 1000000) :
    ratio_nat_mul (nI l) (nI r) = some (L32 (val 4294967296 l * val 4294967296 r)) := by
  have e : w64 ((((nI l).length : Nat) : Int) + (((nI r).length : Nat) : Int)) = ((l.length + r.length : Nat) : Int) := by rw [nI_len, nI_len, w64_id (by omega) (by omega)]; omega
  obtain ⟨t, ht, out, rfl, hd, hlo⟩ := lfix_ind (B := ratio_nat_mul_l3 (nI l) (nI r)) (fun s => l.length - s.2.toNat)
    (fun s => ∃ (out : List Nat) (i : Nat), s = (nI out, (i : Int)) ∧ out.length = l.length + r.length ∧ i ≤ l.length ∧ (∀ x ∈ out, x < 4294967296) ∧ (∀ (q : Nat) (h : q < out.length), i + r.length ≤ q → out[q] = 0) ∧ val 4294967296 out = val 4294967296 (l.take i) * val 4294967296 r)
    (fun t => ∃ out, t = nI out ∧ nrm out = dig 4294967296 (val 4294967296 l * val 4294967296 r) ∧ out.length ≤ 1000000) (by
      rintro s ⟨out0, i, rfl, hC1, hC2, hC3, hC4, hC5⟩
      by_cases hi : i < l.length
      · left
        obtain ⟨t, ht, out, cy, rfl, hD1, hD2, hD4, hD5, hD6⟩ := lfix_ind (B := ratio_nat_mul_l7 (nI r) (nI out0, (i : Int)) (l[i] : Int)) (fun s => r.length - s.2.2.toNat)
          (fun s => ∃ (out : List Nat) (cy j : Nat), s = (nI out, (cy : Int), (j : Int)) ∧ out.length = l.length + r.length ∧ cy < 4294967296 ∧ j ≤ r.length ∧ (∀ x ∈ out, x < 4294967296) ∧ (∀ (q : Nat) (h : q < out.length), i + r.length ≤ q → out[q] = 0) ∧ val 4294967296 out + cy * 4294967296 ^ (i + j) = val 4294967296 out0 + l[i] * val 4294967296 (r.take j) * 4294967296 ^ i)
          (fun t => ∃ (out : List Nat) (cy : Nat), t = (nI out, (cy : Int)) ∧ out.length = l.length + r.length ∧ cy < 4294967296 ∧ (∀ x ∈ out, x < 4294967296) ∧ (∀ (q : Nat) (h : q < out.length), i + r.length ≤ q → out[q] = 0) ∧ val 4294967296 out + cy * 4294967296 ^ (i + r.length) = val 4294967296 out0 + l[i] * val 4294967296 (r.take r.length) * 4294967296 ^ i) (by
            rintro s ⟨out, cy, j, rfl, hD1, hD2, hD3, hD4, hD5, hD6⟩
            by_cases hj : j < r.length
            · left
              have hk : i + j < out.length := by omega
              have h1 := hl _ (List.getElem_mem hi)
              have h2 := hr _ (List.getElem_mem hj)
              have h3 := hD4 _ (List.getElem_mem hk)
              have hmm := mul_lt32 h1 h2
              have e1 : w64 ((i : Int) + (j : Int)) = ((i + j : Nat) : Int) := by rw [w64_id (by omega) (by omega)]; omega
              have e2 : wu64 (wu64 (wu64 (wu64 (l[i] : Int) * wu64 (r[j] : Int)) + wu64 (out[i + j] : Int)) + (cy : Int)) = ((l[i] * r[j] + out[i + j] + cy : Nat) : Int) := by
                rw [wu64_m (n := l[i]) (by omega), wu64_m (n := r[j]) (by omega), wu64_m (n := out[i + j]) (by omega), ← Int.natCast_mul, wu64_m (by omega), ← Int.natCast_add, wu64_m (by omega), ← Int.natCast_add, wu64_m (by omega)]
              have e4 : wu32 ((l[i] * r[j] + out[i + j] + cy : Nat) : Int) = (((l[i] * r[j] + out[i + j] + cy) % 4294967296 : Nat) : Int) := wu32_mod _
              refine ⟨(nI (out.set (i + j) ((l[i] * r[j] + out[i + j] + cy) % 4294967296)), (((l[i] * r[j] + out[i + j] + cy) / 4294967296 : Nat) : Int), ((j + 1 : Nat) : Int)), ?_, ⟨_, _, _, rfl, mul_inner hi hj rfl rfl h1 h2 hD1 hD2 hD3 hD4 hD5 hD6 hk⟩, by simp; omega⟩
              unfold ratio_nat_mul_l7
              simp only [e1]
              rw [if_pos (by rw [nI_len]; omega), idx_nI hj, bnd_s, idx_nI hk, bnd_s, bnd_s, e2, e4, shr32, setI_nI, w64_succ (by omega)]
            · right
              obtain rfl : j = r.length := by omega
              refine ⟨(nI out, (cy : Int)), ?_, out, cy, rfl, hD1, hD2, hD4, hD5, hD6⟩
              unfold ratio_nat_mul_l7
              simp only []
              rw [if_neg (by rw [nI_len]; omega)])
          (nI out0, ((0 : Nat) : Int), ((0 : Nat) : Int)) ⟨out0, 0, 0, rfl, hC1, by omega, by omega, hC3, fun q hq hiq => hC4 q hq (by omega), by simp [val]⟩
        have hk : i + r.length < out.length := by omega
        refine ⟨(nI (out.set (i + r.length) (cy % 4294967296)), ((i + 1 : Nat) : Int)), ?_, ⟨_, _, rfl, mul_outer hi rfl rfl hD1 hD2 hD4 hD5 hD6 hC5 rfl⟩, by simp; omega⟩
        unfold ratio_nat_mul_l3
        simp only [jn_d]
        have ht' : lfix (ratio_nat_mul_l7 (nI r) (nI out0, (i : Int)) (l[i] : Int)) (nI out0, 0, 0) = some (nI out, (cy : Int)) := ht
        rw [if_pos (by rw [nI_len]; omega), idx_nI hi, bnd_s, ht', bnd_s, nI_len, show w64 ((i : Int) + (r.length : Int)) = ((i + r.length : Nat) : Int) from by rw [w64_id (by omega) (by omega)]; omega, idx_nI hk, bnd_s]
        simp only []
        rw [wu32_m hD2, setI_nI, w64_succ (by omega), Nat.mod_eq_of_lt hD2]
      · right
        refine ⟨nI out0, ?_, out0, rfl, mul_done (i := i) (by omega) rfl hC1 hC3 hC5, by omega⟩
        unfold ratio_nat_mul_l3
        simp only []
        rw [if_neg (by rw [nI_len]; omega)])
    (nI (List.replicate (l.length + r.length) 0), ((0 : Nat) : Int)) ⟨_, 0, rfl, by simp, by omega, by simp, by simp, by simp [val, val_zeros]⟩
  unfold ratio_nat_mul
  simp only [e, jn_d, Int.toNat_natCast, zeros_nI]
  have ht' : lfix (ratio_nat_mul_l3 (nI l) (nI r)) (nI (List.replicate (l.length + r.length) 0), 0) = some (nI out) := ht
  rw [gd_t ⟨by omega, by omega⟩, ht', bnd_s, norm_nI _ (by omega), bnd_s, hd]; rfl
theorem cmpW_L (a b : Nat) (ha : (dig 4294967296 a).length ≤ 1000000) : ratio_nat_cmp (L32 a) (L32 b) = some (cmpN a b) := by
  unfold ratio_nat_cmp L32
  rw [nI_len, nI_len]
  by_cases hlen : (dig 4294967296 a).length = (dig 4294967296 b).length
  · obtain ⟨t, ht, hR⟩ := lfix_ind (B := ratio_nat_cmp_l6 (nI (dig 4294967296 a)) (nI (dig 4294967296 b))) (fun s => (s + 1).toNat)
      (fun s => ∃ k : Nat, s = (k : Int) - 1 ∧ k ≤ (dig 4294967296 a).length ∧ ∀ (j : Nat) (h : j < (dig 4294967296 a).length) (h' : j < (dig 4294967296 b).length), k ≤ j → (dig 4294967296 a)[j] = (dig 4294967296 b)[j])
      (fun t => (t = .inl () ∧ cmpN a b = 0) ∨ t = .inr (cmpN a b)) (by
        rintro s ⟨k, rfl, hk, heq⟩
        unfold ratio_nat_cmp_l6
        by_cases h0 : k = 0
        · right
          subst h0
          refine ⟨_, by rw [if_neg (by omega)], .inl ⟨rfl, cmp_eq (by omega) hlen (fun j h h' => heq j h h' (by omega))⟩⟩
        · have h1 : k - 1 < (dig 4294967296 a).length := by omega
          have h2 : k - 1 < (dig 4294967296 b).length := by omega
          have hat := cmp_at (b := 4294967296) (by omega) hlen h1 h2 (fun j h h' hj => heq j h h' (by omega))
          rw [if_pos (by omega), show ((k : Int) - 1) = ((k - 1 : Nat) : Int) from by omega, idx_nI h1, bnd_s, idx_nI h2, bnd_s]
          by_cases he : (dig 4294967296 a)[k - 1] = (dig 4294967296 b)[k - 1]
          · left
            refine ⟨((k - 1 : Nat) : Int) - 1, by rw [if_pos (by rw [he]), w64_id (by omega) (by omega)], ⟨k - 1, rfl, by omega, fun j h h' hj => ?_⟩, by omega⟩
            rcases Nat.lt_or_ge (k - 1) j with hq | hq
            · exact heq j h h' (by omega)
            · obtain rfl : j = k - 1 := by omega
              exact he
          · right
            rw [if_neg (by omega), bnd_s, bnd_s]
            by_cases hlt : (dig 4294967296 a)[k - 1] < (dig 4294967296 b)[k - 1]
            · exact ⟨_, by rw [if_pos (by omega)], .inr (by rw [hat.1 hlt])⟩
            · exact ⟨_, by rw [if_neg (by omega)], .inr (by rw [hat.2 (by omega)])⟩)
      (((dig 4294967296 a).length : Int) - 1) ⟨_, rfl, Nat.le_refl _, fun j h h' hj => by omega⟩
    rw [if_pos (by omega), jn_d, w64_id (by omega) (by omega), ht, bnd_s]
    rcases hR with ⟨rfl, h0⟩ | rfl
    · simp only [h0]
    · rfl
  · rw [if_neg (by omega)]
    by_cases hlt : (dig 4294967296 a).length < (dig 4294967296 b).length
    · rw [if_pos (by omega), (cmp_len (b := 4294967296) (by omega) rfl rfl).1 hlt]
    · rw [if_neg (by omega), (cmp_len (b := 4294967296) (by omega) rfl rfl).2 (by omega)]
theorem bv_wrap (v : BitVec 32) : BitVec.ofInt 32 (IntKind.u32.wrap (v.toNat : Int)) = v := by
  have : IntKind.u32.wrap (v.toNat : Int) = (v.toNat : Int) := wrap_nat .u32 v.toNat (by simp only [top]; omega)
  rw [this, BitVec.ofInt_natCast, BitVec.ofNat_toNat, BitVec.setWidth_eq]
theorem nx (x : Int) : bit_and .u32 (bit_xor .u32 (if IntKind.signed .u32 then -1 else IntKind.max .u32) x) x = 0 := by
  unfold bit_and bit_xor
  show IntKind.u32.wrap (((BitVec.ofInt 32 (IntKind.u32.wrap ((BitVec.ofInt 32 _ ^^^ BitVec.ofInt 32 x).toNat : Int)) &&& BitVec.ofInt 32 x).toNat : Nat) : Int) = 0
  rw [bv_wrap, show BitVec.ofInt 32 (if IntKind.signed .u32 = true then -1 else IntKind.max .u32) = BitVec.allOnes 32 from by decide]
  generalize BitVec.ofInt 32 x = X
  have : (BitVec.allOnes 32 ^^^ X) &&& X = 0#32 := by
    rw [BitVec.allOnes_xor]
    ext i hi
    simp
  rw [this]; rfl
theorem and_0 (x : Int) : bit_and .u32 x 0 = 0 := by
  unfold bit_and
  show IntKind.u32.wrap (((BitVec.ofInt 32 x &&& BitVec.ofInt 32 0).toNat : Nat) : Int) = 0
  rw [show BitVec.ofInt 32 0 = 0#32 from rfl, BitVec.and_zero]; rfl
theorem sub_self (x : Int) : math_bits_Sub32 x x 0 = some (0, 0) := by
  unfold math_bits_Sub32
  rw [Int.sub_self, show wu32 (wu32 0 - 0) = 0 from by decide, nx, and_0]
  decide
theorem subW_self (l : List Nat) (h9 : l.length ≤ 1000000) : ratio_nat_sub (nI l) (nI l) = some [] := by
  obtain ⟨t, ht, hR⟩ := lfix_ind (B := ratio_nat_sub_l4 (nI l) (nI l)) (fun s => l.length - s.2.2.toNat)
    (fun s => ∃ i : Nat, i ≤ l.length ∧ s = (nI (List.replicate l.length 0), 0, (i : Int)))
    (fun t => t = nI (List.replicate l.length 0)) (by
      rintro s ⟨i, hi, rfl⟩
      unfold ratio_nat_sub_l4
      simp only [jn_d, nI_len]
      by_cases hlt : i < l.length
      · left
        refine ⟨_, ?_, ⟨i + 1, by omega, rfl⟩, by simp only [Int.toNat_natCast]; omega⟩
        rw [if_pos (by omega), if_pos (by omega), idx_nI hlt, bnd_s, bnd_s, sub_self, bnd_s, idx_nI (by rw [List.length_replicate]; exact hlt), bnd_s]
        simp only []
        rw [show (0 : Int) = ((0 : Nat) : Int) from rfl, setI_nI, w64_succ (by omega)]
        congr 3
        rw [List.set_replicate_self]
      · right
        rw [if_neg (by omega)]
        exact ⟨_, rfl, rfl⟩)
    (nI (List.replicate l.length 0), 0, ((0 : Nat) : Int)) ⟨0, by omega, rfl⟩
  unfold ratio_nat_sub
  simp only [jn_d, nI_len, Int.toNat_natCast, zeros_nI]
  rw [gd_t ⟨by omega, by omega⟩]
  have ht' : lfix (ratio_nat_sub_l4 (nI l) (nI l)) (nI (List.replicate l.length 0), 0, 0) = some t := ht
  rw [ht', bnd_s, hR, norm_nI _ (by rw [List.length_replicate]; omega), bnd_s, nrm_zeros _ (by simp)]
  rfl
theorem addW_nil : ratio_nat_add [] [] = some [] := by
  unfold ratio_nat_add
  simp only [jn_d, List.length_nil]
  rw [if_neg (by decide), gd_t (by decide)]
  have e : lfix (ratio_nat_add_l6 (([] : List Int), ([] : List Int))) (List.replicate (Int.toNat (w64 (((0 : Nat) : Int) + 1))) (0 : Int), 0, 0) = some ([0], 0) := by
    rw [lfix_eq]
    have : ratio_nat_add_l6 (([] : List Int), ([] : List Int)) (List.replicate (Int.toNat (w64 (((0 : Nat) : Int) + 1))) (0 : Int), 0, 0) = some (.inr ([0], 0)) := by
      unfold ratio_nat_add_l6
      rw [if_neg (by decide)]
      rw [show Int.toNat (w64 (((0 : Nat) : Int) + 1)) = 1 from by decide]; rfl
    rw [this]
  rw [e, bnd_s, show idx (([0], 0) : List Int × Int).1 ((0 : Nat) : Int) = some 0 from rfl, bnd_s]
  have := norm_nI [0] (by simp)
  rw [show nI [0] = [0] from rfl] at this
  show bnd (ratio_nat_norm [0]) _ = _
  rw [this, bnd_s]; rfl
theorem or_0 (n : Nat) (h : n < 18446744073709551616) : bit_or .u64 0 (n : Int) = n := by
  unfold bit_or
  show IntKind.u64.wrap (((BitVec.ofInt 64 0 ||| BitVec.ofInt 64 (n : Int)).toNat : Nat) : Int) = n
  rw [show BitVec.ofInt 64 0 = 0#64 from rfl, BitVec.zero_or, BitVec.ofInt_natCast, BitVec.toNat_ofNat, Nat.mod_eq_of_lt (by omega)]
  exact wu64_m h
theorem wordW_1 (l : List Nat) (hl : ∀ x ∈ l, x < 4294967296) (h1 : l.length ≤ 1000000) : ratio_nat_word (nI l) 1 = some (nI (nrm l), 0) := by
  have w1 : wu64 1 = 1 := by decide
  obtain ⟨t, ht, hR⟩ := lfix_ind (B := ratio_nat_word_l4 (nI l) 1) (fun s => (s.2.2 + 1).toNat)
    (fun s => ∃ (o : List Nat) (k : Nat), s = (nI o, 0, (k : Int) - 1) ∧ o.length = l.length ∧ k ≤ l.length ∧ ∀ (j : Nat) (h : j < o.length) (h' : j < l.length), k ≤ j → o[j] = l[j])
    (fun t => t = (nI l, 0)) (by
      rintro s ⟨o, k, rfl, hC1, hC2, hC3⟩
      unfold ratio_nat_word_l4
      by_cases hk : k = 0
      · right
        subst hk
        refine ⟨_, by simp only []; rw [if_neg (by omega)], ?_⟩
        rw [List.ext_getElem hC1 (fun j h h' => hC3 j h h' (by omega))]
      · left
        have h1' : k - 1 < l.length := by omega
        have h2' : k - 1 < o.length := by omega
        have hd := hl _ (List.getElem_mem h1')
        refine ⟨(nI (o.set (k - 1) l[k - 1]), 0, ((k - 1 : Nat) : Int) - 1), ?_, ⟨_, k - 1, rfl, by simp [hC1], by omega, fun j h h' hj => ?_⟩, by simp; omega⟩
        · simp only [w1]
          rw [if_pos (by omega), show ((k : Int) - 1) = ((k - 1 : Nat) : Int) from by omega, idx_nI h1', bnd_s, gd_t (by omega), idx_nI h2', bnd_s, gd_t (by omega)]
          rw [show shl_ .u64 0 32 = 0 from by decide, wu64_m (by omega), or_0 _ (by omega), Int.tdiv_one, wu64_m (by omega), wu32_m hd, setI_nI, Int.tmod_one, w64_id (by omega) (by omega)]
        · rw [List.getElem_set]
          split
          · rename_i he; subst he; rfl
          · exact hC3 j (by simpa using h) h' (by omega))
    (nI (List.replicate l.length 0), 0, (l.length : Int) - 1) ⟨_, _, rfl, by simp, Nat.le_refl _, fun j h h' hj => by omega⟩
  unfold ratio_nat_word
  simp only [jn_d, nI_len, Int.toNat_natCast, zeros_nI]
  rw [gd_t ⟨by omega, by omega⟩, w64_id (by omega) (by omega), ht, bnd_s, hR]
  simp only []
  rw [norm_nI _ h1, bnd_s]
  rfl
theorem oneW : ([1] : List Int) = L32 1 := by unfold L32; rw [dig_one (by omega)]; rfl
theorem natOf_0 : ratio_natOf (wu64 0) = some [] := by
  unfold ratio_natOf
  have := norm_nI [0, 0] (by simp)
  rw [show [wu32 (wu64 0), wu32 (shr_ .u64 (wu64 0) 32)] = nI [0, 0] from by decide, this, bnd_s]; rfl
theorem divW_1 (a : Nat) (h : (dig 4294967296 a).length ≤ 1000000) : ratio_nat_div (L32 a) [1] = some (L32 a, []) := by
  unfold ratio_nat_div
  rw [oneW, cmpW_L a 1 h, bnd_s, ← oneW]
  by_cases h0 : a = 0
  · subst h0
    rw [if_pos (by decide)]; rfl
  · rw [if_neg (by simp only [cmpN]; split <;> (try split) <;> omega)]
    simp only [List.length_singleton]
    rw [if_pos (by decide), show idx ([1] : List Int) 0 = some 1 from rfl, bnd_s]
    unfold L32
    rw [wordW_1 _ (dig_lt (by omega) a) h, bnd_s]
    simp only []
    rw [natOf_0, bnd_s, nrm_dig (by omega)]
theorem gcdW_1 (a : Nat) (h : (dig 4294967296 a).length ≤ 1000000) : ratio_nat_gcd (L32 a) [1] = some [1] := by
  unfold ratio_nat_gcd
  simp only [jn_d]
  have e : lfix ratio_nat_gcd_l1 (L32 a, [1]) = some [1] := by
    rw [lfix_eq]
    have : ratio_nat_gcd_l1 (L32 a, [1]) = some (.inl ([1], [])) := by
      unfold ratio_nat_gcd_l1
      simp only [List.length_singleton]
      rw [if_pos (by decide), divW_1 a h, bnd_s]
    rw [this]
    simp only []
    rw [lfix_eq]
    have : ratio_nat_gcd_l1 (([1] : List Int), ([] : List Int)) = some (.inr [1]) := by
      unfold ratio_nat_gcd_l1
      simp
    rw [this]
  rw [e, bnd_s]
theorem L32_nil {a : Nat} : (L32 a).length = 0 ↔ a = 0 := by
  unfold L32; rw [nI_len, List.length_eq_zero_iff, dig_nil (by omega)]
theorem reducedW (s : Bool) (a : Nat) (h : (dig 4294967296 a).length ≤ 1000000) : ratio_Num_Reduced ⟨s, L32 a, [1]⟩ = some (if a = 0 then ⟨false, [], [1]⟩ else ⟨s, L32 a, [1]⟩) := by
  unfold ratio_Num_Reduced
  simp only [jn_d]
  by_cases h0 : a = 0
  · have := L32_nil.2 h0
    rw [if_pos (by omega), if_pos h0]
  · have : (L32 a).length ≠ 0 := fun e => h0 (L32_nil.1 e)
    rw [if_neg (by omega), if_neg h0, gcdW_1 a h, bnd_s]
    simp only [List.length_singleton]
    rw [if_pos (by decide), show idx ([1] : List Int) 0 = some 1 from rfl, bnd_s, if_pos (by decide)]
def NZ (z : Int) : S_ratio_Num := ⟨decide (z < 0), L32 z.natAbs, [1]⟩
theorem norm_L (a : Nat) (h : (dig 4294967296 a).length ≤ 1000000) : ratio_nat_norm (L32 a) = some (L32 a) := by
  unfold L32; rw [norm_nI _ h, nrm_dig (by omega)]
theorem norm_nil : ratio_nat_norm [] = some [] := norm_nI [] (by simp)
theorem ofW (z : Int) (h : (dig 4294967296 z.natAbs).length ≤ 1000000) : ratio_Of (Z32 z) = some (NZ z) := by
  unfold ratio_Of
  simp only [jn_d, Z32]
  rw [norm_nil, bnd_s]
  simp only [List.length_nil]
  rw [if_pos (by decide), norm_L _ h, bnd_s, reducedW _ _ h, bnd_s]
  congr 1
  split
  · rename_i h0
    have : z = 0 := by omega
    subst this; rfl
  · rfl
theorem mulW_1 (a : Nat) (h : (dig 4294967296 a).length ≤ 1000) : ratio_nat_mul (L32 a) [1] = some (L32 a) := by
  have := mulW_n (dig 4294967296 a) [1] (dig_lt (by omega) a) (by simp) (by simp; omega)
  rw [val_dig (by omega), show val 4294967296 [1] = 1 from by simp [val], Nat.mul_one] at this
  exact this
theorem mulW_11 : ratio_nat_mul [1] [1] = some [1] := by
  have := mulW_1 1 (by rw [dig_one (by omega)]; simp)
  rwa [← oneW] at this
theorem addN (z : Int) (h : (dig 4294967296 z.natAbs).length ≤ 1000) : ∃ s, ratio_Num_Add (NZ z) (NZ (-z)) = some ⟨s, [], [1]⟩ := by
  unfold ratio_Num_Add
  simp only [NZ, Int.natAbs_neg]
  rw [mulW_1 _ h, bnd_s, bnd_s, mulW_11, bnd_s]
  by_cases h0 : z = 0
  · subst h0
    refine ⟨false, ?_⟩
    rw [if_pos (by decide)]
    show bnd (ratio_nat_add [] []) _ = _
    rw [addW_nil, bnd_s]; rfl
  · refine ⟨decide (z < 0), ?_⟩
    rw [if_neg (by by_cases h1 : z < 0 <;> simp [h1] <;> omega), cmpW_L _ _ (by omega), bnd_s]
    have : cmpN z.natAbs z.natAbs = 0 := by simp [cmpN]
    rw [this, if_pos (by decide)]
    unfold L32
    rw [subW_self _ (by omega), bnd_s]
theorem doneN (s : Bool) : ratio_Num_Done ⟨s, [], [1]⟩ = some (Z32 0, 0) := by
  unfold ratio_Num_Done
  have := reducedW s 0 (by decide)
  rw [show L32 0 = [] from rfl, if_pos rfl] at this
  rw [this, bnd_s]
  simp only [jn_d, List.length_nil, List.length_singleton]
  rw [if_neg (by decide), if_neg (by decide), gd_t (by decide), if_neg (by decide), show idx ([1] : List Int) 0 = some 1 from rfl, bnd_s, if_neg (by decide)]
  rfl
theorem largeW (z : Int) (h : (dig 4294967296 z.natAbs).length ≤ 256) : ratio_Large (Z32 z) = some false := by
  unfold ratio_Large
  simp only [jn_d, Z32]
  have hl : (L32 z.natAbs).length ≤ 256 := by unfold L32; rw [nI_len]; exact h
  rw [norm_L _ (by omega), bnd_s, if_neg (by omega), norm_nil, bnd_s]
  rfl
theorem anyLarge_of : ∀ (l : List S_api_Rat), l.length ≤ 1000 → (∀ x ∈ l, ratio_Large x = some false) → exact_anyLarge l = some false := by
  intro l h9 hl
  obtain ⟨t, ht, hR⟩ := lfix_ind (B := exact_anyLarge_l2 l) (fun s => l.length - s.toNat) (fun s => ∃ j : Nat, s = (j : Int) ∧ j ≤ l.length) (fun t => t = .inl ()) (by
    rintro s ⟨j, rfl, hj⟩
    unfold exact_anyLarge_l2
    by_cases hlt : j < l.length
    · left
      refine ⟨((j + 1 : Nat) : Int), ?_, ⟨_, rfl, by omega⟩, by simp only [Int.toNat_natCast]; omega⟩
      rw [if_pos (by omega), idx_nat hlt, bnd_s, hl _ (List.getElem_mem hlt), bnd_s, if_neg (by decide), w64_succ (by omega)]
    · right
      rw [if_neg (by omega)]
      exact ⟨_, rfl, rfl⟩) ((0 : Nat) : Int) ⟨0, rfl, by omega⟩
  unfold exact_anyLarge
  simp only [jn_d]
  have ht' : lfix (exact_anyLarge_l2 l) 0 = some t := ht
  rw [ht', bnd_s, hR]
theorem addE (z : Int) (h : (dig 4294967296 z.natAbs).length ≤ 256) : exact_Add (Z32 z) (Z32 (-z)) = some (Z32 0, 0) := by
  unfold exact_Add
  have h' : (dig 4294967296 (-z).natAbs).length ≤ 256 := by rw [Int.natAbs_neg]; exact h
  rw [anyLarge_of _ (by simp) (by intro x hx; rcases List.mem_cons.1 hx with rfl | hx; exact largeW z h; simp at hx; subst hx; exact largeW (-z) h'), bnd_s, if_neg (by decide), ofW _ (by omega), bnd_s, ofW _ (by omega), bnd_s]
  obtain ⟨s, hs⟩ := addN z (by omega)
  rw [hs, bnd_s, doneN, bnd_s]
theorem signE : exact_Sign (Z32 0) = some (0, 0) := by
  unfold exact_Sign
  rw [anyLarge_of _ (by simp) (by intro x hx; simp at hx; subst hx; exact largeW 0 (by decide)), bnd_s, if_neg (by decide), ofW _ (by decide), bnd_s]
  rfl
end Go.Proofs.Ytjhknbpiaikblaa
