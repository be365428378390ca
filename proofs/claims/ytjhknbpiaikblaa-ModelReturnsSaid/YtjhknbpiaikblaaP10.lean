/- Plain laws: the two sums of bits are one. -/
import Derived.Test.YtjhknbpiaikblaaP9
namespace Go.Proofs.Ytjhknbpiaikblaa
open Go Go.RowKit
theorem bv32 (n : Nat) (h : n < 4294967296) : (BitVec.ofInt 32 (n : Int)).toNat = n := by
  rw [BitVec.ofInt_natCast, BitVec.toNat_ofNat]; exact Nat.mod_eq_of_lt h
theorem wrap32 (n : Nat) (h : n < 4294967296) : IntKind.wrap .u32 (n : Int) = n := by rw [IntKind.wrap_u32]; omega
theorem and32 {a b : Nat} (ha : a < 4294967296) (hb : b < 4294967296) : bit_and .u32 (a : Int) (b : Int) = ((a &&& b : Nat) : Int) := by
  unfold bit_and
  show IntKind.wrap .u32 ((BitVec.ofInt 32 (a : Int) &&& BitVec.ofInt 32 (b : Int)).toNat : Int) = _
  rw [BitVec.toNat_and, bv32 a ha, bv32 b hb, wrap32 _ (Nat.lt_of_le_of_lt Nat.and_le_left ha)]
theorem or32 {a b : Nat} (ha : a < 4294967296) (hb : b < 4294967296) : bit_or .u32 (a : Int) (b : Int) = ((a ||| b : Nat) : Int) := by
  unfold bit_or
  show IntKind.wrap .u32 ((BitVec.ofInt 32 (a : Int) ||| BitVec.ofInt 32 (b : Int)).toNat : Int) = _
  rw [BitVec.toNat_or, bv32 a ha, bv32 b hb, wrap32 _ (Nat.or_lt_two_pow (n := 32) ha hb)]
theorem xor32 {a b : Nat} (ha : a < 4294967296) (hb : b < 4294967296) : bit_xor .u32 (a : Int) (b : Int) = ((a ^^^ b : Nat) : Int) := by
  unfold bit_xor
  show IntKind.wrap .u32 ((BitVec.ofInt 32 (a : Int) ^^^ BitVec.ofInt 32 (b : Int)).toNat : Int) = _
  rw [BitVec.toNat_xor, bv32 a ha, bv32 b hb, wrap32 _ (Nat.xor_lt_two_pow (n := 32) ha hb)]
theorem shrN (K : IntKind) (a j : Nat) (hj : j ≤ K.bits) : shr_ K (a : Int) (j : Int) = ((a >>> j : Nat) : Int) := by
  unfold shr_
  rw [Int.toNat_natCast, Nat.min_eq_left hj, Int.fdiv_eq_ediv_of_nonneg _ (Int.le_of_lt (Int.pow_pos (by omega))), Nat.shiftRight_eq_div_pow]
  simp
theorem shl1 {a : Nat} : shl_ .u32 (a : Int) 1 = (((a <<< 1) % 4294967296 : Nat) : Int) := by
  unfold shl_
  rw [show min (Int.toNat 1) IntKind.u32.bits = 1 from rfl, IntKind.wrap_u32, Nat.shiftLeft_eq]
  omega
theorem wu32_nat {n : Nat} (h : n < 4294967296) : wu32 (n : Int) = n := wrap32 n h
/-- One is the other's mirror, but for the bits of a byte that are still to come. -/
def Mir (c d b k : Nat) : Prop := c < 4294967296 ∧ d < 4294967296 ∧ ∀ i, i < 32 → c.testBit i = (d.testBit (31 - i) ^^ b.testBit (i + k))
theorem poly_mir : ∀ i, i < 32 → Nat.testBit 3988292384 i = Nat.testBit 79764919 (31 - i) := by decide +kernel
theorem tb_hi {d i : Nat} (h : d < 4294967296) (hi : 32 ≤ i) : d.testBit i = false := Nat.testBit_lt_two_pow (Nat.lt_of_lt_of_le (show d < 2 ^ 32 from h) (Nat.pow_le_pow_right (by omega) hi))
theorem shl_bit {d i : Nat} (hi : i < 32) : ((d <<< 1) % 4294967296).testBit i = (decide (1 ≤ i) && d.testBit (i - 1)) := by
  rw [show (4294967296 : Nat) = 2 ^ 32 from rfl, Nat.testBit_mod_two_pow, Nat.testBit_shiftLeft]
  simp [hi]
theorem bit0 (c : Nat) : c &&& 1 = (c.testBit 0).toNat := by
  rw [Nat.and_one_is_mod, Nat.testBit_zero]
  rcases Nat.mod_two_eq_zero_or_one c with h | h <;> rw [h] <;> rfl
theorem bit31 {d : Nat} (h : d < 4294967296) : d >>> 31 = (d.testBit 31).toNat := by
  rw [Nat.testBit, Nat.and_comm, Nat.and_one_is_mod, Nat.shiftRight_eq_div_pow]
  have : d / 2 ^ 31 < 2 := by omega
  rcases (show d / 2 ^ 31 = 0 ∨ d / 2 ^ 31 = 1 by omega) with h | h <;> rw [h] <;> rfl
theorem bitk (b k : Nat) : (b >>> k) &&& 1 = (b.testBit k).toNat := by
  rw [bit0, Nat.testBit_shiftRight]; simp
def lstep (c : Nat) : Nat := if c.testBit 0 = true then (c >>> 1) ^^^ 3988292384 else c >>> 1
def rstep (b k d : Nat) : Nat := if b.testBit k = d.testBit 31 then (d <<< 1) % 4294967296 else ((d <<< 1) % 4294967296) ^^^ 79764919
theorem mir_step {c d b k : Nat} (hb : b < 256) (h : Mir c d b k) : Mir (lstep c) (rstep b k d) b (k + 1) := by
  obtain ⟨hc, hd, hm⟩ := h
  have h0 := hm 0 (by omega)
  simp only [Nat.zero_add, Nat.sub_zero] at h0
  have s1 : c >>> 1 < 4294967296 := Nat.lt_of_le_of_lt (Nat.shiftRight_le c 1) hc
  have s2 : (d <<< 1) % 4294967296 < 4294967296 := Nat.mod_lt _ (by omega)
  have key : ∀ i, i < 32 → (c >>> 1).testBit i = (((d <<< 1) % 4294967296).testBit (31 - i) ^^ b.testBit (i + (k + 1))) := by
    intro i hi
    rw [shl_bit (by omega), Nat.testBit_shiftRight]
    by_cases h31 : i = 31
    · subst h31
      rw [tb_hi hc (by omega), Nat.testBit_lt_two_pow (Nat.lt_of_lt_of_le (show b < 2 ^ 8 from hb) (Nat.pow_le_pow_right (by omega) (by omega)))]
      simp
    · rw [Nat.add_comm 1 i, hm (i + 1) (by omega), show 31 - i - 1 = 31 - (i + 1) by omega, show i + 1 + k = i + (k + 1) by omega]
      simp [show 1 ≤ 31 - i by omega]
  unfold lstep rstep
  by_cases hz : b.testBit k = d.testBit 31
  · have : c.testBit 0 = false := by rw [h0, hz]; simp
    rw [if_neg (by simp [this]), if_pos hz]
    exact ⟨s1, s2, key⟩
  · have : c.testBit 0 = true := by rw [h0]; revert hz; cases b.testBit k <;> cases d.testBit 31 <;> simp
    rw [if_pos this, if_neg hz]
    refine ⟨Nat.xor_lt_two_pow (n := 32) s1 (by decide), Nat.xor_lt_two_pow (n := 32) s2 (by decide), fun i hi => ?_⟩
    rw [Nat.testBit_xor, Nat.testBit_xor, key i hi, poly_mir i hi]
    cases ((d <<< 1) % 4294967296).testBit (31 - i) <;> cases b.testBit (i + (k + 1)) <;> simp
theorem mir_byte {c d b : Nat} (hb : b < 256) (h : Mir c d 0 0) : Mir (c ^^^ b) d b 0 := by
  obtain ⟨hc, hd, hm⟩ := h
  refine ⟨Nat.xor_lt_two_pow (n := 32) hc (show b < 2 ^ 32 by omega), hd, fun i hi => ?_⟩
  rw [Nat.testBit_xor, hm i hi]; simp
theorem mir_end {c d b : Nat} (hb : b < 256) (h : Mir c d b 8) : Mir c d 0 0 := by
  obtain ⟨hc, hd, hm⟩ := h
  refine ⟨hc, hd, fun i hi => ?_⟩
  rw [hm i hi, Nat.testBit_lt_two_pow (Nat.lt_of_lt_of_le (show b < 2 ^ 8 from hb) (Nat.pow_le_pow_right (by omega) (by omega)))]
  simp
/-! ### the loops -/
theorem link_bit {c k : Nat} (hc : c < 4294967296) (hk : k < 8) : link_Checksum_l7 ((c : Int), (k : Int)) = some (.inl (((lstep c : Nat) : Int), ((k + 1 : Nat) : Int))) := by
  unfold link_Checksum_l7 lstep
  simp only [jn_d]
  rw [if_pos (by omega), show (1 : Int) = ((1 : Nat) : Int) from rfl, and32 hc (by omega), shrN _ _ _ (by decide), show (3988292384 : Int) = ((3988292384 : Nat) : Int) from rfl, xor32 (Nat.lt_of_le_of_lt (Nat.shiftRight_le c 1) hc) (by omega), bit0, ← Int.natCast_add, w64_nat (by omega)]
  cases h : c.testBit 0 <;> simp
theorem ref_bit {p : List Int} {j : Nat} {z : Int} {b d k : Nat} (hj : j < p.length) (hb : p[j] = (b : Int)) (hb9 : b < 256) (hd : d < 4294967296) (hk : k < 8) : lidarref02_Checksum_l6 p (z, (j : Int)) ((d : Int), (k : Int)) = some (.inl (((rstep b k d : Nat) : Int), ((k + 1 : Nat) : Int))) := by
  unfold lidarref02_Checksum_l6 rstep
  simp only [jn_d]
  have hbk : b >>> k < 4294967296 := Nat.lt_of_le_of_lt (Nat.shiftRight_le b k) (by omega)
  rw [if_pos (by omega), idx_nat hj, bnd_s, gd_t (by omega), hb, shrN _ _ _ (by show k ≤ 8; omega), wu32_nat hbk, show bit_and .u32 ((b >>> k : Nat) : Int) 1 = (((b >>> k) &&& 1 : Nat) : Int) from and32 (b := 1) hbk (by omega), bitk, show shr_ .u32 (d : Int) 31 = ((d >>> 31 : Nat) : Int) from shrN .u32 d 31 (by decide), bit31 hd, shl1, show (79764919 : Int) = ((79764919 : Nat) : Int) from rfl, xor32 (Nat.mod_lt _ (by omega)) (by omega), w64_succ (by omega)]
  cases h : b.testBit k <;> cases h' : d.testBit 31 <;> simp
theorem byte_both {p : List Int} {j : Nat} {z : Int} {b : Nat} (hj : j < p.length) (hb : p[j] = (b : Int)) (hb9 : b < 256) : ∀ (m c d k : Nat), 8 - k = m → k ≤ 8 → Mir c d b k →
    ∃ c' d' : Nat, Mir c' d' 0 0 ∧ lfix link_Checksum_l7 ((c : Int), (k : Int)) = some (c' : Int) ∧ lfix (lidarref02_Checksum_l6 p (z, (j : Int))) ((d : Int), (k : Int)) = some (d' : Int) := by
  intro m
  induction m with
  | zero =>
    intro c d k hm hk h
    obtain rfl : k = 8 := by omega
    refine ⟨c, d, mir_end hb9 h, ?_, ?_⟩
    · rw [lfix_eq]; unfold link_Checksum_l7; simp only; rw [if_neg (by omega)]
    · rw [lfix_eq]; unfold lidarref02_Checksum_l6; simp only; rw [if_neg (by omega)]
  | succ m ih =>
    intro c d k hm hk h
    obtain ⟨c', d', h1, h2, h3⟩ := ih (lstep c) (rstep b k d) (k + 1) (by omega) (by omega) (mir_step hb9 h)
    refine ⟨c', d', h1, ?_, ?_⟩
    · rw [lfix_eq, link_bit h.1 (by omega)]; exact h2
    · rw [lfix_eq, ref_bit hj hb hb9 h.2.1 (by omega)]; exact h3
theorem bytes_both {p : List Int} (hp : p.length ≤ 4611686018427387903) (hB : ∀ x ∈ p, isB x) : ∀ (m c d j : Nat), p.length - j = m → j ≤ p.length → Mir c d 0 0 →
    ∃ c' d' : Nat, Mir c' d' 0 0 ∧ lfix (link_Checksum_l3 p) ((c : Int), (j : Int)) = some (c' : Int) ∧ lfix (lidarref02_Checksum_l3 p) ((d : Int), (j : Int)) = some (d' : Int) := by
  intro m
  induction m with
  | zero =>
    intro c d j hm hj h
    refine ⟨c, d, h, ?_, ?_⟩
    · rw [lfix_eq]; unfold link_Checksum_l3; simp only; rw [if_neg (by omega)]
    · rw [lfix_eq]; unfold lidarref02_Checksum_l3; simp only; rw [if_neg (by omega)]
  | succ m ih =>
    intro c d j hm hj h
    have hlt : j < p.length := by omega
    have hx := hB p[j] (List.getElem_mem hlt)
    unfold isB at hx
    obtain ⟨b, hb⟩ : ∃ b : Nat, p[j] = (b : Int) := ⟨p[j].toNat, by omega⟩
    have hb9 : b < 256 := by omega
    obtain ⟨c1, d1, h1, h2, h3⟩ := byte_both (z := (d : Int)) hlt hb hb9 8 (c ^^^ b) d 0 rfl (by omega) (mir_byte hb9 h)
    obtain ⟨c', d', h4, h5, h6⟩ := ih c1 d1 (j + 1) (by omega) (by omega) h1
    refine ⟨c', d', h4, ?_, ?_⟩
    · have e : link_Checksum_l3 p ((c : Int), (j : Int)) = some (.inl ((c1 : Int), ((j + 1 : Nat) : Int))) := by
        unfold link_Checksum_l3
        simp only [jn_d]
        rw [if_pos (by omega), idx_nat hlt, bnd_s, hb, wu32_nat (by omega), xor32 h.1 (by omega)]
        rw [show ((0 : Nat) : Int) = (0 : Int) from rfl] at h2
        rw [h2, bnd_s, w64_succ (by omega)]
      rw [lfix_eq, e]; exact h5
    · have e : lidarref02_Checksum_l3 p ((d : Int), (j : Int)) = some (.inl ((d1 : Int), ((j + 1 : Nat) : Int))) := by
        unfold lidarref02_Checksum_l3
        simp only [jn_d]
        rw [show ((0 : Nat) : Int) = (0 : Int) from rfl] at h3
        rw [if_pos (by omega), h3, bnd_s, w64_succ (by omega)]
      rw [lfix_eq, e]; exact h6
/-- The mirror, made bit by bit. -/
theorem turn_loop {d : Nat} (hd : d < 4294967296) : ∀ (m k v o : Nat), 32 - k = m → k ≤ 32 → v = d >>> k → o < 2 ^ k → (∀ i, i < k → o.testBit i = d.testBit (k - 1 - i)) →
    ∃ r : Nat, lfix lidarref02_Checksum_l16 ((v : Int), (o : Int), (k : Int)) = some (r : Int) ∧ r < 4294967296 ∧ ∀ i, i < 32 → r.testBit i = d.testBit (31 - i) := by
  intro m
  induction m with
  | zero =>
    intro k v o hm hk hv ho h
    obtain rfl : k = 32 := by omega
    refine ⟨o, ?_, ho, fun i hi => h i hi⟩
    rw [lfix_eq]; unfold lidarref02_Checksum_l16; simp only; rw [if_neg (by omega)]
  | succ m ih =>
    intro k v o hm hk hv ho h
    have hv9 : v < 4294967296 := by rw [hv]; exact Nat.lt_of_le_of_lt (Nat.shiftRight_le d k) hd
    have hpw : 2 ^ (k + 1) ≤ 2 ^ 32 := Nat.pow_le_pow_right (by omega) (by omega)
    have ho2 : o <<< 1 < 2 ^ (k + 1) := by rw [Nat.shiftLeft_eq, Nat.pow_succ]; omega
    have hmod : (o <<< 1) % 4294967296 = o <<< 1 := Nat.mod_eq_of_lt (Nat.lt_of_lt_of_le ho2 hpw)
    have h1b : v &&& 1 < 2 ^ (k + 1) := by rw [bit0]; have := Nat.pow_le_pow_right (n := 2) (by omega) (show 1 ≤ k + 1 by omega); have := Bool.toNat_lt (v.testBit 0); omega
    obtain ⟨r, h1, h2⟩ := ih (k + 1) (v >>> 1) ((o <<< 1) ||| (v &&& 1)) (by omega) (by omega) (by rw [hv, Nat.shiftRight_add]) (Nat.or_lt_two_pow ho2 h1b) (by
      intro i hi
      rw [Nat.testBit_or, Nat.testBit_shiftLeft]
      by_cases h0 : i = 0
      · subst h0
        rw [Nat.testBit_and]
        simp only [hv, Nat.testBit_shiftRight]
        simp
      · have hq : (v &&& 1).testBit i = false := by
          rw [bit0]
          cases v.testBit 0
          · simp
          · show Nat.testBit 1 i = false
            exact Nat.testBit_lt_two_pow (by have := Nat.pow_le_pow_right (n := 2) (by omega) (show 1 ≤ i by omega); omega)
        rw [hq, h (i - 1) (by omega)]
        simp only [show i ≥ 1 by omega, decide_true, Bool.true_and, Bool.or_false]
        congr 1; omega)
    refine ⟨r, ?_, h2⟩
    have e : lidarref02_Checksum_l16 ((v : Int), (o : Int), (k : Int)) = some (.inl (((v >>> 1 : Nat) : Int), ((((o <<< 1) ||| (v &&& 1)) : Nat) : Int), ((k + 1 : Nat) : Int))) := by
      unfold lidarref02_Checksum_l16
      simp only
      rw [if_pos (by omega), shl1, hmod]
      rw [show shr_ .u32 (v : Int) 1 = ((v >>> 1 : Nat) : Int) from shrN .u32 v 1 (by decide), show bit_and .u32 (v : Int) 1 = ((v &&& 1 : Nat) : Int) from and32 (b := 1) hv9 (by omega), or32 (Nat.lt_of_lt_of_le ho2 hpw) (Nat.lt_of_lt_of_le h1b hpw), w64_succ (by omega)]
    rw [lfix_eq, e]; exact h1
theorem checksum_both {p : List Int} (hp : p.length ≤ 4611686018427387903) (hB : ∀ x ∈ p, isB x) : ∃ c : Int, link_Checksum p = some c ∧ lidarref02_Checksum p = some c := by
  obtain ⟨c, d, hm, h1, h2⟩ := bytes_both hp hB p.length 4294967295 4294967295 0 (by omega) (by omega) ⟨by omega, by omega, by decide +kernel⟩
  obtain ⟨r, h3, h4, h5⟩ := turn_loop hm.2.1 32 0 d 0 rfl (by omega) rfl (by decide) (fun i hi => absurd hi (by omega))
  have e : r = c := by
    apply Nat.eq_of_testBit_eq
    intro i
    by_cases hi : i < 32
    · rw [h5 i hi, hm.2.2 i hi]; simp
    · rw [tb_hi h4 (by omega), tb_hi hm.1 (by omega)]
  subst e
  refine ⟨bit_xor .u32 (if IntKind.signed .u32 then -1 else IntKind.max .u32) (r : Int), ?_, ?_⟩
  rotate_left
  · unfold lidarref02_Checksum
    simp only [jn_d]
    rw [show lfix (lidarref02_Checksum_l3 p) (4294967295, 0) = _ from h2, bnd_s, show lfix lidarref02_Checksum_l16 ((d : Int), 0, 0) = _ from h3, bnd_s]
  · unfold link_Checksum
    simp only [jn_d]
    rw [show lfix (link_Checksum_l3 p) (4294967295, 0) = _ from h1, bnd_s]
end Go.Proofs.Ytjhknbpiaikblaa
