/- Plain laws: the reference's Out and Same of whole numbers. -/
import Derived.Test.YtjhknbpiaikblaaQ21
import Derived.Test.YtjhknbpiaikblaaM7
namespace Go.Proofs.Ytjhknbpiaikblaa
open Go Go.RowKit
theorem wu32_n {n : Nat} (h : n < 4294967296) : wu32 (n : Int) = n := wrap_nat .u32 n (by simp only [top]; omega)
theorem words_L (m : Nat) (h : (dig 65536 m).length ≤ 512) : lidarref01_words (L16 m) = some (L32 m, true) := by
  obtain ⟨t, ht, hR⟩ := lfix_ind (B := lidarref01_words_l5 (L16 m)) (fun s => (dig 65536 m).length + 2 - s.2.toNat)
    (fun s => ∃ (o : List Nat) (i : Nat), s = (nI o, (i : Int)) ∧ o.length ≤ i ∧ i ≤ (dig 65536 m).length + 1 ∧ dig 4294967296 m = o ++ dig 4294967296 (m / 65536 ^ i))
    (fun t => t = L32 m) (by
      rintro s ⟨o, i, rfl, hC0, hC1, hC2⟩
      unfold lidarref01_words_l5 L16
      simp only [jn_d, nI_len]
      by_cases hi : i < (dig 65536 m).length
      · left
        have hst := words_step hi
        have hd := L16_lt (a := m) _ (List.getElem_mem hi)
        rw [if_pos (by omega), idx_nI hi, bnd_s, gd_t (by omega), show w64 ((i : Int) + 1) = ((i + 1 : Nat) : Int) from w64_succ (by omega)]
        have hq : m / 65536 ^ (i + 1) % 65536 < 65536 := Nat.mod_lt _ (by omega)
        refine ⟨(nI (o ++ [(dig 65536 m)[i] + m / 65536 ^ (i + 1) % 65536 * 65536]), ((i + 2 : Nat) : Int)), ?_, ⟨_, _, rfl, by simp; omega, by omega, by rw [hC2, hst]; simp⟩, by simp only [Int.toNat_natCast]; omega⟩
        have e2 : w64 ((i : Int) + 2) = ((i + 2 : Nat) : Int) := by rw [w64_id (by omega) (by omega)]; omega
        rw [e2]
        by_cases hj : i + 1 < (dig 65536 m).length
        · have hd2 := L16_lt (a := m) _ (List.getElem_mem hj)
          rw [if_pos (by omega), idx_nI hj, bnd_s, gd_t (by omega), wu32_n (by omega), wu32_n (n := (dig 65536 m)[i + 1]) (by omega)]
          rw [show ((dig 65536 m)[i + 1] : Int) * 65536 = (((dig 65536 m)[i + 1] * 65536 : Nat) : Int) from by omega, wu32_n (by omega), ← Int.natCast_add, wu32_n (by omega), dig_get (by omega) (i + 1) m hj]
          simp [nI]
        · rw [if_neg (by omega), wu32_n (by omega), words_zero hj]
          simp [nI]
      · right
        rw [if_neg (by omega)]
        exact ⟨_, rfl, by unfold L32; rw [hC2, words_last hi, List.append_nil]⟩)
    (nI [], ((0 : Nat) : Int)) ⟨[], 0, rfl, by simp, by omega, by simp⟩
  unfold lidarref01_words
  have ht' : lfix (lidarref01_words_l5 (L16 m)) ([], 0) = some t := ht
  rw [if_neg (by unfold L16; rw [nI_len]; omega)]
  simp only [jn_d]
  rw [ht', bnd_s, hR]
theorem out_Q (z : Int) (h : (dig 65536 z.natAbs).length ≤ 512) : lidarref01_Out (QZ z) = some (Z32 z, 0) := by
  unfold lidarref01_Out
  simp only [QZ, Z16_L, jn_d]
  have h1 := words_L 1 (by rw [dig_one (by omega)]; simp)
  rw [← one_L] at h1
  rw [words_L _ h, bnd_s, h1, bnd_s, if_pos rfl]
  simp only [List.length_singleton]
  rw [if_neg (by simp), if_pos (by decide), show idx ([1] : List Int) 0 = some 1 from rfl, bnd_s]
  rw [if_pos (by decide)]
  rfl
theorem lfix_same {β γ : Type} (n : Nat) (hn : n ≤ 1000000) (B : Int → Option (Sum Int (Sum Unit γ))) (h1 : ∀ j : Nat, j < n → B (j : Int) = some (.inl ((j + 1 : Nat) : Int))) (h2 : B (n : Int) = some (.inr (.inl ()))) : lfix B 0 = some (.inl ()) := by
  obtain ⟨t, ht, hR⟩ := lfix_ind (B := B) (fun s => n - s.toNat) (fun s => ∃ j : Nat, s = (j : Int) ∧ j ≤ n) (fun t => t = .inl ()) (by
    rintro s ⟨j, rfl, hj⟩
    by_cases hlt : j < n
    · left; exact ⟨_, h1 j hlt, ⟨_, rfl, by omega⟩, by simp only [Int.toNat_natCast]; omega⟩
    · right; obtain rfl : j = n := by omega
      exact ⟨_, h2, rfl⟩) ((0 : Nat) : Int) ⟨0, rfl, by omega⟩
  rw [hR] at ht; exact ht
theorem same_Q (z : Int) (h : (dig 65536 z.natAbs).length ≤ 512) : lidarref01_Same (Z32 z) (QZ z) = some true := by
  unfold lidarref01_Same
  rw [out_Q z h, bnd_s]
  simp only [jn_d]
  rw [if_pos trivial, if_pos (by simp), if_pos trivial]
  have hl : (dig 4294967296 z.natAbs).length ≤ 1000000 := by
    have h1 : z.natAbs < 65536 ^ (dig 65536 z.natAbs).length := by have := val_lt (b := 65536) _ (L16_lt (a := z.natAbs)); rwa [val_dig (by omega)] at this
    have h2 : 65536 ^ (dig 65536 z.natAbs).length ≤ 4294967296 ^ (dig 65536 z.natAbs).length := Nat.pow_le_pow_left (by omega) _
    have := dig_len (b := 4294967296) (by omega) _ _ (Nat.lt_of_lt_of_le h1 h2)
    omega
  have hn : (Z32 z).Num = nI (dig 4294967296 z.natAbs) := rfl
  have hd : (Z32 z).Den = [] := rfl
  rw [if_neg (by simp)]
  have e1 : lfix (lidarref01_Same_l5 (Z32 z) (Z32 z, 0)) 0 = some (.inl ()) := by
    refine lfix_same (β := Unit) (dig 4294967296 z.natAbs).length hl _ (fun j hj => ?_) ?_
    · unfold lidarref01_Same_l5
      rw [hn, nI_len, if_pos (by omega), idx_nI hj, bnd_s, bnd_s, if_pos rfl, w64_succ (by omega)]
    · unfold lidarref01_Same_l5
      rw [hn, nI_len, if_neg (by omega)]
  have e2 : lfix (lidarref01_Same_l10 (Z32 z) (Z32 z, 0)) 0 = some (.inl ()) := by
    rw [lfix_eq]
    have : lidarref01_Same_l10 (Z32 z) (Z32 z, 0) 0 = some (.inr (.inl ())) := by
      unfold lidarref01_Same_l10
      rw [hd]; rfl
    rw [this]
  rw [e1, bnd_s]
  simp only []
  rw [e2, bnd_s]
end Go.Proofs.Ytjhknbpiaikblaa
