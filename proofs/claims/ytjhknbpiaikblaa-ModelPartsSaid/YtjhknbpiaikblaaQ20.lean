/- Plain laws on the reference's numbers of limbs of 16 bits. -/
import Derived.Test.YtjhknbpiaikblaaN6
import Derived.Test.YtjhknbpiaikblaaP0
namespace Go.Proofs.Ytjhknbpiaikblaa
open Go Go.RowKit
theorem nI_len {l : List Nat} : (nI l).length = l.length := by simp [nI]
theorem idx_nI {l : List Nat} {j : Nat} (h : j < l.length) : idx (nI l) (j : Int) = some ((l[j] : Nat) : Int) := by
  rw [idx_nat (by rw [nI_len]; exact h)]; simp [nI]
theorem setI_nI {l : List Nat} {j v : Nat} : setI (nI l) (j : Int) (v : Int) = nI (l.set j v) := by rw [setI_nat]; simp [nI, List.map_set]
theorem trim_nI (l : List Nat) : lidarref01_trim (nI l) = some (nI (nrm l)) := by
  unfold lidarref01_trim
  rw [if_pos (by intro x hx; simp [nI] at hx; obtain ⟨a, _, rfl⟩ := hx; omega)]
  congr 3
  simp [nI, Function.comp_def]
theorem tmod16 (a : Nat) : Int.tmod (a : Int) 65536 = ((a % 65536 : Nat) : Int) := by rw [Int.tmod_eq_emod_of_nonneg (by omega)]; omega
theorem tdiv16 (a : Nat) : Int.tdiv (a : Int) 65536 = ((a / 65536 : Nat) : Int) := by rw [Int.tdiv_eq_ediv_of_nonneg (by omega)]; omega
theorem zeros_nI (n : Nat) : (List.replicate n (0 : Int)) = nI (List.replicate n 0) := by simp [nI]
theorem times_n (l r : List Nat) (hl : ∀ x ∈ l, x < 65536) (hr : ∀ x ∈ r, x < 65536) (hb : l.length + r.length ≤ 1000000) :
    lidarref01_times (nI l) (nI r) = some (L16 (val 65536 l * val 65536 r)) := by
  have e : w64 ((((nI l).length : Nat) : Int) + (((nI r).length : Nat) : Int)) = ((l.length + r.length : Nat) : Int) := by rw [nI_len, nI_len, w64_id (by omega) (by omega)]; omega
  obtain ⟨t, ht, out, rfl, hd⟩ := lfix_ind (B := lidarref01_times_l3 (nI l) (nI r)) (fun s => l.length - s.2.toNat)
    (fun s => ∃ (out : List Nat) (i : Nat), s = (nI out, (i : Int)) ∧ out.length = l.length + r.length ∧ i ≤ l.length ∧ (∀ x ∈ out, x < 65536) ∧ (∀ (q : Nat) (h : q < out.length), i + r.length ≤ q → out[q] = 0) ∧ val 65536 out = val 65536 (l.take i) * val 65536 r)
    (fun t => ∃ out, t = nI out ∧ nrm out = dig 65536 (val 65536 l * val 65536 r)) (by
      rintro s ⟨out0, i, rfl, hC1, hC2, hC3, hC4, hC5⟩
      by_cases hi : i < l.length
      · left
        obtain ⟨t, ht, out, cy, rfl, hD1, hD2, hD4, hD5, hD6⟩ := lfix_ind (B := lidarref01_times_l7 (nI r) (nI l) (nI out0, (i : Int))) (fun s => r.length - s.2.2.toNat)
          (fun s => ∃ (out : List Nat) (cy j : Nat), s = (nI out, (cy : Int), (j : Int)) ∧ out.length = l.length + r.length ∧ cy < 65536 ∧ j ≤ r.length ∧ (∀ x ∈ out, x < 65536) ∧ (∀ (q : Nat) (h : q < out.length), i + r.length ≤ q → out[q] = 0) ∧ val 65536 out + cy * 65536 ^ (i + j) = val 65536 out0 + l[i] * val 65536 (r.take j) * 65536 ^ i)
          (fun t => ∃ (out : List Nat) (cy : Nat), t = (nI out, (cy : Int)) ∧ out.length = l.length + r.length ∧ cy < 65536 ∧ (∀ x ∈ out, x < 65536) ∧ (∀ (q : Nat) (h : q < out.length), i + r.length ≤ q → out[q] = 0) ∧ val 65536 out + cy * 65536 ^ (i + r.length) = val 65536 out0 + l[i] * val 65536 (r.take r.length) * 65536 ^ i) (by
            rintro s ⟨out, cy, j, rfl, hD1, hD2, hD3, hD4, hD5, hD6⟩
            by_cases hj : j < r.length
            · left
              have hk : i + j < out.length := by omega
              have h1 := hl _ (List.getElem_mem hi)
              have h2 := hr _ (List.getElem_mem hj)
              have h3 := hD4 _ (List.getElem_mem hk)
              have hmm := mul_lt16 h1 h2
              have e1 : w64 ((i : Int) + (j : Int)) = ((i + j : Nat) : Int) := by rw [w64_id (by omega) (by omega)]; omega
              have e2 : w64 (w64 (w64 ((l[i] : Int) * (r[j] : Int)) + (out[i + j] : Int)) + (cy : Int)) = ((l[i] * r[j] + out[i + j] + cy : Nat) : Int) := by
                have e3 : w64 ((l[i] : Int) * (r[j] : Int)) = ((l[i] * r[j] : Nat) : Int) := by rw [← Int.natCast_mul]; exact w64_nat (by omega)
                rw [e3, ← Int.natCast_add, w64_nat (by omega), ← Int.natCast_add, w64_nat (by omega)]
              have e4 : w64 (((l[i] * r[j] + out[i + j] + cy) / 65536 : Nat) : Int) = (((l[i] * r[j] + out[i + j] + cy) / 65536 : Nat) : Int) := w64_nat (by omega)
              refine ⟨(nI (out.set (i + j) ((l[i] * r[j] + out[i + j] + cy) % 65536)), (((l[i] * r[j] + out[i + j] + cy) / 65536 : Nat) : Int), ((j + 1 : Nat) : Int)), ?_, ⟨_, _, _, rfl, mul_inner16 hi hj rfl rfl h1 h2 hD1 hD2 hD3 hD4 hD5 hD6 hk⟩, by simp; omega⟩
              unfold lidarref01_times_l7
              simp only [e1]
              rw [if_pos (by rw [nI_len]; omega), idx_nI hi, bnd_s, idx_nI hj, bnd_s, idx_nI hk, bnd_s, bnd_s, e2, tmod16, tdiv16, e4, setI_nI, w64_succ (by omega)]
            · right
              obtain rfl : j = r.length := by omega
              refine ⟨(nI out, (cy : Int)), ?_, out, cy, rfl, hD1, hD2, hD4, hD5, hD6⟩
              unfold lidarref01_times_l7
              simp only []
              rw [if_neg (by rw [nI_len]; omega)])
          (nI out0, ((0 : Nat) : Int), ((0 : Nat) : Int)) ⟨out0, 0, 0, rfl, hC1, by omega, by omega, hC3, fun q hq hiq => hC4 q hq (by omega), by simp [val]⟩
        have hk : i + r.length < out.length := by omega
        refine ⟨(nI (out.set (i + r.length) (cy % 65536)), ((i + 1 : Nat) : Int)), ?_, ⟨_, _, rfl, mul_outer16 hi rfl rfl hD1 hD2 hD4 hD5 hD6 hC5 rfl⟩, by simp; omega⟩
        unfold lidarref01_times_l3
        simp only [jn_d]
        have ht' : lfix (lidarref01_times_l7 (nI r) (nI l) (nI out0, (i : Int))) (nI out0, 0, 0) = some (nI out, (cy : Int)) := ht
        rw [if_pos (by rw [nI_len]; omega), ht', bnd_s, nI_len, show w64 ((i : Int) + (r.length : Int)) = ((i + r.length : Nat) : Int) from by rw [w64_id (by omega) (by omega)]; omega, idx_nI hk, bnd_s]
        simp only []
        rw [setI_nI, w64_succ (by omega), Nat.mod_eq_of_lt hD2]
      · right
        refine ⟨nI out0, ?_, out0, rfl, mul_done16 (i := i) (by omega) rfl hC1 hC3 hC5⟩
        unfold lidarref01_times_l3
        simp only []
        rw [if_neg (by rw [nI_len]; omega)])
    (nI (List.replicate (l.length + r.length) 0), ((0 : Nat) : Int)) ⟨_, 0, rfl, by simp, by omega, by simp, by simp, by simp [val, val_zeros]⟩
  unfold lidarref01_times
  simp only [e, jn_d, Int.toNat_natCast, zeros_nI]
  have ht' : lfix (lidarref01_times_l3 (nI l) (nI r)) (nI (List.replicate (l.length + r.length) 0), 0) = some (nI out) := ht
  rw [gd_t ⟨by omega, by omega⟩, ht', bnd_s, trim_nI, bnd_s, hd]; rfl
theorem cmp_L (a b : Nat) (ha : (dig 65536 a).length ≤ 1000000) : lidarref01_compare (L16 a) (L16 b) = some (cmpN a b) := by
  unfold lidarref01_compare L16
  rw [nI_len, nI_len]
  by_cases hlen : (dig 65536 a).length = (dig 65536 b).length
  · obtain ⟨t, ht, hR⟩ := lfix_ind (B := lidarref01_compare_l6 (nI (dig 65536 a)) (nI (dig 65536 b))) (fun s => (s + 1).toNat)
      (fun s => ∃ k : Nat, s = (k : Int) - 1 ∧ k ≤ (dig 65536 a).length ∧ ∀ (j : Nat) (h : j < (dig 65536 a).length) (h' : j < (dig 65536 b).length), k ≤ j → (dig 65536 a)[j] = (dig 65536 b)[j])
      (fun t => (t = .inl () ∧ cmpN a b = 0) ∨ t = .inr (cmpN a b)) (by
        rintro s ⟨k, rfl, hk, heq⟩
        unfold lidarref01_compare_l6
        by_cases h0 : k = 0
        · right
          subst h0
          refine ⟨_, by rw [if_neg (by omega)], .inl ⟨rfl, cmp_eq (by omega) hlen (fun j h h' => heq j h h' (by omega))⟩⟩
        · have h1 : k - 1 < (dig 65536 a).length := by omega
          have h2 : k - 1 < (dig 65536 b).length := by omega
          have hat := cmp_at (b := 65536) (by omega) hlen h1 h2 (fun j h h' hj => heq j h h' (by omega))
          rw [if_pos (by omega), show ((k : Int) - 1) = ((k - 1 : Nat) : Int) from by omega, idx_nI h1, bnd_s, idx_nI h2, bnd_s]
          by_cases he : (dig 65536 a)[k - 1] = (dig 65536 b)[k - 1]
          · left
            refine ⟨((k - 1 : Nat) : Int) - 1, by rw [if_pos (by rw [he]), w64_id (by omega) (by omega)], ⟨k - 1, rfl, by omega, fun j h h' hj => ?_⟩, by omega⟩
            rcases Nat.lt_or_ge (k - 1) j with hq | hq
            · exact heq j h h' (by omega)
            · obtain rfl : j = k - 1 := by omega
              exact he
          · right
            rw [if_neg (by omega), bnd_s, bnd_s]
            by_cases hlt : (dig 65536 a)[k - 1] < (dig 65536 b)[k - 1]
            · exact ⟨_, by rw [if_pos (by omega)], .inr (by rw [hat.1 hlt])⟩
            · exact ⟨_, by rw [if_neg (by omega)], .inr (by rw [hat.2 (by omega)])⟩)
      (((dig 65536 a).length : Int) - 1) ⟨_, rfl, Nat.le_refl _, fun j h h' hj => by omega⟩
    rw [if_pos (by omega), jn_d, w64_id (by omega) (by omega), ht, bnd_s]
    rcases hR with ⟨rfl, h0⟩ | rfl
    · simp only [h0]
    · rfl
  · rw [if_neg (by omega)]
    by_cases hlt : (dig 65536 a).length < (dig 65536 b).length
    · rw [if_pos (by omega), (cmp_len (b := 65536) (by omega) rfl rfl).1 hlt]
    · rw [if_neg (by omega), (cmp_len (b := 65536) (by omega) rfl rfl).2 (by omega)]
end Go.Proofs.Ytjhknbpiaikblaa
