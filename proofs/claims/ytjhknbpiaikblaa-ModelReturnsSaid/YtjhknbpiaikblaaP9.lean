/- Plain laws on the numbers, the sum of bits and the bytes of a grid. -/
import Derived.Test.YtjhknbpiaikblaaG4
import Derived.Test.YtjhknbpiaikblaaP1
namespace Go.Proofs.Ytjhknbpiaikblaa
open Go Go.RowKit
theorem wu8_eq (x : Int) : wu8 x = x % 256 := by unfold wu8; rw [IntKind.wrap_u8]
theorem shr7 (n : Nat) : shr_ .i64 (n : Int) 7 = ((n / 128 : Nat) : Int) := by
  show Int.fdiv (n : Int) (2 ^ (min (Int.toNat 7) 64)) = _
  rw [show ((2 : Int) ^ (min (Int.toNat 7) 64)) = 128 from rfl, Int.fdiv_eq_ediv_of_nonneg _ (by omega)]
  omega
theorem or128_all : ∀ m, m < 128 → bit_or .u8 ((m : Nat) : Int) 128 = ((m + 128 : Nat) : Int) := by decide +kernel
theorem or128 (n : Nat) : bit_or .u8 (wu8 (Int.tmod (n : Int) 128)) 128 = ((n % 128 + 128 : Nat) : Int) := by
  rw [wu8_eq, show Int.tmod (n : Int) 128 % 256 = ((n % 128 : Nat) : Int) by rw [tmod_pos (by omega)]; omega]
  exact or128_all _ (Nat.mod_lt _ (by omega))
def vl (n : Nat) : List Int := if n < 128 then [(n : Int)] else ((n % 128 + 128 : Nat) : Int) :: vl (n / 128)
theorem vl_len : ∀ (k n : Nat), 1 ≤ k → n < 128 ^ k → (vl n).length ≤ k
  | 0, _, h, _ => by omega
  | 1, n, _, h => by rw [vl, if_pos (by omega)]; simp
  | k + 2, n, _, h => by
    rw [vl]
    split
    · simp
    · have : n / 128 < 128 ^ (k + 1) := Nat.div_lt_of_lt_mul (by rw [Nat.mul_comm, ← Nat.pow_succ]; exact h)
      have := vl_len (k + 1) (n / 128) (by omega) this
      simp only [List.length_cons]; omega
theorem vl_pos (n : Nat) : 1 ≤ (vl n).length := by rw [vl]; split <;> simp
theorem num_loop (B : Int × List Int → Option (Sum (Int × List Int) (Int × List Int)))
    (hB : ∀ (n : Nat) (acc : List Int), n < 9223372036854775808 → B ((n : Int), acc) = if 128 ≤ n then gd ((acc.length + 1) * 1 ≤ 140737488355328) (some (.inl (((n / 128 : Nat) : Int), acc ++ [((n % 128 + 128 : Nat) : Int)]))) else some (.inr ((n : Int), acc))) :
    ∀ (m n : Nat) (acc : List Int), n ≤ m → n < 9223372036854775808 → acc.length + (vl n).length ≤ 140737488355328 → ∃ t, lfix B ((n : Int), acc) = some t ∧ t.2 ++ [wu8 t.1] = acc ++ vl n := by
  intro m
  induction m with
  | zero =>
    intro n acc hm hn hl
    refine ⟨_, by rw [lfix_eq, hB n acc hn, if_neg (by omega)], ?_⟩
    show acc ++ [wu8 (n : Int)] = _
    rw [vl, if_pos (by omega), wu8_eq]; congr; omega
  | succ m ih =>
    intro n acc hm hn hl
    by_cases h : 128 ≤ n
    · have hv : (vl n) = ((n % 128 + 128 : Nat) : Int) :: vl (n / 128) := by rw [vl, if_neg (by omega)]
      rw [hv] at hl
      simp only [List.length_cons] at hl
      obtain ⟨t, h1, h2⟩ := ih (n / 128) (acc ++ [((n % 128 + 128 : Nat) : Int)]) (by omega) (by omega) (by simp; omega)
      refine ⟨t, ?_, ?_⟩
      · rw [lfix_eq, hB n acc hn, if_pos h, gd_t (by omega)]
        exact h1
      · rw [h2, hv, List.append_assoc]; rfl
    · refine ⟨_, by rw [lfix_eq, hB n acc hn, if_neg h], ?_⟩
      show acc ++ [wu8 (n : Int)] = _
      rw [vl, if_pos (by omega), wu8_eq]; congr; omega
def numP (p : List Int) (n : Int) : List Int × Int := if n < 0 ∨ 4611686018427387903 < n then ([], 2) else (p ++ vl n.toNat, 0)
theorem numP_len (p : List Int) (n : Int) : (numP p n).1.length ≤ p.length + 9 := by
  unfold numP
  split
  · simp
  · have := vl_len 9 n.toNat (by omega) (by omega)
    simp only [List.length_append]; omega
theorem cpy_zero (p : List Int) : cpy (List.replicate (Int.toNat ((p.length : Nat) : Int)) (0 : Int)) 0 p = p := by
  unfold cpy; simp
theorem linkNumber_eq {p : List Int} (n : Int) (hp : p.length ≤ 70368744177664) : link_Number p n = some (numP p n) := by
  unfold link_Number numP
  simp only [jn_d]
  by_cases h0 : n < 0
  · rw [if_pos h0, if_pos trivial, if_pos (.inl h0)]
  · rw [if_neg h0]
    by_cases h1 : 4611686018427387903 < n
    · rw [if_pos (by simpa using h1), if_pos (.inr h1)]
    · rw [if_neg (by simpa using h1), if_neg (by omega)]
      have hw : w64 ((((p).length : Nat) : Int) + 9) = (((p).length : Nat) : Int) + 9 := w64_id (by omega) (by omega)
      rw [gd_t ⟨by omega, by omega, by omega⟩, cpy_zero]
      have hv := vl_len 9 n.toNat (by omega) (by omega)
      obtain ⟨t, h2, h3⟩ := num_loop link_Number_l5 (by
        intro n acc _
        unfold link_Number_l5
        simp only [shr7, or128]
        by_cases h : 128 ≤ n
        · rw [if_pos (by omega), if_pos h]
        · rw [if_neg (by omega), if_neg h]) n.toNat n.toNat p (Nat.le_refl _) (by omega) (by omega)
      rw [show ((n.toNat : Nat) : Int) = n by omega] at h2
      rw [h2, bnd_s]
      have hl : (t.2 ++ [wu8 t.1]).length = p.length + (vl n.toNat).length := by rw [h3, List.length_append]
      simp only [List.length_append, List.length_singleton] at hl
      rw [gd_t (by omega), h3]
theorem joined_one (p : List Int) (hp : p.length ≤ 140737488355328) : lidarref02_joined [p] = some p := by
  unfold lidarref02_joined
  simp only [jn_d]
  have h1 : lidarref02_joined_l3 [p] (([] : List Int), 0) = some (.inl (p, 1)) := by
    unfold lidarref02_joined_l3
    simp only
    rw [if_pos (by simp), show (0 : Int) = ((0 : Nat) : Int) from rfl, idx_nat (by simp), bnd_s, gd_t (by simpa using hp)]
    rfl
  have h2 : lidarref02_joined_l3 [p] (p, 1) = some (.inr p) := by
    unfold lidarref02_joined_l3
    simp only
    rw [if_neg (by simp)]
  rw [lfix_eq, h1]
  simp only
  rw [lfix_eq, h2]
  simp only
  rw [bnd_s]
theorem refNumber_eq {p : List Int} (n : Int) (hp : p.length ≤ 70368744177664) : lidarref02_Number p n = some (numP p n) := by
  unfold lidarref02_Number numP
  simp only [jn_d]
  by_cases h0 : n < 0
  · rw [if_pos h0, if_pos trivial, if_pos (.inl h0)]
  · rw [if_neg h0]
    by_cases h1 : 4611686018427387903 < n
    · rw [if_pos (by simpa using h1), if_pos (.inr h1)]
    · rw [if_neg (by simpa using h1), if_neg (by omega), joined_one p (by omega), bnd_s]
      have hv := vl_len 9 n.toNat (by omega) (by omega)
      obtain ⟨t, h2, h3⟩ := num_loop lidarref02_Number_l4 (by
        intro n acc hn
        unfold lidarref02_Number_l4
        simp only
        have e1 : w64 (Int.tdiv (n : Int) 128) = ((n / 128 : Nat) : Int) := by rw [tdiv_pos (by omega), w64_id (by omega) (by omega)]; omega
        have e2 : wu8 (w64 ((Int.tmod (n : Int) 128) + 128)) = ((n % 128 + 128 : Nat) : Int) := by rw [tmod_pos (by omega), w64_id (by omega) (by omega), wu8_eq]; omega
        rw [e1, e2]
        by_cases h : 128 ≤ n
        · rw [if_pos (by omega), if_pos h]
        · rw [if_neg (by omega), if_neg h]) n.toNat n.toNat p (Nat.le_refl _) (by omega) (by omega)
      rw [show ((n.toNat : Nat) : Int) = n by omega] at h2
      rw [h2, bnd_s]
      have hl : (t.2 ++ [wu8 t.1]).length = p.length + (vl n.toNat).length := by rw [h3, List.length_append]
      simp only [List.length_append, List.length_singleton] at hl
      rw [gd_t (by omega), h3]
def signP (p : List Int) (n : Int) : List Int × Int := if n < -2305843009213693952 ∨ 2305843009213693951 < n then ([], 2) else if n < 0 then numP p (-2 * n - 1) else numP p (2 * n)
theorem signP_len (p : List Int) (n : Int) : (signP p n).1.length ≤ p.length + 9 := by
  unfold signP
  split
  · simp
  · split <;> exact numP_len _ _
theorem linkSigned_eq {p : List Int} (n : Int) (hp : p.length ≤ 70368744177664) : link_Signed p n = some (signP p n) := by
  unfold link_Signed signP
  simp only [jn_d]
  by_cases h0 : n < -2305843009213693952
  · rw [if_pos h0, if_pos trivial, if_pos (.inl h0)]
  · rw [if_neg h0]
    by_cases h1 : 2305843009213693952 ≤ n
    · rw [if_pos (by simpa using h1), if_pos (.inr (by omega))]
    · have hn : ¬ (n < -2305843009213693952 ∨ 2305843009213693951 < n) := by omega
      rw [if_neg (by simpa using h1), if_neg hn]
      by_cases h2 : n < 0
      · rw [if_pos h2, if_pos h2, linkNumber_eq _ hp, bnd_s, w64_id (x := n + 1) (by omega) (by omega), w64_id (x := -2 * (n + 1)) (by omega) (by omega), w64_id (by omega) (by omega)]
        rw [show -2 * (n + 1) + 1 = -2 * n - 1 by omega]
      · rw [if_neg h2, if_neg h2, linkNumber_eq _ hp, bnd_s, w64_id (x := 2 * n) (by omega) (by omega)]
theorem refSigned_eq {p : List Int} (n : Int) (hp : p.length ≤ 70368744177664) : lidarref02_Signed p n = some (signP p n) := by
  unfold lidarref02_Signed signP
  simp only [jn_d]
  by_cases h0 : n < -2305843009213693952
  · rw [if_pos h0, if_pos trivial, if_pos (.inl h0)]
  · rw [if_neg h0]
    by_cases h1 : 2305843009213693951 < n
    · rw [if_pos (by simpa using h1), if_pos (.inr (by omega))]
    · have hn : ¬ (n < -2305843009213693952 ∨ 2305843009213693951 < n) := by omega
      rw [if_neg (by simpa using h1), if_neg hn]
      by_cases h2 : n < 0
      · rw [if_pos h2, if_pos h2, refNumber_eq _ hp, bnd_s, w64_id (x := -2 * n) (by omega) (by omega), w64_id (by omega) (by omega)]
      · rw [if_neg h2, if_neg h2, refNumber_eq _ hp, bnd_s, w64_id (x := 2 * n) (by omega) (by omega)]
def isB (x : Int) : Prop := 0 ≤ x ∧ x ≤ 255
theorem vl_B : ∀ (m n : Nat), n ≤ m → ∀ x ∈ vl n, isB x
  | 0, n, h, x, hx => by
    rw [vl, if_pos (by omega)] at hx
    simp only [List.mem_singleton] at hx
    subst hx; unfold isB; omega
  | m + 1, n, h, x, hx => by
    rw [vl] at hx
    split at hx
    · simp only [List.mem_singleton] at hx
      subst hx; unfold isB; omega
    · rcases List.mem_cons.1 hx with hx | hx
      · subst hx; unfold isB; omega
      · exact vl_B m (n / 128) (by omega) x hx
theorem numP_B {p : List Int} (n : Int) (h : ∀ x ∈ p, isB x) : ∀ x ∈ (numP p n).1, isB x := by
  unfold numP
  split
  · simp
  · intro x hx
    rcases List.mem_append.1 hx with hx | hx
    · exact h x hx
    · exact vl_B _ _ (Nat.le_refl _) x hx
theorem signP_B {p : List Int} (n : Int) (h : ∀ x ∈ p, isB x) : ∀ x ∈ (signP p n).1, isB x := by
  unfold signP
  split
  · simp
  · split <;> exact numP_B _ h
/-! a run of voids -/
theorem lfix_run {α : Type} (l : List α) (p : α → Bool) (B : Int → Option (Sum Int Int))
    (h1 : ∀ (j : Nat) (h : j < l.length), B j = if p l[j] = true then some (.inl ((j + 1 : Nat) : Int)) else some (.inr (j : Int))) (h2 : B l.length = some (.inr l.length)) :
    lfix B 0 = some (((l.takeWhile p).length : Nat) : Int) := by
  have key : ∀ (m k : Nat), k ≤ l.length → l.length - k = m → lfix B k = some (((k + ((l.drop k).takeWhile p).length : Nat) : Int)) := by
    intro m
    induction m with
    | zero =>
      intro k hk hm
      obtain rfl : k = l.length := by omega
      rw [lfix_eq, h2]
      simp
    | succ m ih =>
      intro k hk hm
      have hlt : k < l.length := by omega
      rw [lfix_eq, h1 k hlt, List.drop_eq_getElem_cons hlt, List.takeWhile_cons]
      by_cases hp : p l[k] = true
      · rw [if_pos hp, if_pos hp]
        simp only [List.length_cons]
        rw [ih (k + 1) (by omega) (by omega)]
        congr 2; omega
      · rw [if_neg hp, if_neg hp]
        simp
  have := key l.length 0 (Nat.zero_le _) rfl
  simpa using this
theorem linkRun (b : List Int) (cs : List S_api_Cell) (z : Int) (h : cs.length ≤ 5000) : lfix (model_writer_cells_l3 (b, cs, z)) 0 = some (((cs.takeWhile (·.Void)).length : Nat) : Int) := by
  apply lfix_run
  · intro j hj
    unfold model_writer_cells_l3
    simp only [jn_d]
    rw [if_pos (by omega), idx_nat hj, bnd_s, w64_succ (by omega)]
  · unfold model_writer_cells_l3
    simp only [jn_d]
    rw [if_neg (by omega), if_neg (by simp)]
theorem refRun (b : List Int) (g : S_api_Grid) (k : Nat) (z : Int) (hk : k ≤ g.Cells.length) (h : g.Cells.length ≤ 5000) : lfix (lidarref09_Encode_l13 (b, z, (k : Int)) g) 0 = some ((((g.Cells.drop k).takeWhile (·.Void)).length : Nat) : Int) := by
  apply lfix_run
  · intro j hj
    simp only [List.length_drop] at hj
    unfold lidarref09_Encode_l13
    simp only [jn_d]
    rw [← Int.natCast_add, w64_nat (by omega), if_pos (by omega), idx_nat (by omega), bnd_s, w64_succ (by omega), List.getElem_drop]
  · unfold lidarref09_Encode_l13
    simp only [jn_d, List.length_drop]
    rw [← Int.natCast_add, w64_nat (by omega), if_neg (by omega), if_neg (by simp)]
theorem wsigned_eq {w : S_model_writer} (n : Int) (hp : w.b.length ≤ 70368744177664) : model_writer_signed w n = some ⟨(signP w.b n).1⟩ := by
  unfold model_writer_signed; rw [linkSigned_eq n hp, bnd_s]
theorem wnumber_eq {w : S_model_writer} (n : Int) (hp : w.b.length ≤ 70368744177664) : model_writer_number w n = some ⟨(numP w.b n).1⟩ := by
  unfold model_writer_number; rw [linkNumber_eq n hp, bnd_s]
theorem cells_both (g : S_api_Grid) (h : g.Cells.length ≤ 5000) : ∀ (m k : Nat) (b : List Int) (z : Int), k ≤ g.Cells.length → g.Cells.length - k ≤ m → b.length + 18 * (g.Cells.length - k) ≤ 1000000 → (∀ x ∈ b, isB x) →
    ∃ out, lfix model_writer_cells_l1 (b, g.Cells.drop k, z) = some ⟨out⟩ ∧ lfix (lidarref09_Encode_l11 g) (b, z, (k : Int)) = some out ∧ out.length ≤ 1000000 ∧ ∀ x ∈ out, isB x := by
  have stop : ∀ (k : Nat) (b : List Int) (z : Int), k = g.Cells.length → b.length ≤ 1000000 → (∀ x ∈ b, isB x) → ∃ out, lfix model_writer_cells_l1 (b, g.Cells.drop k, z) = some ⟨out⟩ ∧ lfix (lidarref09_Encode_l11 g) (b, z, (k : Int)) = some out ∧ out.length ≤ 1000000 ∧ ∀ x ∈ out, isB x := by
    intro k b z hk hb hB
    subst hk
    refine ⟨b, ?_, ?_, hb, hB⟩
    · rw [lfix_eq]
      unfold model_writer_cells_l1
      simp only
      rw [if_neg (by simp)]
    · rw [lfix_eq]
      unfold lidarref09_Encode_l11
      simp only
      rw [if_neg (by omega)]
  intro m
  induction m with
  | zero => intro k b z hk hm hb hB; exact stop k b z (by omega) (by omega) hB
  | succ m ih =>
    intro k b z hk hm hb hB
    by_cases he : k = g.Cells.length
    · exact stop k b z he (by omega) hB
    have hlt : k < g.Cells.length := by omega
    have hdl : (g.Cells.drop k).length = g.Cells.length - k := List.length_drop
    have hrun : ((g.Cells.drop k).takeWhile (·.Void)).length ≤ (g.Cells.drop k).length := (List.takeWhile_prefix _).length_le
    have hL := linkRun b (g.Cells.drop k) z (by omega)
    have hR := refRun b g k z hk h
    generalize hn : ((g.Cells.drop k).takeWhile (·.Void)).length = n at *
    by_cases h0 : 0 < n
    · have l1 := numP_len b 0
      have l2 := numP_len (numP b 0).1 (n : Int)
      obtain ⟨out, o1, o2, o3⟩ := ih (k + n) (numP (numP b 0).1 (n : Int)).1 z (by omega) (by omega) (by omega) (numP_B _ (numP_B _ hB))
      have s1 : model_writer_cells_l1 (b, g.Cells.drop k, z) = some (.inl ((numP (numP b 0).1 (n : Int)).1, g.Cells.drop (k + n), z)) := by
        unfold model_writer_cells_l1
        simp only [jn_d]
        rw [if_pos (by omega), hL, bnd_s, if_pos (by omega), wnumber_eq 0 (by show b.length ≤ _; omega), bnd_s, wnumber_eq _ (by show (numP b 0).1.length ≤ _; omega), bnd_s, gd_t (by omega)]
        congr 3
        unfold subl
        rw [Int.toNat_natCast, Int.toNat_natCast, List.take_length, List.drop_drop]
      have s2 : lidarref09_Encode_l11 g (b, z, (k : Int)) = some (.inl ((numP (numP b 0).1 (n : Int)).1, z, ((k + n : Nat) : Int))) := by
        unfold lidarref09_Encode_l11
        simp only [jn_d]
        rw [if_pos (by omega), hR, bnd_s, if_pos (by omega), refNumber_eq 0 (by omega), bnd_s, refNumber_eq _ (by omega), bnd_s, ← Int.natCast_add, w64_nat (by omega)]
      refine ⟨out, ?_, ?_, o3⟩
      · rw [lfix_eq, s1]; exact o1
      · rw [lfix_eq, s2]; exact o2
    · have l1 := numP_len b (w64 (w64 (1 + g.Cells[k].Z.Hi) - g.Cells[k].Z.Lo))
      have l2 := signP_len (numP b (w64 (w64 (1 + g.Cells[k].Z.Hi) - g.Cells[k].Z.Lo))).1 (w64 (g.Cells[k].Z.Lo - z))
      obtain ⟨out, o1, o2, o3⟩ := ih (k + 1) (signP (numP b (w64 (w64 (1 + g.Cells[k].Z.Hi) - g.Cells[k].Z.Lo))).1 (w64 (g.Cells[k].Z.Lo - z))).1 g.Cells[k].Z.Lo (by omega) (by omega) (by omega) (signP_B _ (numP_B _ hB))
      have i0 : idx (g.Cells.drop k) 0 = some g.Cells[k] := by
        rw [show (0 : Int) = ((0 : Nat) : Int) from rfl, idx_nat (by omega), List.getElem_drop]; rfl
      have s1 : model_writer_cells_l1 (b, g.Cells.drop k, z) = some (.inl ((signP (numP b (w64 (w64 (1 + g.Cells[k].Z.Hi) - g.Cells[k].Z.Lo))).1 (w64 (g.Cells[k].Z.Lo - z))).1, g.Cells.drop (k + 1), g.Cells[k].Z.Lo)) := by
        unfold model_writer_cells_l1
        simp only [jn_d]
        rw [if_pos (by omega), hL, bnd_s, if_neg (by omega), i0, bnd_s, wnumber_eq _ (by show b.length ≤ _; omega), bnd_s, wsigned_eq _ (by show (numP b _).1.length ≤ _; omega), bnd_s, gd_t (by omega)]
        congr 3
        unfold subl
        rw [Int.toNat_natCast, List.take_length, List.drop_drop]; rfl
      have s2 : lidarref09_Encode_l11 g (b, z, (k : Int)) = some (.inl ((signP (numP b (w64 (w64 (1 + g.Cells[k].Z.Hi) - g.Cells[k].Z.Lo))).1 (w64 (g.Cells[k].Z.Lo - z))).1, g.Cells[k].Z.Lo, ((k + 1 : Nat) : Int))) := by
        unfold lidarref09_Encode_l11
        simp only [jn_d]
        rw [if_pos (by omega), hR, bnd_s, if_neg (by omega), idx_nat hlt, bnd_s, refNumber_eq _ (by omega), bnd_s, refSigned_eq _ (by omega), bnd_s, w64_succ (by omega)]
      refine ⟨out, ?_, ?_, o3⟩
      · rw [lfix_eq, s1]; exact o1
      · rw [lfix_eq, s2]; exact o2
end Go.Proofs.Ytjhknbpiaikblaa
