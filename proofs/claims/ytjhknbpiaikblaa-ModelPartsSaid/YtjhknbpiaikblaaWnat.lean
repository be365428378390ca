/- Walks of the program: natural numbers of words. -/
import Derived.Test.YtjhknbpiaikblaaMem
import Derived.Test.YtjhknbpiaikblaaWbas
namespace Go.Proofs.Ytjhknbpiaikblaa
open Go Go.RowKit
theorem slc114 : SliceOf Try.prog 114 105 1 := .mk Try.underlying114 (show Try.prog.info? 105 = some Try.t105 from by kernel_rfl) (by kernel_rfl)
theorem one105 : OneOf Try.prog 105 := .mk Try.underlying105 rfl (show Try.prog.info? 105 = some Try.t105 from by kernel_rfl) (by kernel_rfl)
theorem bls114_2_0u321u32 (x0 : Int) (x1 : Int) : BuildSliceOf Try.prog 114 2 [(0, .int .u32 x0), (1, .int .u32 x1)] 105 [.int .u32 x0, .int .u32 x1] := fun w => by kernel_rfl
set_option maxRecDepth 100000 in
theorem norm_ok {A n c} {l : List Nat} {K : List Ent} (ha : Has K A n c 1 eW l) (w : World) (hK : ∀ e ∈ K, Ent.ok w e) : Ct Try.prog 105 [.slice A n c] w fun v => v = .slice A (nrm l).length c := by
  have hs := (ha.sl hK).has
  have hl := ha.len
  have hsm := ha.small
  refine CtL.mk 21 Try.func105 rfl Try.ntmps105 (by kernel_rfl) rfl ?_
  show T 21 _ [(0, .slice (A) (n) (c))] _
  refine T_seq ?_
  refine T_reg ?_
  refine T_val (Ev_assign rfl) rfl ?_
  refine T_nil ?_
  refine T_next ?_
  refine T_seq ?_
  refine T_block ?_
  refine T_loop (σ := Nat) (fun k => [(0, .slice (A) (k) (c)), (2, .slice (none) (0) (0))]) (fun k => [] ++ [.old w]) (fun k => k ≤ n ∧ ∀ (j : Nat) (h : j < l.length), k ≤ j → l[j] = 0) (fun k => k) (n) ?_ ?_ ?_ ?_
  · exact ⟨Nat.le_refl _, fun j h h' => by omega⟩
  · exact .cons rfl (.cons rfl (.nil))
  · exact .refl
  intro k hC
  obtain ⟨hC1, hC2⟩ := hC
  refine T_seq ?_
  refine T_seq ?_
  refine T_reg ?_
  refine T_val (Ev_move rfl) rfl ?_
  refine T_val (Ev_len rfl 105 Try.underlying114) rfl ?_
  refine T_val (Ev_gtr rfl rfl) rfl ?_
  refine T_val (Ev_move rfl) rfl ?_
  refine T_caseP (s := 6) rfl (fun h1 => ?_) (fun h1 => ?_)
  · refine T_valG rfl rfl rfl (Ev_move rfl) rfl ?_
    refine T_valG rfl rfl rfl (Ev_move rfl) rfl ?_
    refine T_valG rfl rfl rfl (Ev_len rfl 105 Try.underlying114) rfl ?_
    refine T_valG rfl rfl rfl (Ev_sub rfl rfl (by omega) (by omega)) rfl ?_
    obtain ⟨b2, o3, hA4, hp5⟩ := Has.elem hs (i := k - 1) (by omega)
    refine T_valG rfl rfl rfl (Ev_index rfl rfl hA4 (j := k - 1) (by omega) (by omega) slc114) rfl ?_
    refine T_valG rfl rfl rfl (Ev_loadP0 rfl hp5 (SubE.cons2 (i := 0) rfl (SubE.nil)) rfl one105) rfl ?_
    refine T_valG rfl rfl rfl (Ev_eql rfl rfl) rfl ?_
    refine T_val (Ev_pickT rfl rfl) rfl ?_
    refine T_nil ?_
    refine T_next ?_
    refine T_caseP (s := 14) rfl (fun h6 => ?_) (fun h6 => ?_)
    · refine T_condT rfl ?_
      refine T_skip ?_
      refine T_next ?_
      refine T_block ?_
      refine T_reg ?_
      refine T_val (Ev_move rfl) rfl ?_
      refine T_val (Ev_move rfl) rfl ?_
      refine T_val (Ev_len rfl 105 Try.underlying114) rfl ?_
      refine T_val (Ev_sub rfl rfl (by omega) (by omega)) rfl ?_
      refine T_val (Ev_sliceH rfl rfl slc114 (q := k - 1) (by omega) (by omega)) rfl ?_
      refine T_val (Ev_assign rfl) rfl ?_
      refine T_nil ?_
      refine T_inN ?_
      refine T_round (σ := Nat) (I := fun k => [(0, .slice (A) (k) (c)), (2, .slice (none) (0) (0))]) (H := fun k => [] ++ [.old w]) (C := fun k => k ≤ n ∧ ∀ (j : Nat) (h : j < l.length), k ≤ j → l[j] = 0) (μ := fun k => k) (s := k) (k - 1) ?_ ?_ ?_ ?_
      · exact ⟨by omega, fun j hj hkj => by (rcases Nat.lt_or_eq_of_le hkj with h | h; exact hC2 j hj (by omega); subst h; omega)⟩
      · exact (show k - 1 < k by omega)
      · exact .cons rfl (.cons rfl (.nil))
      · exact .refl
    · refine T_condF rfl ?_
      refine T_exit ?_
      refine T_outX ?_
      refine T_outX ?_
      refine T_here ?_
      refine T_next ?_
      refine T_seq ?_
      refine T_reg ?_
      refine T_val (Ev_move rfl) rfl ?_
      refine T_val (Ev_assign rfl) rfl ?_
      refine T_nil ?_
      refine T_next ?_
      refine T_retc ?_
      refine T_retL (rs := [.tmp 2]) Try.results105 (.tmp rfl (.nil)) (Ln := []) (⟨by simp only [resVal]; rw [nrm_at l k (by omega) hC2 (fun h0 h1 => by first | (exfalso; omega) | (intro hz; omega))], rfl⟩) (loNil) (.refl)
  · refine T_skipG rfl rfl rfl rfl rfl ?_
    refine T_skipG rfl rfl rfl rfl rfl ?_
    refine T_skipG rfl rfl rfl rfl rfl ?_
    refine T_skipG rfl rfl rfl rfl rfl ?_
    refine T_skipG rfl rfl rfl rfl rfl ?_
    refine T_skipG rfl rfl rfl rfl rfl ?_
    refine T_skipG rfl rfl rfl rfl rfl ?_
    refine T_val (Ev_pickF rfl rfl) rfl ?_
    refine T_nil ?_
    refine T_next ?_
    refine T_condF rfl ?_
    refine T_exit ?_
    refine T_outX ?_
    refine T_outX ?_
    refine T_here ?_
    refine T_next ?_
    refine T_seq ?_
    refine T_reg ?_
    refine T_val (Ev_move rfl) rfl ?_
    refine T_val (Ev_assign rfl) rfl ?_
    refine T_nil ?_
    refine T_next ?_
    refine T_retc ?_
    refine T_retL (rs := [.tmp 2]) Try.results105 (.tmp rfl (.nil)) (Ln := []) (⟨by simp only [resVal]; rw [nrm_at l k (by omega) hC2 (fun h0 h1 => by first | (exfalso; omega) | (intro hz; omega))], rfl⟩) (loNil) (.refl)
set_option maxRecDepth 100000 in
theorem natOf_ok (m : Nat) (hm : m ≤ 18446744073709551615) (w : World) : Ct1 Try.prog 145 [.int .u64 (m : Int)] w fun v e => ∃ A k c, v = .slice A k c ∧ Has [e] A k c 1 eW (dig 4294967296 m) := by
  refine CtL.mk 10 Try.func145 rfl Try.ntmps145 (by kernel_rfl) rfl ?_
  show T 10 _ [(0, .int .u64 (((m : Nat) : Int)))] _
  refine T_seq ?_
  refine T_reg ?_
  refine T_val (Ev_assign rfl) rfl ?_
  refine T_nil ?_
  refine T_next ?_
  refine T_seq ?_
  refine T_reg ?_
  refine T_val (Ev_move rfl) rfl ?_
  refine T_val (Ev_conv32 (m) rfl (by kernel_rfl) Try.underlying105) rfl ?_
  refine T_val (Ev_move rfl) rfl ?_
  refine T_val (Ev_shrN (m) (32) (q := 4294967296) rfl rfl (by decide) (by decide)) rfl ?_
  refine T_val (Ev_conv32 (m / 4294967296) rfl (by kernel_rfl) Try.underlying105) rfl ?_
  refine T_x (Wx_buildSlice rfl (bls114_2_0u321u32 _ _) rfl (fun g1 => ?_))
  have hs2 : Has [.m g1 105 [.int .u32 (((m % 4294967296 : Nat) : Int)), .int .u32 ((((m / 4294967296) % 4294967296 : Nat) : Int))]] (some ⟨g1, 0, none⟩) 2 2 1 eW [m % 4294967296, (m / 4294967296) % 4294967296] := Has.ofM (by simp [eW]) rfl (by decide) rfl
  refine T_x (Wx_call rfl (fun w1 hw1 => norm_ok hs2 w1 (okAll (by exact (SubE.cons2 (i := 0) rfl (SubE.nil))) hw1)) rfl ?_)
  rintro _ rfl
  have hs3 := Has.nrm hs2
  refine T_val (Ev_assign rfl) rfl ?_
  refine T_nil ?_
  refine T_next ?_
  refine T_retc ?_
  refine T_retL (rs := [.tmp 2]) Try.results145 (.tmp rfl (.nil)) (Ln := [.m g1 105 [.int .u32 (((m % 4294967296 : Nat) : Int)), .int .u32 ((((m / 4294967296) % 4294967296 : Nat) : Int))]]) (⟨.m g1 105 [.int .u32 (((m % 4294967296 : Nat) : Int)), .int .u32 ((((m / 4294967296) % 4294967296 : Nat) : Int))], ⟨_, _, _, rfl, by rw [← natOf_dig m hm]; exact hs3⟩, rfl⟩) (loCons rfl (loNil)) (.keep (.refl))
set_option maxRecDepth 100000 in
theorem mul_ok {A n c B m d} {l r : List Nat} {K : List Ent} (ha : Has K A n c 1 eW l) (hb : Has K B m d 1 eW r) (hl : ∀ x ∈ l, x < 4294967296) (hr : ∀ x ∈ r, x < 4294967296) (hb9 : n + m ≤ 1000000000) (w : World) (hK : ∀ e ∈ K, Ent.ok w e) : Ct1 Try.prog 107 [.slice A n c, .slice B m d] w fun v e => ∃ A' k c', v = .slice A' k c' ∧ Has [e] A' k c' 1 eW (dig 4294967296 (val 4294967296 l * val 4294967296 r)) := by
  have hs := (ha.sl hK).has
  have ht := (hb.sl hK).has
  have hn := ha.len
  have hm := hb.len
  have hsm := ha.small
  have hsm2 := hb.small
  refine CtL.mk 68 Try.func107 rfl Try.ntmps107 (by kernel_rfl) rfl ?_
  show T 68 _ [(0, .slice (A) (n) (c)), (1, .slice (B) (m) (d))] _
  refine T_seq ?_
  refine T_reg ?_
  refine T_val (Ev_assign rfl) rfl ?_
  refine T_nil ?_
  refine T_next ?_
  refine T_seq ?_
  refine T_reg ?_
  refine T_val (Ev_move rfl) rfl ?_
  refine T_val (Ev_len rfl 105 Try.underlying114) rfl ?_
  refine T_val (Ev_move rfl) rfl ?_
  refine T_val (Ev_len rfl 105 Try.underlying114) rfl ?_
  refine T_val (Ev_addN (n) (m) rfl rfl (by simp only [top]; omega)) rfl ?_
  refine T_x (Wx_make1 (z := .int .u32 (0)) rfl rfl (m := n + m) (by omega) (by omega) Try.underlying114 (show Try.prog.info? 105 = some Try.t105 from by kernel_rfl) (by kernel_rfl) rfl (by kernel_rfl) (by show 4 * (n + m) ≤ _; omega) (by omega) rfl (fun A1 => ?_))
  refine T_ent .here (e' := .r (A1) (n + m) (n + m) 105 1 ((List.replicate (n + m) (0 : Nat)).flatMap eW)) (by simp [eW, List.flatMap_replicate]) ?_
  refine T_val (Ev_assign rfl) rfl ?_
  refine T_nil ?_
  refine T_next ?_
  refine T_seq ?_
  refine T_seq ?_
  refine T_reg ?_
  refine T_val (Ev_move rfl) rfl ?_
  refine T_val (Ev_len rfl 105 Try.underlying114) rfl ?_
  refine T_val (Ev_move rfl) rfl ?_
  refine T_nil ?_
  refine T_next ?_
  refine T_block ?_
  refine T_loop (σ := List Nat × Nat) (fun (out0, i) => [(0, .slice (A) (n) (c)), (1, .slice (B) (m) (d)), (4, .slice (none) (0) (0)), (5, .slice (A1) (n + m) (n + m)), (12, .slice (A) (n) (c)), (13, .int .i64 (((n : Nat) : Int))), (14, .slice (B) (m) (d)), (15, .int .i64 (((m : Nat) : Int))), (16, .int .i64 (((n + m : Nat) : Int))), (17, .slice (A1) (n + m) (n + m)), (18, .slice (A) (n) (c)), (19, .int .i64 (((n : Nat) : Int))), (20, .int .i64 (((i : Nat) : Int)))]) (fun (out0, i) => [.r (A1) (n + m) (n + m) 105 1 ((out0).flatMap eW)] ++ [.old w]) (fun (out0, i) => out0.length = n + m ∧ i ≤ n ∧ (∀ x ∈ out0, x < 4294967296) ∧ (∀ (q : Nat) (h : q < out0.length), i + m ≤ q → out0[q] = 0) ∧ val 4294967296 out0 = val 4294967296 (l.take i) * val 4294967296 r) (fun (out0, i) => n - i) ((List.replicate (n + m) 0, 0)) ?_ ?_ ?_ ?_
  · exact ⟨by simp, by omega, by simp, by simp, by simp [val, val_zeros]⟩
  · exact .cons rfl (.cons rfl (.cons rfl (.cons rfl (.cons rfl (.cons rfl (.cons rfl (.cons rfl (.cons rfl (.cons rfl (.cons rfl (.cons rfl (.cons rfl (.nil)))))))))))))
  · exact .keep (.refl)
  intro ⟨out0, i⟩ hC
  replace hC : out0.length = n + m ∧ i ≤ n ∧ (∀ x ∈ out0, x < 4294967296) ∧ (∀ (q : Nat) (h : q < out0.length), i + m ≤ q → out0[q] = 0) ∧ val 4294967296 out0 = val 4294967296 (l.take i) * val 4294967296 r := hC
  show T 68 _ [(0, .slice (A) (n) (c)), (1, .slice (B) (m) (d)), (4, .slice (none) (0) (0)), (5, .slice (A1) (n + m) (n + m)), (12, .slice (A) (n) (c)), (13, .int .i64 (((n : Nat) : Int))), (14, .slice (B) (m) (d)), (15, .int .i64 (((m : Nat) : Int))), (16, .int .i64 (((n + m : Nat) : Int))), (17, .slice (A1) (n + m) (n + m)), (18, .slice (A) (n) (c)), (19, .int .i64 (((n : Nat) : Int))), (20, .int .i64 (((i : Nat) : Int)))] ([.r (A1) (n + m) (n + m) 105 1 ((out0).flatMap eW)] ++ [.old w])
  obtain ⟨hC1, hC2, hC3, hC4, hC5⟩ := hC
  refine T_seq ?_
  refine T_reg ?_
  refine T_val (Ev_lss rfl rfl) rfl ?_
  refine T_nil ?_
  refine T_next ?_
  refine T_seq ?_
  refine T_caseP (s := 21) rfl (fun h2 => ?_) (fun h2 => ?_)
  · refine T_condT rfl ?_
    refine T_skip ?_
    refine T_next ?_
    refine T_seq ?_
    refine T_block ?_
    refine T_seq ?_
    refine T_reg ?_
    refine T_val (Ev_move rfl) rfl ?_
    obtain ⟨b3, o4, hA5, hp6⟩ := Has.elem hs (i := i) (by omega)
    refine T_val (Ev_index rfl rfl hA5 (j := i) rfl (by omega) slc114) rfl ?_
    refine T_val (Ev_loadP0 rfl hp6 (SubE.cons2 (i := 1) rfl (SubE.nil)) rfl one105) rfl ?_
    refine T_val (Ev_assign rfl) rfl ?_
    refine T_val (Ev_assign rfl) rfl ?_
    refine T_nil ?_
    refine T_next ?_
    refine T_seq ?_
    refine T_reg ?_
    refine T_val (Ev_assign rfl) rfl ?_
    refine T_nil ?_
    refine T_next ?_
    refine T_seq ?_
    refine T_seq ?_
    refine T_reg ?_
    refine T_val (Ev_move rfl) rfl ?_
    refine T_val (Ev_len rfl 105 Try.underlying114) rfl ?_
    refine T_val (Ev_move rfl) rfl ?_
    refine T_nil ?_
    refine T_next ?_
    refine T_block ?_
    refine T_loop (σ := List Nat × Nat × Nat) (fun (out, cy, j) => [(0, .slice (A) (n) (c)), (1, .slice (B) (m) (d)), (4, .slice (none) (0) (0)), (5, .slice (A1) (n + m) (n + m)), (6, .int .i64 (((i : Nat) : Int))), (7, .int .u32 ((((l)[i] : Nat) : Int))), (8, .int .u64 (((cy : Nat) : Int))), (12, .slice (A) (n) (c)), (13, .int .i64 (((n : Nat) : Int))), (14, .slice (B) (m) (d)), (15, .int .i64 (((m : Nat) : Int))), (16, .int .i64 (((n + m : Nat) : Int))), (17, .slice (A1) (n + m) (n + m)), (18, .slice (A) (n) (c)), (19, .int .i64 (((n : Nat) : Int))), (20, .int .i64 (((i : Nat) : Int))), (21, .bool (true)), (22, .int .i64 (((i : Nat) : Int))), (23, .pointer (some ⟨b3, o4 + i * 1, none⟩)), (24, .int .u32 ((((l)[i] : Nat) : Int))), (25, .slice (B) (m) (d)), (26, .int .i64 (((m : Nat) : Int))), (27, .int .i64 (((j : Nat) : Int)))]) (fun (out, cy, j) => [.r (A1) (n + m) (n + m) 105 1 ((out).flatMap eW)] ++ [.old w]) (fun (out, cy, j) => out.length = n + m ∧ cy < 4294967296 ∧ j ≤ m ∧ (∀ x ∈ out, x < 4294967296) ∧ (∀ (q : Nat) (h : q < out.length), i + m ≤ q → out[q] = 0) ∧ val 4294967296 out + cy * 4294967296 ^ (i + j) = val 4294967296 out0 + l[i]'(by omega) * val 4294967296 (r.take j) * 4294967296 ^ i) (fun (out, cy, j) => m - j) ((out0, 0, 0)) ?_ ?_ ?_ ?_
    · exact ⟨hC1, by omega, by omega, hC3, fun q hq hiq => hC4 q hq (by omega), by simp [val]⟩
    · exact .cons rfl (.cons rfl (.cons rfl (.cons rfl (.cons rfl (.cons rfl (.cons rfl (.cons rfl (.cons rfl (.cons rfl (.cons rfl (.cons rfl (.cons rfl (.cons rfl (.cons rfl (.cons rfl (.cons rfl (.cons rfl (.cons rfl (.cons rfl (.cons rfl (.cons rfl (.cons rfl (.nil)))))))))))))))))))))))
    · exact .keep (.refl)
    intro ⟨out, cy, j⟩ hC
    replace hC : out.length = n + m ∧ cy < 4294967296 ∧ j ≤ m ∧ (∀ x ∈ out, x < 4294967296) ∧ (∀ (q : Nat) (h : q < out.length), i + m ≤ q → out[q] = 0) ∧ val 4294967296 out + cy * 4294967296 ^ (i + j) = val 4294967296 out0 + l[i]'(by omega) * val 4294967296 (r.take j) * 4294967296 ^ i := hC
    show T 68 _ [(0, .slice (A) (n) (c)), (1, .slice (B) (m) (d)), (4, .slice (none) (0) (0)), (5, .slice (A1) (n + m) (n + m)), (6, .int .i64 (((i : Nat) : Int))), (7, .int .u32 ((((l)[i] : Nat) : Int))), (8, .int .u64 (((cy : Nat) : Int))), (12, .slice (A) (n) (c)), (13, .int .i64 (((n : Nat) : Int))), (14, .slice (B) (m) (d)), (15, .int .i64 (((m : Nat) : Int))), (16, .int .i64 (((n + m : Nat) : Int))), (17, .slice (A1) (n + m) (n + m)), (18, .slice (A) (n) (c)), (19, .int .i64 (((n : Nat) : Int))), (20, .int .i64 (((i : Nat) : Int))), (21, .bool (true)), (22, .int .i64 (((i : Nat) : Int))), (23, .pointer (some ⟨b3, o4 + i * 1, none⟩)), (24, .int .u32 ((((l)[i] : Nat) : Int))), (25, .slice (B) (m) (d)), (26, .int .i64 (((m : Nat) : Int))), (27, .int .i64 (((j : Nat) : Int)))] ([.r (A1) (n + m) (n + m) 105 1 ((out).flatMap eW)] ++ [.old w])
    obtain ⟨hD1, hD2, hD3, hD4, hD5, hD6⟩ := hC
    refine T_seq ?_
    refine T_reg ?_
    refine T_val (Ev_lss rfl rfl) rfl ?_
    refine T_nil ?_
    refine T_next ?_
    refine T_seq ?_
    refine T_caseP (s := 28) rfl (fun h7 => ?_) (fun h7 => ?_)
    · refine T_condT rfl ?_
      refine T_skip ?_
      refine T_next ?_
      refine T_seq ?_
      refine T_block ?_
      refine T_seq ?_
      refine T_reg ?_
      refine T_val (Ev_move rfl) rfl ?_
      obtain ⟨b8, o9, hA10, hp11⟩ := Has.elem ht (i := j) (by omega)
      refine T_val (Ev_index rfl rfl hA10 (j := j) rfl (by omega) slc114) rfl ?_
      refine T_val (Ev_loadP0 rfl hp11 (SubE.cons2 (i := 1) rfl (SubE.nil)) rfl one105) rfl ?_
      refine T_val (Ev_assign rfl) rfl ?_
      refine T_val (Ev_assign rfl) rfl ?_
      refine T_nil ?_
      refine T_next ?_
      refine T_seq ?_
      refine T_reg ?_
      have hlt1 := hl (l[i]'(by omega)) (List.getElem_mem _)
      have hlt2 := hr (r[j]'(by omega)) (List.getElem_mem _)
      have hlt3 := hD4 (out[i + j]'(by omega)) (List.getElem_mem _)
      have hmm := mul_lt32 hlt1 hlt2
      refine T_val (Ev_move rfl) rfl ?_
      refine T_val (Ev_convN ((l)[i]) rfl (by kernel_rfl) Try.underlying169 (by simp only [top]; omega)) rfl ?_
      refine T_val (Ev_move rfl) rfl ?_
      refine T_val (Ev_convN ((r)[j]) rfl (by kernel_rfl) Try.underlying169 (by simp only [top]; omega)) rfl ?_
      refine T_val (Ev_mulN ((l)[i]) ((r)[j]) rfl rfl (by simp only [top]; omega)) rfl ?_
      refine T_val (Ev_move rfl) rfl ?_
      refine T_val (Ev_move rfl) rfl ?_
      refine T_val (Ev_move rfl) rfl ?_
      refine T_val (Ev_addN (i) (j) rfl rfl (by simp only [top]; omega)) rfl ?_
      refine T_rowH eW (out) (i := 0) rfl (by decide) (fun _ => rfl) (fun hn16 hs17 => ?_)
      refine T_rowA (i := 0) rfl (by omega) (fun g18 hA14 => ?_)
      have hl19 : i + j < (out).length := by omega
      obtain ⟨b12, o13, hA14', hp15⟩ := Has.elem hs17 (i := i + j) hl19
      obtain ⟨rfl, rfl⟩ : g18 = b12 ∧ 0 = o13 := by rw [hA14] at hA14'; simpa using hA14'
      refine T_val (Ev_index rfl rfl hA14 (j := i + j) rfl (by omega) slc114) rfl ?_
      refine T_val (Ev_loadP0 rfl hp15 (SubE.cons2 (i := 0) rfl (SubE.nil)) rfl one105) rfl ?_
      refine T_val (Ev_convN ((out)[i + j]) rfl (by kernel_rfl) Try.underlying169 (by simp only [top]; omega)) rfl ?_
      refine T_val (Ev_addN (((l)[i]) * ((r)[j])) ((out)[i + j]) rfl rfl (by simp only [top]; omega)) rfl ?_
      refine T_val (Ev_move rfl) rfl ?_
      refine T_val (Ev_addN ((((l)[i]) * ((r)[j])) + ((out)[i + j])) (cy) rfl rfl (by simp only [top]; omega)) rfl ?_
      refine T_val (Ev_assign rfl) rfl ?_
      refine T_nil ?_
      refine T_next ?_
      refine T_seq ?_
      refine T_reg ?_
      refine T_val (Ev_move rfl) rfl ?_
      refine T_val (Ev_move rfl) rfl ?_
      refine T_val (Ev_move rfl) rfl ?_
      refine T_val (Ev_addN (i) (j) rfl rfl (by simp only [top]; omega)) rfl ?_
      refine T_val (Ev_move rfl) rfl ?_
      refine T_val (Ev_conv32 (((((l)[i]) * ((r)[j])) + ((out)[i + j])) + cy) rfl (by kernel_rfl) Try.underlying105) rfl ?_
      refine T_rowH eW (out) (i := 0) rfl (by decide) (fun _ => rfl) (fun hn24 hs25 => ?_)
      refine T_rowA (i := 0) rfl (by omega) (fun g26 hA22 => ?_)
      have hl27 : i + j < (out).length := by omega
      obtain ⟨b20, o21, hA22', hp23⟩ := Has.elem hs25 (i := i + j) hl27
      obtain ⟨rfl, rfl⟩ : g26 = b20 ∧ 0 = o21 := by rw [hA22] at hA22'; simpa using hA22'
      refine T_val (Ev_index rfl rfl hA22 (j := i + j) rfl (by omega) slc114) rfl ?_
      refine T_h (Wh_storeN eW (out) ((((((l)[i]) * ((r)[j])) + ((out)[i + j])) + cy) % 4294967296) (i + j) 1 rfl rfl rfl (.here) (by first | omega | simp; done | (simp; omega)) hA22 (by omega) (by omega) (fun _ _ => rfl) rfl (by decide) rfl one105.2 ?_)
      refine T_nil ?_
      refine T_next ?_
      refine T_reg ?_
      refine T_val (Ev_move rfl) rfl ?_
      refine T_val (Ev_shrN (((((l)[i]) * ((r)[j])) + ((out)[i + j])) + cy) (32) (q := 4294967296) rfl rfl (by decide) (by decide)) rfl ?_
      refine T_val (Ev_assign rfl) rfl ?_
      refine T_nil ?_
      refine T_inN ?_
      refine T_next ?_
      refine T_reg ?_
      refine T_val (Ev_addN (j) (1) rfl rfl (by simp only [top]; omega)) rfl ?_
      refine T_val (Ev_move rfl) rfl ?_
      refine T_nil ?_
      refine T_round (σ := List Nat × Nat × Nat) (I := fun (out, cy, j) => [(0, .slice (A) (n) (c)), (1, .slice (B) (m) (d)), (4, .slice (none) (0) (0)), (5, .slice (A1) (n + m) (n + m)), (6, .int .i64 (((i : Nat) : Int))), (7, .int .u32 ((((l)[i] : Nat) : Int))), (8, .int .u64 (((cy : Nat) : Int))), (12, .slice (A) (n) (c)), (13, .int .i64 (((n : Nat) : Int))), (14, .slice (B) (m) (d)), (15, .int .i64 (((m : Nat) : Int))), (16, .int .i64 (((n + m : Nat) : Int))), (17, .slice (A1) (n + m) (n + m)), (18, .slice (A) (n) (c)), (19, .int .i64 (((n : Nat) : Int))), (20, .int .i64 (((i : Nat) : Int))), (21, .bool (true)), (22, .int .i64 (((i : Nat) : Int))), (23, .pointer (some ⟨b3, o4 + i * 1, none⟩)), (24, .int .u32 ((((l)[i] : Nat) : Int))), (25, .slice (B) (m) (d)), (26, .int .i64 (((m : Nat) : Int))), (27, .int .i64 (((j : Nat) : Int)))]) (H := fun (out, cy, j) => [.r (A1) (n + m) (n + m) 105 1 ((out).flatMap eW)] ++ [.old w]) (C := fun (out, cy, j) => out.length = n + m ∧ cy < 4294967296 ∧ j ≤ m ∧ (∀ x ∈ out, x < 4294967296) ∧ (∀ (q : Nat) (h : q < out.length), i + m ≤ q → out[q] = 0) ∧ val 4294967296 out + cy * 4294967296 ^ (i + j) = val 4294967296 out0 + l[i]'(by omega) * val 4294967296 (r.take j) * 4294967296 ^ i) (μ := fun (out, cy, j) => m - j) (s := (out, cy, j)) ((out.set (i + j) ((l[i]'(by omega) * r[j]'(by omega) + out[i + j]'(by omega) + cy) % 4294967296), (l[i]'(by omega) * r[j]'(by omega) + out[i + j]'(by omega) + cy) / 4294967296, j + 1)) ?_ ?_ ?_ ?_
      · exact (mul_inner (by omega) (by omega) hn hm hlt1 hlt2 hD1 hD2 hD3 hD4 hD5 hD6 (by omega))
      · exact (show m - (j + 1) < m - j by omega)
      · exact .cons rfl (.cons rfl (.cons rfl (.cons rfl (.cons rfl (.cons rfl (.cons rfl (.cons rfl (.cons rfl (.cons rfl (.cons rfl (.cons rfl (.cons rfl (.cons rfl (.cons rfl (.cons rfl (.cons rfl (.cons rfl (.cons rfl (.cons rfl (.cons rfl (.cons rfl (.cons rfl (.nil)))))))))))))))))))))))
      · exact .keep (.refl)
    · refine T_condF rfl ?_
      refine T_exit ?_
      refine T_outX ?_
      refine T_outX ?_
      refine T_here ?_
      refine T_next ?_
      refine T_reg ?_
      refine T_val (Ev_move rfl) rfl ?_
      refine T_val (Ev_move rfl) rfl ?_
      refine T_val (Ev_move rfl) rfl ?_
      refine T_val (Ev_len rfl 105 Try.underlying114) rfl ?_
      refine T_val (Ev_addN (i) (m) rfl rfl (by simp only [top]; omega)) rfl ?_
      refine T_val (Ev_move rfl) rfl ?_
      refine T_val (Ev_conv32 (cy) rfl (by kernel_rfl) Try.underlying105) rfl ?_
      refine T_rowH eW (out) (i := 0) rfl (by decide) (fun _ => rfl) (fun hn32 hs33 => ?_)
      refine T_rowA (i := 0) rfl (by omega) (fun g34 hA30 => ?_)
      have hl35 : i + m < (out).length := by omega
      obtain ⟨b28, o29, hA30', hp31⟩ := Has.elem hs33 (i := i + m) hl35
      obtain ⟨rfl, rfl⟩ : g34 = b28 ∧ 0 = o29 := by rw [hA30] at hA30'; simpa using hA30'
      refine T_val (Ev_index rfl rfl hA30 (j := i + m) rfl (by omega) slc114) rfl ?_
      refine T_h (Wh_storeN eW (out) (cy % 4294967296) (i + m) 1 rfl rfl rfl (.here) (by first | omega | simp; done | (simp; omega)) hA30 (by omega) (by omega) (fun _ _ => rfl) rfl (by decide) rfl one105.2 ?_)
      refine T_nil ?_
      refine T_inN ?_
      refine T_next ?_
      refine T_reg ?_
      refine T_val (Ev_addN (i) (1) rfl rfl (by simp only [top]; omega)) rfl ?_
      refine T_val (Ev_move rfl) rfl ?_
      refine T_nil ?_
      refine T_round (σ := List Nat × Nat) (I := fun (out0, i) => [(0, .slice (A) (n) (c)), (1, .slice (B) (m) (d)), (4, .slice (none) (0) (0)), (5, .slice (A1) (n + m) (n + m)), (12, .slice (A) (n) (c)), (13, .int .i64 (((n : Nat) : Int))), (14, .slice (B) (m) (d)), (15, .int .i64 (((m : Nat) : Int))), (16, .int .i64 (((n + m : Nat) : Int))), (17, .slice (A1) (n + m) (n + m)), (18, .slice (A) (n) (c)), (19, .int .i64 (((n : Nat) : Int))), (20, .int .i64 (((i : Nat) : Int)))]) (H := fun (out0, i) => [.r (A1) (n + m) (n + m) 105 1 ((out0).flatMap eW)] ++ [.old w]) (C := fun (out0, i) => out0.length = n + m ∧ i ≤ n ∧ (∀ x ∈ out0, x < 4294967296) ∧ (∀ (q : Nat) (h : q < out0.length), i + m ≤ q → out0[q] = 0) ∧ val 4294967296 out0 = val 4294967296 (l.take i) * val 4294967296 r) (μ := fun (out0, i) => n - i) (s := (out0, i)) ((out.set (i + m) (cy % 4294967296), i + 1)) ?_ ?_ ?_ ?_
      · exact (mul_outer (by omega) hn hm hD1 hD2 hD4 hD5 hD6 hC5 (by omega))
      · exact (show n - (i + 1) < n - i by omega)
      · exact .cons rfl (.cons rfl (.cons rfl (.cons rfl (.cons rfl (.cons rfl (.cons rfl (.cons rfl (.cons rfl (.cons rfl (.cons rfl (.cons rfl (.cons rfl (.nil)))))))))))))
      · exact .keep (.refl)
  · refine T_condF rfl ?_
    refine T_exit ?_
    refine T_outX ?_
    refine T_outX ?_
    refine T_here ?_
    refine T_next ?_
    refine T_seq ?_
    refine T_reg ?_
    refine T_val (Ev_move rfl) rfl ?_
    refine T_rowH eW (out0) (i := 0) rfl (by decide) (fun _ => rfl) (fun hn36 hs37 => ?_)
    refine T_x (Wx_call rfl (fun w1 hw1 => norm_ok hs37 w1 (okAll (by exact (SubE.cons2 (i := 0) rfl (SubE.nil))) hw1)) rfl ?_)
    rintro _ rfl
    have hs38 := Has.nrm hs37
    refine T_val (Ev_assign rfl) rfl ?_
    refine T_nil ?_
    refine T_next ?_
    refine T_retc ?_
    refine T_retL (rs := [.tmp 4]) Try.results107 (.tmp rfl (.nil)) (Ln := [.r (A1) (n + m) (n + m) 105 1 ((out0).flatMap eW)]) (⟨.r (A1) (n + m) (n + m) 105 1 ((out0).flatMap eW), ⟨_, _, _, rfl, by rw [← mul_done (i := i) (by omega) hn hC1 hC3 hC5]; exact hs38⟩, rfl⟩) (loCons rfl (loNil)) (.keep (.refl))
set_option maxRecDepth 100000 in
theorem cmp32_ok {A n c B m d} {x y : Nat} {K : List Ent} (ha : Has K A n c 1 eW (dig 4294967296 x)) (hb : Has K B m d 1 eW (dig 4294967296 y)) (w : World) (hK : ∀ e ∈ K, Ent.ok w e) : Ct Try.prog 109 [.slice A n c, .slice B m d] w fun v => v = .int .i64 (cmpN x y) := by
  have hs := (ha.sl hK).has
  have ht := (hb.sl hK).has
  have hn := ha.len
  have hm := hb.len
  have hsm := ha.small
  have hsm2 := hb.small
  refine CtL.mk 41 Try.func109 rfl Try.ntmps109 (by kernel_rfl) rfl ?_
  show T 41 _ [(0, .slice (A) (n) (c)), (1, .slice (B) (m) (d))] _
  refine T_seq ?_
  refine T_reg ?_
  refine T_val (Ev_assign rfl) rfl ?_
  refine T_nil ?_
  refine T_next ?_
  refine T_seq ?_
  refine T_seq ?_
  refine T_reg ?_
  refine T_val (Ev_move rfl) rfl ?_
  refine T_val (Ev_len rfl 105 Try.underlying114) rfl ?_
  refine T_val (Ev_move rfl) rfl ?_
  refine T_val (Ev_len rfl 105 Try.underlying114) rfl ?_
  refine T_val (Ev_neq rfl rfl) rfl ?_
  refine T_nil ?_
  refine T_next ?_
  refine T_caseNP (s := 10) rfl (fun h1 => ?_) (fun h1 => ?_)
  · refine T_condT rfl ?_
    refine T_seq ?_
    refine T_seq ?_
    refine T_reg ?_
    refine T_val (Ev_move rfl) rfl ?_
    refine T_val (Ev_len rfl 105 Try.underlying114) rfl ?_
    refine T_val (Ev_move rfl) rfl ?_
    refine T_val (Ev_len rfl 105 Try.underlying114) rfl ?_
    refine T_val (Ev_lss rfl rfl) rfl ?_
    refine T_nil ?_
    refine T_next ?_
    refine T_caseP (s := 15) rfl (fun h2 => ?_) (fun h2 => ?_)
    · refine T_condT rfl ?_
      refine T_seq ?_
      refine T_reg ?_
      refine T_val (Ev_assign rfl) rfl ?_
      refine T_nil ?_
      refine T_next ?_
      refine T_retc ?_
      refine T_outR ?_
      refine T_outR ?_
      refine T_retL (rs := [.tmp 4]) Try.results109 (.tmp rfl (.nil)) (Ln := []) (⟨by first | (simp only [resVal]; rw [(cmp_len (b := 4294967296) (by omega) hn hm).1 (by omega)]; done) | (simp only [resVal]; rw [(cmp_at (b := 4294967296) (k := k - 1) (by omega) (by omega) (by omega) (by omega) (fun j h h' hj => hC2 j h h' (by omega))).1 (by omega)]), rfl⟩) (loNil) (.refl)
    · refine T_condF rfl ?_
      refine T_skip ?_
      refine T_next ?_
      refine T_seq ?_
      refine T_reg ?_
      refine T_val (Ev_assign rfl) rfl ?_
      refine T_nil ?_
      refine T_next ?_
      refine T_retc ?_
      refine T_outR ?_
      refine T_retL (rs := [.tmp 4]) Try.results109 (.tmp rfl (.nil)) (Ln := []) (⟨by first | (simp only [resVal]; rw [(cmp_len (b := 4294967296) (by omega) hn hm).2 (by omega)]; done) | (simp only [resVal]; rw [(cmp_at (b := 4294967296) (k := k - 1) (by omega) (by omega) (by omega) (by omega) (fun j h h' hj => hC2 j h h' (by omega))).2 (by omega)]), rfl⟩) (loNil) (.refl)
  · refine T_condF rfl ?_
    refine T_skip ?_
    refine T_next ?_
    refine T_seq ?_
    refine T_seq ?_
    refine T_reg ?_
    refine T_val (Ev_move rfl) rfl ?_
    refine T_val (Ev_len rfl 105 Try.underlying114) rfl ?_
    refine T_val (Ev_sub rfl rfl (by omega) (by omega)) rfl ?_
    refine T_val (Ev_assign rfl) rfl ?_
    refine T_nil ?_
    refine T_next ?_
    refine T_block ?_
    refine T_loop (σ := Nat) (fun k => [(0, .slice (A) (n) (c)), (1, .slice (B) (m) (d)), (5, .int .i64 ((k : Int) - 1)), (6, .slice (A) (n) (c)), (7, .int .i64 (((n : Nat) : Int))), (8, .slice (B) (m) (d)), (9, .int .i64 (((m : Nat) : Int))), (10, .bool (false)), (16, .slice (A) (n) (c)), (17, .int .i64 (((n : Nat) : Int))), (18, .int .i64 ((((n : Nat) : Int)) - (1)))]) (fun k => [] ++ [.old w]) (fun k => k ≤ n ∧ ∀ (j : Nat) (h : j < (dig 4294967296 x).length) (h' : j < (dig 4294967296 y).length), k ≤ j → (dig 4294967296 x)[j] = (dig 4294967296 y)[j]) (fun k => k) (n) ?_ ?_ ?_ ?_
    · exact ⟨Nat.le_refl _, fun j h h' hj => absurd h (by omega)⟩
    · exact .cons rfl (.cons rfl (.cons rfl (.cons rfl (.cons rfl (.cons rfl (.cons rfl (.cons rfl (.cons rfl (.cons rfl (.cons rfl (.nil)))))))))))
    · exact .refl
    intro k hC
    obtain ⟨hC1, hC2⟩ := hC
    refine T_seq ?_
    refine T_seq ?_
    refine T_reg ?_
    refine T_val (Ev_move rfl) rfl ?_
    refine T_val (Ev_geq rfl rfl) rfl ?_
    refine T_nil ?_
    refine T_next ?_
    refine T_caseP (s := 20) rfl (fun h3 => ?_) (fun h3 => ?_)
    · refine T_condT rfl ?_
      refine T_skip ?_
      refine T_next ?_
      refine T_seq ?_
      refine T_block ?_
      refine T_seq ?_
      refine T_draw [0, 0, 0, 1, 0, 0, 0, 1, 0] [[], [], [0, 1], [0, 1, 2], [], [], [4, 5], [4, 5, 6], [0, 1, 2, 3, 4, 5, 6, 7]] (.q 0 (.q 1 (.q 2 (.q 3 (.q 4 (.q 5 (.q 6 (.q 7 (.q 8 (.done)))))))))) mixed (by kernel_rfl) (by kernel_rfl) ?_
      refine P_p rfl rfl (Ev_move rfl) rfl ?_
      refine P_p rfl rfl (Ev_move rfl) rfl ?_
      obtain ⟨b4, o5, hA6, hp7⟩ := Has.elem hs (i := k - 1) (by omega)
      refine P_p rfl rfl (Ev_index rfl rfl hA6 (j := k - 1) (by omega) (by omega) slc114) rfl ?_
      refine P_q rfl rfl (Ev_loadP0 rfl hp7 (SubE.cons2 (i := 0) rfl (SubE.nil)) rfl one105) rfl ?_
      refine P_p rfl rfl (Ev_move rfl) rfl ?_
      refine P_p rfl rfl (Ev_move rfl) rfl ?_
      obtain ⟨b8, o9, hA10, hp11⟩ := Has.elem ht (i := k - 1) (by omega)
      refine P_p rfl rfl (Ev_index rfl rfl hA10 (j := k - 1) (by omega) (by omega) slc114) rfl ?_
      refine P_q rfl rfl (Ev_loadP0 rfl hp11 (SubE.cons2 (i := 0) rfl (SubE.nil)) rfl one105) rfl ?_
      refine P_p rfl rfl (Ev_neq rfl rfl) rfl ?_
      refine P_done ?_
      refine T_next ?_
      refine T_caseNP (s := 31) rfl (fun h12 => ?_) (fun h12 => ?_)
      · refine T_condT rfl ?_
        refine T_seq ?_
        refine T_seq ?_
        refine T_draw [0, 0, 0, 1, 0, 0, 0, 1, 0] [[], [], [0, 1], [0, 1, 2], [], [], [4, 5], [4, 5, 6], [0, 1, 2, 3, 4, 5, 6, 7]] (.q 0 (.q 1 (.q 2 (.q 3 (.q 4 (.q 5 (.q 6 (.q 7 (.q 8 (.done)))))))))) mixed (by kernel_rfl) (by kernel_rfl) ?_
        refine P_p rfl rfl (Ev_move rfl) rfl ?_
        refine P_p rfl rfl (Ev_move rfl) rfl ?_
        obtain ⟨b13, o14, hA15, hp16⟩ := Has.elem hs (i := k - 1) (by omega)
        refine P_p rfl rfl (Ev_index rfl rfl hA15 (j := k - 1) (by omega) (by omega) slc114) rfl ?_
        refine P_q rfl rfl (Ev_loadP0 rfl hp16 (SubE.cons2 (i := 0) rfl (SubE.nil)) rfl one105) rfl ?_
        refine P_p rfl rfl (Ev_move rfl) rfl ?_
        refine P_p rfl rfl (Ev_move rfl) rfl ?_
        obtain ⟨b17, o18, hA19, hp20⟩ := Has.elem ht (i := k - 1) (by omega)
        refine P_p rfl rfl (Ev_index rfl rfl hA19 (j := k - 1) (by omega) (by omega) slc114) rfl ?_
        refine P_q rfl rfl (Ev_loadP0 rfl hp20 (SubE.cons2 (i := 0) rfl (SubE.nil)) rfl one105) rfl ?_
        refine P_p rfl rfl (Ev_lss rfl rfl) rfl ?_
        refine P_done ?_
        refine T_next ?_
        refine T_caseP (s := 40) rfl (fun h21 => ?_) (fun h21 => ?_)
        · refine T_condT rfl ?_
          refine T_seq ?_
          refine T_reg ?_
          refine T_val (Ev_assign rfl) rfl ?_
          refine T_nil ?_
          refine T_next ?_
          refine T_retc ?_
          refine T_outR ?_
          refine T_inR ?_
          refine T_outR ?_
          refine T_outR ?_
          refine T_inR ?_
          refine T_outR ?_
          refine T_retL (rs := [.tmp 4]) Try.results109 (.tmp rfl (.nil)) (Ln := []) (⟨by first | (simp only [resVal]; rw [(cmp_len (b := 4294967296) (by omega) hn hm).1 (by omega)]; done) | (simp only [resVal]; rw [(cmp_at (b := 4294967296) (k := k - 1) (by omega) (by omega) (by omega) (by omega) (fun j h h' hj => hC2 j h h' (by omega))).1 (by omega)]), rfl⟩) (loNil) (.refl)
        · refine T_condF rfl ?_
          refine T_skip ?_
          refine T_next ?_
          refine T_seq ?_
          refine T_reg ?_
          refine T_val (Ev_assign rfl) rfl ?_
          refine T_nil ?_
          refine T_next ?_
          refine T_retc ?_
          refine T_inR ?_
          refine T_outR ?_
          refine T_outR ?_
          refine T_inR ?_
          refine T_outR ?_
          refine T_retL (rs := [.tmp 4]) Try.results109 (.tmp rfl (.nil)) (Ln := []) (⟨by first | (simp only [resVal]; rw [(cmp_len (b := 4294967296) (by omega) hn hm).2 (by omega)]; done) | (simp only [resVal]; rw [(cmp_at (b := 4294967296) (k := k - 1) (by omega) (by omega) (by omega) (by omega) (fun j h h' hj => hC2 j h h' (by omega))).2 (by omega)]), rfl⟩) (loNil) (.refl)
      · refine T_condF rfl ?_
        refine T_skip ?_
        refine T_inN ?_
        refine T_next ?_
        refine T_reg ?_
        refine T_val (Ev_move rfl) rfl ?_
        refine T_val (Ev_sub rfl rfl (by omega) (by omega)) rfl ?_
        refine T_val (Ev_assign rfl) rfl ?_
        refine T_nil ?_
        refine T_slot (s := 5) (v' := .int .i64 (((k - 1 : Nat) : Int) - 1)) rfl (by congr 1; omega) ?_
        refine T_round (σ := Nat) (I := fun k => [(0, .slice (A) (n) (c)), (1, .slice (B) (m) (d)), (5, .int .i64 ((k : Int) - 1)), (6, .slice (A) (n) (c)), (7, .int .i64 (((n : Nat) : Int))), (8, .slice (B) (m) (d)), (9, .int .i64 (((m : Nat) : Int))), (10, .bool (false)), (16, .slice (A) (n) (c)), (17, .int .i64 (((n : Nat) : Int))), (18, .int .i64 ((((n : Nat) : Int)) - (1)))]) (H := fun k => [] ++ [.old w]) (C := fun k => k ≤ n ∧ ∀ (j : Nat) (h : j < (dig 4294967296 x).length) (h' : j < (dig 4294967296 y).length), k ≤ j → (dig 4294967296 x)[j] = (dig 4294967296 y)[j]) (μ := fun k => k) (s := k) (k - 1) ?_ ?_ ?_ ?_
        · exact ⟨by omega, fun j h h' hj => (by rcases Nat.lt_or_ge (k - 1) j with hq | hq; exact hC2 j h h' (by omega); have e : j = k - 1 := (by omega); subst e; omega)⟩
        · exact (show k - 1 < k by omega)
        · exact .cons rfl (.cons rfl (.cons rfl (.cons rfl (.cons rfl (.cons rfl (.cons rfl (.cons rfl (.cons rfl (.cons rfl (.cons rfl (.nil)))))))))))
        · exact .refl
    · refine T_condF rfl ?_
      refine T_exit ?_
      refine T_outX ?_
      refine T_outX ?_
      refine T_here ?_
      refine T_next ?_
      refine T_seq ?_
      refine T_reg ?_
      refine T_val (Ev_assign rfl) rfl ?_
      refine T_nil ?_
      refine T_next ?_
      refine T_retc ?_
      refine T_retL (rs := [.tmp 4]) Try.results109 (.tmp rfl (.nil)) (Ln := []) (⟨by simp only [resVal]; rw [cmp_eq (b := 4294967296) (by omega) (by omega) (fun j h h' => hC2 j h h' (by omega))], rfl⟩) (loNil) (.refl)
set_option maxRecDepth 100000 in
theorem word1_ok {A n c} {l : List Nat} {d : Nat} {K : List Ent} (ha : Has K A n c 1 eW l) (hl : ∀ x ∈ l, x < 4294967296) (hd : d = 1) (hb : n ≤ 1000000000) (w : World) (hK : ∀ e ∈ K, Ent.ok w e) : Ct Try.prog 146 [.slice A n c, .int .u32 (d : Int)] w fun v => ∃ A k c, v = .tuple #[.slice A k c, .int .u32 ((0 : Nat) : Int)] := by
  have hs := (ha.sl hK).has
  have hn := ha.len
  have hsm := ha.small
  refine CtL.mk 44 Try.func146 rfl Try.ntmps146 (by kernel_rfl) rfl ?_
  show T 44 _ [(0, .slice (A) (n) (c)), (1, .int .u32 (((d : Nat) : Int)))] _
  refine T_seq ?_
  refine T_reg ?_
  refine T_val (Ev_assign rfl) rfl ?_
  refine T_val (Ev_assign rfl) rfl ?_
  refine T_nil ?_
  refine T_next ?_
  refine T_seq ?_
  refine T_reg ?_
  refine T_val (Ev_move rfl) rfl ?_
  refine T_val (Ev_len rfl 105 Try.underlying114) rfl ?_
  refine T_x (Wx_make1 (z := .int .u32 (0)) rfl rfl (m := n) (by omega) (by omega) Try.underlying114 (show Try.prog.info? 105 = some Try.t105 from by kernel_rfl) (by kernel_rfl) rfl (by kernel_rfl) (by show 4 * n ≤ _; omega) (by omega) rfl (fun A1 => ?_))
  refine T_ent .here (e' := .r (A1) (n) (n) 105 1 ((List.replicate (n) (0 : Nat)).flatMap eW)) (by simp [eW, List.flatMap_replicate]) ?_
  refine T_val (Ev_assign rfl) rfl ?_
  refine T_nil ?_
  refine T_next ?_
  refine T_seq ?_
  refine T_reg ?_
  refine T_val (Ev_assign rfl) rfl ?_
  refine T_nil ?_
  refine T_next ?_
  refine T_seq ?_
  refine T_seq ?_
  refine T_reg ?_
  refine T_val (Ev_move rfl) rfl ?_
  refine T_val (Ev_len rfl 105 Try.underlying114) rfl ?_
  refine T_val (Ev_sub rfl rfl (by omega) (by omega)) rfl ?_
  refine T_val (Ev_assign rfl) rfl ?_
  refine T_nil ?_
  refine T_next ?_
  refine T_block ?_
  refine T_loop (σ := List Nat × Nat) (fun (out, k) => [(0, .slice (A) (n) (c)), (1, .int .u32 (((d : Nat) : Int))), (4, .slice (none) (0) (0)), (5, .int .u32 (0)), (6, .slice (A1) (n) (n)), (7, .int .u64 (((0 : Nat) : Int))), (8, .int .i64 ((k : Int) - 1)), (10, .slice (A) (n) (c)), (11, .int .i64 (((n : Nat) : Int))), (12, .slice (A1) (n) (n)), (13, .slice (A) (n) (c)), (14, .int .i64 (((n : Nat) : Int))), (15, .int .i64 ((((n : Nat) : Int)) - (1)))]) (fun (out, k) => [.r (A1) (n) (n) 105 1 ((out).flatMap eW)] ++ [.old w]) (fun (out, k) => out.length = n ∧ k ≤ n) (fun (out, k) => k) ((List.replicate n 0, n)) ?_ ?_ ?_ ?_
  · exact ⟨by simp, Nat.le_refl _⟩
  · exact .cons rfl (.cons rfl (.cons rfl (.cons rfl (.cons rfl (.cons rfl (.cons rfl (.cons rfl (.cons rfl (.cons rfl (.cons rfl (.cons rfl (.cons rfl (.nil)))))))))))))
  · exact .keep (.refl)
  intro ⟨out, k⟩ hC
  replace hC : out.length = n ∧ k ≤ n := hC
  show T 44 _ [(0, .slice (A) (n) (c)), (1, .int .u32 (((d : Nat) : Int))), (4, .slice (none) (0) (0)), (5, .int .u32 (0)), (6, .slice (A1) (n) (n)), (7, .int .u64 (((0 : Nat) : Int))), (8, .int .i64 ((k : Int) - 1)), (10, .slice (A) (n) (c)), (11, .int .i64 (((n : Nat) : Int))), (12, .slice (A1) (n) (n)), (13, .slice (A) (n) (c)), (14, .int .i64 (((n : Nat) : Int))), (15, .int .i64 ((((n : Nat) : Int)) - (1)))] ([.r (A1) (n) (n) 105 1 ((out).flatMap eW)] ++ [.old w])
  obtain ⟨hC1, hC2⟩ := hC
  refine T_seq ?_
  refine T_seq ?_
  refine T_reg ?_
  refine T_val (Ev_move rfl) rfl ?_
  refine T_val (Ev_geq rfl rfl) rfl ?_
  refine T_nil ?_
  refine T_next ?_
  refine T_caseP (s := 17) rfl (fun h2 => ?_) (fun h2 => ?_)
  · refine T_condT rfl ?_
    refine T_skip ?_
    refine T_next ?_
    refine T_seq ?_
    refine T_block ?_
    refine T_seq ?_
    refine T_reg ?_
    refine T_val (Ev_move rfl) rfl ?_
    refine T_val (Ev_shlN (0) (32) (q := 4294967296) rfl rfl (by decide) (by decide) (by rw [Nat.zero_mul]; exact Nat.zero_le _)) rfl ?_
    refine T_val (Ev_move rfl) rfl ?_
    refine T_val (Ev_move rfl) rfl ?_
    obtain ⟨b3, o4, hA5, hp6⟩ := Has.elem hs (i := k - 1) (by omega)
    refine T_val (Ev_index rfl rfl hA5 (j := k - 1) (by omega) (by omega) slc114) rfl ?_
    refine T_val (Ev_loadP0 rfl hp6 (SubE.cons2 (i := 1) rfl (SubE.nil)) rfl one105) rfl ?_
    have hlt := hl (l[k - 1]'(by omega)) (List.getElem_mem _)
    refine T_val (Ev_convN ((l)[k - 1]) rfl (by kernel_rfl) Try.underlying169 (by simp only [top]; omega)) rfl ?_
    refine T_val (Ev_orN (0) ((l)[k - 1]) rfl rfl (by omega) (by omega)) rfl ?_
    refine T_val (Ev_assign rfl) rfl ?_
    refine T_nil ?_
    refine T_next ?_
    refine T_seq ?_
    refine T_reg ?_
    refine T_val (Ev_move rfl) rfl ?_
    refine T_val (Ev_move rfl) rfl ?_
    refine T_val (Ev_move rfl) rfl ?_
    refine T_val (Ev_move rfl) rfl ?_
    refine T_val (Ev_convN (d) rfl (by kernel_rfl) Try.underlying169 (by simp only [top]; omega)) rfl ?_
    refine T_val (Ev_divN ((0 * 4294967296) + ((l)[k - 1])) (d) rfl rfl (by omega) (by simp only [top]; omega)) rfl ?_
    refine T_val (Ev_conv32 (((0 * 4294967296) + ((l)[k - 1])) / d) rfl (by kernel_rfl) Try.underlying105) rfl ?_
    refine T_rowH eW (out) (i := 0) rfl (by decide) (fun _ => rfl) (fun hn11 hs12 => ?_)
    refine T_rowA (i := 0) rfl (by omega) (fun g13 hA9 => ?_)
    have hl14 : k - 1 < (out).length := by omega
    obtain ⟨b7, o8, hA9', hp10⟩ := Has.elem hs12 (i := k - 1) hl14
    obtain ⟨rfl, rfl⟩ : g13 = b7 ∧ 0 = o8 := by rw [hA9] at hA9'; simpa using hA9'
    refine T_val (Ev_index rfl rfl hA9 (j := k - 1) (by omega) (by omega) slc114) rfl ?_
    refine T_h (Wh_storeN eW (out) ((((0 * 4294967296) + ((l)[k - 1])) / d) % 4294967296) (k - 1) 1 rfl rfl rfl (.here) (by first | omega | simp; done | (simp; omega)) hA9 (by omega) (by omega) (fun _ _ => rfl) rfl (by decide) rfl one105.2 ?_)
    refine T_nil ?_
    refine T_next ?_
    refine T_reg ?_
    refine T_val (Ev_move rfl) rfl ?_
    refine T_val (Ev_move rfl) rfl ?_
    refine T_val (Ev_convN (d) rfl (by kernel_rfl) Try.underlying169 (by simp only [top]; omega)) rfl ?_
    refine T_val (Ev_modN ((0 * 4294967296) + ((l)[k - 1])) (d) rfl rfl (by omega)) rfl ?_
    refine T_val (Ev_assign rfl) rfl ?_
    refine T_nil ?_
    refine T_inN ?_
    refine T_next ?_
    refine T_reg ?_
    refine T_val (Ev_move rfl) rfl ?_
    refine T_val (Ev_sub rfl rfl (by omega) (by omega)) rfl ?_
    refine T_val (Ev_assign rfl) rfl ?_
    refine T_nil ?_
    refine T_slot (s := 8) (v' := .int .i64 (((k - 1 : Nat) : Int) - 1)) rfl (by congr 1; omega) ?_
    refine T_slot (s := 7) (v' := .int .u64 ((0 : Nat) : Int)) rfl (by subst hd; simp [Nat.mod_one]) ?_
    refine T_round (σ := List Nat × Nat) (I := fun (out, k) => [(0, .slice (A) (n) (c)), (1, .int .u32 (((d : Nat) : Int))), (4, .slice (none) (0) (0)), (5, .int .u32 (0)), (6, .slice (A1) (n) (n)), (7, .int .u64 (((0 : Nat) : Int))), (8, .int .i64 ((k : Int) - 1)), (10, .slice (A) (n) (c)), (11, .int .i64 (((n : Nat) : Int))), (12, .slice (A1) (n) (n)), (13, .slice (A) (n) (c)), (14, .int .i64 (((n : Nat) : Int))), (15, .int .i64 ((((n : Nat) : Int)) - (1)))]) (H := fun (out, k) => [.r (A1) (n) (n) 105 1 ((out).flatMap eW)] ++ [.old w]) (C := fun (out, k) => out.length = n ∧ k ≤ n) (μ := fun (out, k) => k) (s := (out, k)) ((out.set (k - 1) ((0 * 4294967296 + l[k - 1]'(by omega)) / d % 4294967296), k - 1)) ?_ ?_ ?_ ?_
    · exact ⟨by simp [hC1], by omega⟩
    · exact (show k - 1 < k by omega)
    · exact .cons rfl (.cons rfl (.cons rfl (.cons rfl (.cons rfl (.cons rfl (.cons rfl (.cons rfl (.cons rfl (.cons rfl (.cons rfl (.cons rfl (.cons rfl (.nil)))))))))))))
    · exact .keep (.refl)
  · refine T_condF rfl ?_
    refine T_exit ?_
    refine T_outX ?_
    refine T_outX ?_
    refine T_here ?_
    refine T_next ?_
    refine T_seq ?_
    refine T_reg ?_
    refine T_val (Ev_move rfl) rfl ?_
    refine T_rowH eW (out) (i := 0) rfl (by decide) (fun _ => rfl) (fun hn15 hs16 => ?_)
    refine T_x (Wx_call rfl (fun w1 hw1 => norm_ok hs16 w1 (okAll (by exact (SubE.cons2 (i := 0) rfl (SubE.nil))) hw1)) rfl ?_)
    rintro _ rfl
    have hs17 := Has.nrm hs16
    refine T_val (Ev_move rfl) rfl ?_
    refine T_val (Ev_conv32 (0) rfl (by kernel_rfl) Try.underlying105) rfl ?_
    refine T_val (Ev_assign rfl) rfl ?_
    refine T_val (Ev_assign rfl) rfl ?_
    refine T_nil ?_
    refine T_next ?_
    refine T_retc ?_
    refine T_retL (rs := [.tmp 4, .tmp 5]) Try.results146 (.tmp rfl (.tmp rfl (.nil))) (Ln := []) (⟨⟨_, _, _, by simp only [resVal]; rfl⟩, rfl⟩) (loNil) (.drop (.refl))
set_option maxRecDepth 100000 in
theorem div1_ok {A n c B d} {x : Nat} {K : List Ent} (ha : Has K A n c 1 eW (dig 4294967296 x)) (hb : Has K B 1 d 1 eW [1]) (hb9 : n ≤ 1000000000) (w : World) (hK : ∀ e ∈ K, Ent.ok w e) : Ct Try.prog 135 [.slice A n c, .slice B 1 d] w fun v => ∃ q B c', v = .tuple #[q, .slice B 0 c'] := by
  have hs := (ha.sl hK).has
  have ht := (hb.sl hK).has
  have hn := ha.len
  have hsm := ha.small
  refine CtL.mk 88 Try.func135 rfl Try.ntmps135 (by kernel_rfl) rfl ?_
  show T 88 _ [(0, .slice (A) (n) (c)), (1, .slice (B) (1) (d))] _
  refine T_seq ?_
  refine T_reg ?_
  refine T_val (Ev_assign rfl) rfl ?_
  refine T_val (Ev_assign rfl) rfl ?_
  refine T_nil ?_
  refine T_next ?_
  refine T_seq ?_
  refine T_seq ?_
  refine T_reg ?_
  refine T_val (Ev_move rfl) rfl ?_
  refine T_val (Ev_move rfl) rfl ?_
  refine T_x (Wx_call rfl (fun w1 hw1 => cmp32_ok  hs (by rw [dig_one (by omega)]; exact ht)  w1 (okAll (K := [.old w]) (by exact (SubE.cons2 (i := 0) rfl (SubE.nil))) hw1)) rfl ?_)
  rintro _ rfl
  refine T_val (Ev_lss rfl rfl) rfl ?_
  refine T_nil ?_
  refine T_next ?_
  refine T_caseP (s := 16) rfl (fun h1 => ?_) (fun h1 => ?_)
  · refine T_condT rfl ?_
    refine T_seq ?_
    refine T_reg ?_
    refine T_val (Ev_move rfl) rfl ?_
    refine T_val (Ev_assign rfl) rfl ?_
    refine T_val (Ev_assign rfl) rfl ?_
    refine T_nil ?_
    refine T_next ?_
    refine T_retc ?_
    refine T_outR ?_
    refine T_retL (rs := [.tmp 4, .tmp 5]) Try.results135 (.tmp rfl (.tmp rfl (.nil))) (Ln := []) (⟨⟨_, _, _, by have h0 := (dig_len0 (b := 4294967296) (by omega) hn).2 (by simp only [cmpN] at *; split at * <;> omega); subst h0; rfl⟩, rfl⟩) (loNil) (.refl)
  · refine T_condF rfl ?_
    refine T_skip ?_
    refine T_next ?_
    refine T_seq ?_
    refine T_seq ?_
    refine T_reg ?_
    refine T_val (Ev_move rfl) rfl ?_
    refine T_val (Ev_len rfl 105 Try.underlying114) rfl ?_
    refine T_val (Ev_eql rfl rfl) rfl ?_
    refine T_nil ?_
    refine T_next ?_
    refine T_condT rfl ?_
    refine T_seq ?_
    refine T_reg ?_
    refine T_val (Ev_move rfl) rfl ?_
    refine T_val (Ev_move rfl) rfl ?_
    obtain ⟨b2, o3, hA4, hp5⟩ := Has.elem ht (i := 0) (by simp)
    refine T_val (Ev_index rfl rfl hA4 (j := 0) (by omega) (by omega) slc114) rfl ?_
    refine T_val (Ev_loadP0 rfl hp5 (SubE.cons2 (i := 0) rfl (SubE.nil)) rfl one105) rfl ?_
    refine T_x (Wx_call rfl (fun w1 hw1 => word1_ok  hs (by exact dig_lt (by omega) _) (by rfl) (by omega) w1 (okAll (K := [.old w]) (by exact (SubE.cons2 (i := 0) rfl (SubE.nil))) hw1)) rfl ?_)
    rintro _ ⟨A6, k7, c8, rfl⟩
    refine T_val (Ev_move rfl) rfl ?_
    refine T_val (Ev_extract rfl rfl) rfl ?_
    refine T_val (Ev_extract rfl rfl) rfl ?_
    refine T_val (Ev_assign rfl) rfl ?_
    refine T_val (Ev_assign rfl) rfl ?_
    refine T_nil ?_
    refine T_next ?_
    refine T_seq ?_
    refine T_reg ?_
    refine T_val (Ev_move rfl) rfl ?_
    refine T_val (Ev_move rfl) rfl ?_
    refine T_val (Ev_convN (0) rfl (by kernel_rfl) Try.underlying169 (by simp only [top]; omega)) rfl ?_
    refine T_x (Wx_call1 rfl (fun w _ => natOf_ok (0) (by omega) w) rfl ?_)
    rintro _ e9 lo_e9 ⟨A10, k11, c12, rfl, hs13⟩
    refine T_val (Ev_assign rfl) rfl ?_
    refine T_val (Ev_assign rfl) rfl ?_
    refine T_nil ?_
    refine T_next ?_
    refine T_retc ?_
    refine T_outR ?_
    refine T_retL (rs := [.tmp 4, .tmp 5]) Try.results135 (.tmp rfl (.tmp rfl (.nil))) (Ln := []) (⟨⟨_, _, _, by have h0 : k11 = 0 := hs13.len.symm; rw [h0]; rfl⟩, rfl⟩) (loNil) (.drop (.refl))
set_option maxRecDepth 100000 in
theorem gcd1_ok {A n c B m d} {x : Nat} {K : List Ent} (ha : Has K A n c 1 eW (dig 4294967296 x)) (hb : Has K B m d 1 eW [1]) (hb9 : n ≤ 1000000000) (w : World) (hK : ∀ e ∈ K, Ent.ok w e) : Ct Try.prog 134 [.slice A n c, .slice B m d] w fun v => v = .slice B m d := by
  obtain rfl : m = 1 := hb.len.symm
  have hs := (ha.sl hK).has
  have ht := (hb.sl hK).has
  have hn := ha.len
  have hsm := ha.small
  refine CtL.mk 19 Try.func134 rfl Try.ntmps134 (by kernel_rfl) rfl ?_
  show T 19 _ [(0, .slice (A) (n) (c)), (1, .slice (B) (1) (d))] _
  refine T_seq ?_
  refine T_reg ?_
  refine T_val (Ev_assign rfl) rfl ?_
  refine T_nil ?_
  refine T_next ?_
  refine T_seq ?_
  refine T_block ?_
  refine T_loopN 2 ?_
  refine T_rounds ?_
  refine T_seq ?_
  refine T_seq ?_
  refine T_reg ?_
  refine T_val (Ev_move rfl) rfl ?_
  refine T_val (Ev_len rfl 105 Try.underlying114) rfl ?_
  refine T_val (Ev_gtr rfl rfl) rfl ?_
  refine T_nil ?_
  refine T_next ?_
  refine T_condT rfl ?_
  refine T_skip ?_
  refine T_next ?_
  refine T_block ?_
  refine T_seq ?_
  refine T_reg ?_
  refine T_val (Ev_move rfl) rfl ?_
  refine T_val (Ev_move rfl) rfl ?_
  refine T_x (Wx_call rfl (fun w1 hw1 => div1_ok  hs ht (by omega) w1 (okAll (K := [.old w]) (by exact (SubE.cons2 (i := 0) rfl (SubE.nil))) hw1)) rfl ?_)
  rintro _ ⟨q1, B2, c3, rfl⟩
  refine T_val (Ev_move rfl) rfl ?_
  refine T_val (Ev_extract rfl rfl) rfl ?_
  refine T_val (Ev_extract rfl rfl) rfl ?_
  refine T_val (Ev_assign rfl) rfl ?_
  refine T_val (Ev_assign rfl) rfl ?_
  refine T_nil ?_
  refine T_next ?_
  refine T_reg ?_
  refine T_val (Ev_move rfl) rfl ?_
  refine T_val (Ev_move rfl) rfl ?_
  refine T_val (Ev_assign rfl) rfl ?_
  refine T_val (Ev_assign rfl) rfl ?_
  refine T_nil ?_
  refine T_inN ?_
  refine T_again ?_
  refine T_seq ?_
  refine T_seq ?_
  refine T_reg ?_
  refine T_val (Ev_move rfl) rfl ?_
  refine T_val (Ev_len rfl 105 Try.underlying114) rfl ?_
  refine T_val (Ev_gtr rfl rfl) rfl ?_
  refine T_nil ?_
  refine T_next ?_
  refine T_condF rfl ?_
  refine T_exit ?_
  refine T_outX ?_
  refine T_outX ?_
  refine T_here ?_
  refine T_next ?_
  refine T_seq ?_
  refine T_reg ?_
  refine T_val (Ev_move rfl) rfl ?_
  refine T_val (Ev_assign rfl) rfl ?_
  refine T_nil ?_
  refine T_next ?_
  refine T_retc ?_
  refine T_retL (rs := [.tmp 4]) Try.results134 (.tmp rfl (.nil)) (Ln := []) (⟨by first | rfl | simp [resVal], rfl⟩) (loNil) (.refl)
end Go.Proofs.Ytjhknbpiaikblaa
