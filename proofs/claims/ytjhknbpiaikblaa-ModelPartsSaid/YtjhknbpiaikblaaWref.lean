/- Walks of the program: the numbers of the document's answer. -/
import Derived.Test.YtjhknbpiaikblaaWrat
namespace Go.Proofs.Ytjhknbpiaikblaa
open Go Go.RowKit
theorem slc27 : SliceOf Try.prog 27 3 1 := .mk Try.underlying27 (show Try.prog.info? 3 = some Try.t3 from by kernel_rfl) (by kernel_rfl)
theorem zer43 : ZeroOf Try.prog 43 [.bool (false), .slice (none) (0) (0)] := ⟨_, Try.zeroValue43, rfl⟩
theorem bls27_1_0i64 (x0 : Int) : BuildSliceOf Try.prog 27 1 [(0, .int .i64 x0)] 3 [.int .i64 x0] := fun w => by kernel_rfl
theorem elm27 : ElemOf Try.prog 27 3 1 8 := ⟨Try.underlying27, ⟨Try.t3, .int .i64 (0), by kernel_rfl, by kernel_rfl, by kernel_rfl, by kernel_rfl, rfl⟩, by decide⟩
theorem bld43_0b1s (x0 : Bool) (x1 : Option Addr) (x2 : Nat) (x3 : Nat) : BuildOf Try.prog 43 [(0, .bool x0), (1, .slice x1 x2 x3)] [.bool x0, .slice x1 x2 x3] := fun w => by kernel_rfl
theorem agg43 : AggOf Try.prog 43 2 := .mk Try.underlying43 rfl (show Try.prog.info? 43 = some Try.t43 from by kernel_rfl) (by kernel_rfl)
theorem zer45 : ZeroOf Try.prog 45 [.bool (false), .slice (none) (0) (0), .slice (none) (0) (0)] := ⟨_, Try.zeroValue45, rfl⟩
theorem bld45_0abs1s (x0 : Bool) (x1 : Option Addr) (x2 : Nat) (x3 : Nat) (x4 : Option Addr) (x5 : Nat) (x6 : Nat) : BuildOf Try.prog 45 [(0, .agg #[.bool x0, .slice x1 x2 x3]), (1, .slice x4 x5 x6)] [.bool x0, .slice x1 x2 x3, .slice x4 x5 x6] := fun w => by kernel_rfl
theorem agg45 : AggOf Try.prog 45 3 := .mk Try.underlying45 rfl (show Try.prog.info? 45 = some Try.t45 from by kernel_rfl) (by kernel_rfl)
theorem bls30_1_0u32 (x0 : Int) : BuildSliceOf Try.prog 30 1 [(0, .int .u32 x0)] 105 [.int .u32 x0] := fun w => by kernel_rfl
theorem elm30 : ElemOf Try.prog 30 105 1 4 := ⟨Try.underlying30, ⟨Try.t105, .int .u32 (0), by kernel_rfl, by kernel_rfl, by kernel_rfl, by kernel_rfl, rfl⟩, by decide⟩
theorem fld45_0 : FieldOf Try.prog 45 0 0 := .mk Try.underlying45 rfl rfl (show Try.prog.info? 43 = some Try.t43 from by kernel_rfl) (show Try.t43.size = 2 from by kernel_rfl) rfl
theorem fld43_1 : FieldOf Try.prog 43 1 1 := .mk Try.underlying43 rfl rfl (show Try.prog.info? 27 = some Try.t27 from by kernel_rfl) (show Try.t27.size = 1 from by kernel_rfl) rfl
theorem one27 : OneOf Try.prog 27 := .mk Try.underlying27 rfl (show Try.prog.info? 27 = some Try.t27 from by kernel_rfl) (by kernel_rfl)
theorem fld45_1 : FieldOf Try.prog 45 1 2 := .mk Try.underlying45 rfl rfl (show Try.prog.info? 27 = some Try.t27 from by kernel_rfl) (show Try.t27.size = 1 from by kernel_rfl) rfl
theorem fld43_0 : FieldOf Try.prog 43 0 0 := .mk Try.underlying43 rfl rfl (show Try.prog.info? 4 = some Try.t4 from by kernel_rfl) (show Try.t4.size = 1 from by kernel_rfl) rfl
theorem bld32_0b1s2s (x0 : Bool) (x1 : Option Addr) (x2 : Nat) (x3 : Nat) (x4 : Option Addr) (x5 : Nat) (x6 : Nat) : BuildOf Try.prog 32 [(0, .bool x0), (1, .slice x1 x2 x3), (2, .slice x4 x5 x6)] [.bool x0, .slice x1 x2 x3, .slice x4 x5 x6] := fun w => by kernel_rfl
theorem slc30 : SliceOf Try.prog 30 105 1 := .mk Try.underlying30 (show Try.prog.info? 105 = some Try.t105 from by kernel_rfl) (by kernel_rfl)
set_option maxRecDepth 100000 in
theorem trim_ok {A n c} {l : List Nat} {K : List Ent} (ha : Has K A n c 1 e64 l) (w : World) (hK : ∀ e ∈ K, Ent.ok w e) : Ct Try.prog 131 [.slice A n c] w fun v => v = .slice A (nrm l).length c := by
  have hs := (ha.sl hK).has
  have hl := ha.len
  have hsm := ha.small
  refine CtL.mk 21 Try.func131 rfl Try.ntmps131 (by kernel_rfl) rfl ?_
  show T 21 _ [(0, .slice (A) (n) (c))] _
  refine T_seq ?_
  refine T_reg ?_
  refine T_val (Ev_assign rfl) rfl ?_
  refine T_nil ?_
  refine T_next ?_
  refine T_seq ?_
  refine T_reg ?_
  refine T_val (Ev_move rfl) rfl ?_
  refine T_val (Ev_len rfl 3 Try.underlying27) rfl ?_
  refine T_val (Ev_assign rfl) rfl ?_
  refine T_nil ?_
  refine T_next ?_
  refine T_seq ?_
  refine T_block ?_
  refine T_loop (σ := Nat) (fun k => [(0, .slice (A) (n) (c)), (2, .slice (none) (0) (0)), (3, .int .i64 (((k : Nat) : Int))), (4, .slice (A) (n) (c)), (5, .int .i64 (((n : Nat) : Int)))]) (fun k => [] ++ [.old w]) (fun k => k ≤ n ∧ ∀ (j : Nat) (h : j < l.length), k ≤ j → l[j] = 0) (fun k => k) (n) ?_ ?_ ?_ ?_
  · exact ⟨Nat.le_refl _, fun j h h' => by omega⟩
  · exact .cons rfl (.cons rfl (.cons rfl (.cons rfl (.cons rfl (.nil)))))
  · exact .refl
  intro k hC
  obtain ⟨hC1, hC2⟩ := hC
  refine T_seq ?_
  refine T_seq ?_
  refine T_reg ?_
  refine T_val (Ev_move rfl) rfl ?_
  refine T_val (Ev_gtr rfl rfl) rfl ?_
  refine T_val (Ev_move rfl) rfl ?_
  refine T_caseP (s := 8) rfl (fun h1 => ?_) (fun h1 => ?_)
  · refine T_valG rfl rfl rfl (Ev_move rfl) rfl ?_
    refine T_valG rfl rfl rfl (Ev_move rfl) rfl ?_
    refine T_valG rfl rfl rfl (Ev_sub rfl rfl (by omega) (by omega)) rfl ?_
    obtain ⟨b2, o3, hA4, hp5⟩ := Has.elem hs (i := k - 1) (by omega)
    refine T_valG rfl rfl rfl (Ev_index rfl rfl hA4 (j := k - 1) (by omega) (by omega) slc27) rfl ?_
    refine T_valG rfl rfl rfl (Ev_loadP0 rfl hp5 (SubE.cons2 (i := 0) rfl (SubE.nil)) rfl one3) rfl ?_
    refine T_valG rfl rfl rfl (Ev_eql rfl rfl) rfl ?_
    refine T_val (Ev_pickT rfl rfl) rfl ?_
    refine T_nil ?_
    refine T_next ?_
    refine T_caseP (s := 15) rfl (fun h6 => ?_) (fun h6 => ?_)
    · refine T_condT rfl ?_
      refine T_skip ?_
      refine T_next ?_
      refine T_block ?_
      refine T_reg ?_
      refine T_val (Ev_move rfl) rfl ?_
      refine T_val (Ev_sub rfl rfl (by omega) (by omega)) rfl ?_
      refine T_val (Ev_assign rfl) rfl ?_
      refine T_nil ?_
      refine T_inN ?_
      refine T_slot (s := 3) (v' := .int .i64 ((k - 1 : Nat) : Int)) rfl (by congr 1; omega) ?_
      refine T_round (σ := Nat) (I := fun k => [(0, .slice (A) (n) (c)), (2, .slice (none) (0) (0)), (3, .int .i64 (((k : Nat) : Int))), (4, .slice (A) (n) (c)), (5, .int .i64 (((n : Nat) : Int)))]) (H := fun k => [] ++ [.old w]) (C := fun k => k ≤ n ∧ ∀ (j : Nat) (h : j < l.length), k ≤ j → l[j] = 0) (μ := fun k => k) (s := k) (k - 1) ?_ ?_ ?_ ?_
      · exact ⟨by omega, fun j hj hkj => by (rcases Nat.lt_or_eq_of_le hkj with h | h; exact hC2 j hj (by omega); subst h; omega)⟩
      · exact (show k - 1 < k by omega)
      · exact .cons rfl (.cons rfl (.cons rfl (.cons rfl (.cons rfl (.nil)))))
      · exact .refl
    · refine T_condF rfl ?_
      refine T_exit ?_
      refine T_outX ?_
      refine T_outX ?_
      refine T_here ?_
      refine T_next ?_
      refine T_seq ?_
      refine T_reg ?_
      refine T_val (Ev_move rfl) rfl ?_
      refine T_val (Ev_move rfl) rfl ?_
      refine T_val (Ev_sliceH rfl rfl slc27 (q := k) (by omega) (by omega)) rfl ?_
      refine T_val (Ev_assign rfl) rfl ?_
      refine T_nil ?_
      refine T_next ?_
      refine T_retc ?_
      refine T_retL (rs := [.tmp 2]) Try.results131 (.tmp rfl (.nil)) (Ln := []) (⟨by simp only [resVal]; rw [nrm_at l k (by omega) hC2 (fun h0 h1 => by first | (exfalso; omega) | (intro hz; omega))], rfl⟩) (loNil) (.refl)
  · refine T_skipG rfl rfl rfl rfl rfl ?_
    refine T_skipG rfl rfl rfl rfl rfl ?_
    refine T_skipG rfl rfl rfl rfl rfl ?_
    refine T_skipG rfl rfl rfl rfl rfl ?_
    refine T_skipG rfl rfl rfl rfl rfl ?_
    refine T_skipG rfl rfl rfl rfl rfl ?_
    refine T_val (Ev_pickF rfl rfl) rfl ?_
    refine T_nil ?_
    refine T_next ?_
    refine T_condF rfl ?_
    refine T_exit ?_
    refine T_outX ?_
    refine T_outX ?_
    refine T_here ?_
    refine T_next ?_
    refine T_seq ?_
    refine T_reg ?_
    refine T_val (Ev_move rfl) rfl ?_
    refine T_val (Ev_move rfl) rfl ?_
    refine T_val (Ev_sliceH rfl rfl slc27 (q := k) (by omega) (by omega)) rfl ?_
    refine T_val (Ev_assign rfl) rfl ?_
    refine T_nil ?_
    refine T_next ?_
    refine T_retc ?_
    refine T_retL (rs := [.tmp 2]) Try.results131 (.tmp rfl (.nil)) (Ln := []) (⟨by simp only [resVal]; rw [nrm_at l k (by omega) hC2 (fun h0 h1 => by first | (exfalso; omega) | (intro hz; omega))], rfl⟩) (loNil) (.refl)
set_option maxRecDepth 100000 in
theorem small_ok (z : Int) (hz1 : -9223372036854775808 ≤ z) (hz2 : z ≤ 9223372036854775807) (w : World) : Ct1 Try.prog 94 [.int .i64 z] w fun v e => ∃ A' k c', v = .agg #[.bool (decide (z < 0)), .slice A' k c'] ∧ Has [e] A' k c' 1 e64 (dig 65536 z.natAbs) := by
  have hq := dig_len (b := 65536) (by omega) 4 z.natAbs (by omega)
  refine CtL.mk 25 Try.func94 rfl Try.ntmps94 (by kernel_rfl) rfl ?_
  show T 25 _ [(0, .int .i64 (z))] _
  refine T_seq ?_
  refine T_reg ?_
  refine T_x (Wx_alloc zer43 rfl (fun g1 => ?_))
  refine T_nil ?_
  refine T_next ?_
  refine T_seq ?_
  refine T_reg ?_
  refine T_val (Ev_move rfl) rfl ?_
  refine T_val (Ev_conv64 (z) rfl (by kernel_rfl) Try.underlying169) rfl ?_
  refine T_val (Ev_assign rfl) rfl ?_
  refine T_nil ?_
  refine T_next ?_
  refine T_seq ?_
  refine T_seq ?_
  refine T_reg ?_
  refine T_val (Ev_move rfl) rfl ?_
  refine T_val (Ev_lss rfl rfl) rfl ?_
  refine T_nil ?_
  refine T_next ?_
  refine T_caseP (s := 8) rfl (fun h2 => ?_) (fun h2 => ?_)
  · refine T_condT rfl ?_
    refine T_reg ?_
    refine T_val (Ev_move rfl) rfl ?_
    refine T_val (Ev_neg64 z hz1 (by omega) rfl) rfl ?_
    refine T_val (Ev_assign rfl) rfl ?_
    refine T_nil ?_
    refine T_next ?_
    refine T_seq ?_
    refine T_reg ?_
    refine T_val (Ev_assign rfl) rfl ?_
    refine T_nil ?_
    refine T_next ?_
    refine T_seq ?_
    refine T_block ?_
    refine T_slot (s := 3) (v' := .int .u64 ((z.natAbs : Nat) : Int)) rfl (by first | rfl | (congr 1; omega)) ?_
    refine T_none 3 1 ?_
    refine T_loop (σ := Option Addr × Nat × Nat × List Nat × Nat) (fun (A, k, c, l, u) => [(0, .int .i64 (z)), (2, .pointer (some ⟨g1, 0, none⟩)), (3, .int .u64 (((u : Nat) : Int))), (4, .slice (A) (k) (c)), (5, .int .i64 (z)), (6, .int .u64 (((((z) % 18446744073709551616).toNat : Nat) : Int))), (7, .int .i64 (z)), (8, .bool (true)), (9, .int .u64 (((((z) % 18446744073709551616).toNat : Nat) : Int))), (10, .int .u64 (((z.natAbs : Nat) : Int)))]) (fun (A, k, c, l, u) => [.r (A) (k) (c) 3 1 ((l).flatMap e64), .m g1 43 [.bool (false), .slice (none) (0) (0)]] ++ [.old w]) (fun (A, k, c, l, u) => k = l.length ∧ u ≤ z.natAbs ∧ dig 65536 z.natAbs = l ++ dig 65536 u) (fun (A, k, c, l, u) => u) ((none, 0, 0, [], z.natAbs)) ?_ ?_ ?_ ?_
    · exact ⟨rfl, Nat.le_refl _, rfl⟩
    · exact .cons rfl (.cons rfl (.cons rfl (.cons rfl (.cons rfl (.cons rfl (.cons rfl (.cons rfl (.cons rfl (.cons rfl (.nil))))))))))
    · exact .keep (.keep (.refl))
    intro ⟨A, k, c, l, u⟩ hC
    replace hC : k = l.length ∧ u ≤ z.natAbs ∧ dig 65536 z.natAbs = l ++ dig 65536 u := hC
    show T 25 _ [(0, .int .i64 (z)), (2, .pointer (some ⟨g1, 0, none⟩)), (3, .int .u64 (((u : Nat) : Int))), (4, .slice (A) (k) (c)), (5, .int .i64 (z)), (6, .int .u64 (((((z) % 18446744073709551616).toNat : Nat) : Int))), (7, .int .i64 (z)), (8, .bool (true)), (9, .int .u64 (((((z) % 18446744073709551616).toNat : Nat) : Int))), (10, .int .u64 (((z.natAbs : Nat) : Int)))] ([.r (A) (k) (c) 3 1 ((l).flatMap e64), .m g1 43 [.bool (false), .slice (none) (0) (0)]] ++ [.old w])
    obtain ⟨hC1, hC0, hC2⟩ := hC
    have hC3 := congrArg List.length hC2
    rw [List.length_append] at hC3
    refine T_seq ?_
    refine T_seq ?_
    refine T_reg ?_
    refine T_val (Ev_move rfl) rfl ?_
    refine T_val (Ev_gtr rfl rfl) rfl ?_
    refine T_nil ?_
    refine T_next ?_
    refine T_caseP (s := 12) rfl (fun h3 => ?_) (fun h3 => ?_)
    · refine T_condT rfl ?_
      refine T_skip ?_
      refine T_next ?_
      refine T_block ?_
      refine T_seq ?_
      refine T_reg ?_
      refine T_val (Ev_move rfl) rfl ?_
      refine T_val (Ev_move rfl) rfl ?_
      refine T_val (Ev_modN (u) (65536) rfl rfl (by omega)) rfl ?_
      refine T_val (Ev_convN (u % 65536) rfl (by kernel_rfl) Try.underlying3 (by simp only [top]; omega)) rfl ?_
      refine T_x (Wx_buildSlice rfl (bls27_1_0i64 _) rfl (fun g4 => ?_))
      refine T_h (Wh_append rfl rfl rfl elm27 (i' := 0) rfl rfl rfl (by omega) (by omega) rfl (fun _ _ => .there (.here)) (fun _ _ => .drop .refl) (fun A5 c6 => ?_))
      refine T_ent (.here) (e' := .r (A5) (k + 1) (c6) 3 1 ((l ++ [u % 65536]).flatMap e64)) (by simp [List.flatMap_append, e64]) ?_
      refine T_val (Ev_assign rfl) rfl ?_
      refine T_nil ?_
      refine T_next ?_
      refine T_reg ?_
      refine T_val (Ev_move rfl) rfl ?_
      refine T_val (Ev_divN (u) (65536) rfl rfl (by omega) (by simp only [top]; omega)) rfl ?_
      refine T_val (Ev_assign rfl) rfl ?_
      refine T_nil ?_
      refine T_inN ?_
      refine T_round (σ := Option Addr × Nat × Nat × List Nat × Nat) (I := fun (A, k, c, l, u) => [(0, .int .i64 (z)), (2, .pointer (some ⟨g1, 0, none⟩)), (3, .int .u64 (((u : Nat) : Int))), (4, .slice (A) (k) (c)), (5, .int .i64 (z)), (6, .int .u64 (((((z) % 18446744073709551616).toNat : Nat) : Int))), (7, .int .i64 (z)), (8, .bool (true)), (9, .int .u64 (((((z) % 18446744073709551616).toNat : Nat) : Int))), (10, .int .u64 (((z.natAbs : Nat) : Int)))]) (H := fun (A, k, c, l, u) => [.r (A) (k) (c) 3 1 ((l).flatMap e64), .m g1 43 [.bool (false), .slice (none) (0) (0)]] ++ [.old w]) (C := fun (A, k, c, l, u) => k = l.length ∧ u ≤ z.natAbs ∧ dig 65536 z.natAbs = l ++ dig 65536 u) (μ := fun (A, k, c, l, u) => u) (s := (A, k, c, l, u)) ((A5, k + 1, c6, l ++ [u % 65536], u / 65536)) ?_ ?_ ?_ ?_
      · exact ⟨by simp [hC1], by omega, by rw [hC2, dig_pos (by omega) (show u ≠ 0 by omega)]; simp⟩
      · exact (show u / 65536 < u by omega)
      · exact .cons rfl (.cons rfl (.cons rfl (.cons rfl (.cons rfl (.cons rfl (.cons rfl (.cons rfl (.cons rfl (.cons rfl (.nil))))))))))
      · exact .keep (.keep (.refl))
    · refine T_condF rfl ?_
      refine T_exit ?_
      refine T_outX ?_
      refine T_outX ?_
      refine T_here ?_
      refine T_next ?_
      refine T_seq ?_
      refine T_reg ?_
      refine T_val (Ev_move rfl) rfl ?_
      refine T_val (Ev_lss rfl rfl) rfl ?_
      refine T_val (Ev_move rfl) rfl ?_
      refine T_val (Ev_build rfl (bld43_0b1s _ _ _ _)) rfl ?_
      refine T_h (Wh_store rfl rfl rfl (.there (.here)) (.put (.put (.done))) rfl (List.cons_ne_nil _ _) agg43.2 ?_)
      refine T_nil ?_
      refine T_next ?_
      refine T_retc ?_
      refine T_rowH e64 (l) (i := 0) rfl (by decide) (fun _ => rfl) (fun hn7 hs8 => ?_)
      refine T_retL (rs := [.cell 2 43]) Try.results94 (.cell rfl (i := 1) rfl rfl agg43 (.nil)) (Ln := [.r (A) (k) (c) 3 1 ((l).flatMap e64)]) (⟨.r (A) (k) (c) 3 1 ((l).flatMap e64), ⟨_, _, _, by simp only [resVal]; first | rfl | (rw [decide_eq_true (show z < 0 by omega)]) | (rw [decide_eq_false (show ¬ z < 0 by omega)]), by have h0 : u = 0 := (by omega); subst h0; rw [hC2, dig_zero, List.append_nil]; exact hs8⟩, rfl⟩) (loCons rfl (loNil)) (.keep (.drop (.refl)))
  · refine T_condF rfl ?_
    refine T_skip ?_
    refine T_next ?_
    refine T_seq ?_
    refine T_reg ?_
    refine T_val (Ev_assign rfl) rfl ?_
    refine T_nil ?_
    refine T_next ?_
    refine T_seq ?_
    refine T_block ?_
    refine T_slot (s := 3) (v' := .int .u64 ((z.natAbs : Nat) : Int)) rfl (by first | rfl | (congr 1; omega)) ?_
    refine T_none 3 1 ?_
    refine T_loop (σ := Option Addr × Nat × Nat × List Nat × Nat) (fun (A, k, c, l, u) => [(0, .int .i64 (z)), (2, .pointer (some ⟨g1, 0, none⟩)), (3, .int .u64 (((u : Nat) : Int))), (4, .slice (A) (k) (c)), (5, .int .i64 (z)), (6, .int .u64 (((((z) % 18446744073709551616).toNat : Nat) : Int))), (7, .int .i64 (z)), (8, .bool (false))]) (fun (A, k, c, l, u) => [.r (A) (k) (c) 3 1 ((l).flatMap e64), .m g1 43 [.bool (false), .slice (none) (0) (0)]] ++ [.old w]) (fun (A, k, c, l, u) => k = l.length ∧ u ≤ z.natAbs ∧ dig 65536 z.natAbs = l ++ dig 65536 u) (fun (A, k, c, l, u) => u) ((none, 0, 0, [], z.natAbs)) ?_ ?_ ?_ ?_
    · exact ⟨rfl, Nat.le_refl _, rfl⟩
    · exact .cons rfl (.cons rfl (.cons rfl (.cons rfl (.cons rfl (.cons rfl (.cons rfl (.cons rfl (.nil))))))))
    · exact .keep (.keep (.refl))
    intro ⟨A, k, c, l, u⟩ hC
    replace hC : k = l.length ∧ u ≤ z.natAbs ∧ dig 65536 z.natAbs = l ++ dig 65536 u := hC
    show T 25 _ [(0, .int .i64 (z)), (2, .pointer (some ⟨g1, 0, none⟩)), (3, .int .u64 (((u : Nat) : Int))), (4, .slice (A) (k) (c)), (5, .int .i64 (z)), (6, .int .u64 (((((z) % 18446744073709551616).toNat : Nat) : Int))), (7, .int .i64 (z)), (8, .bool (false))] ([.r (A) (k) (c) 3 1 ((l).flatMap e64), .m g1 43 [.bool (false), .slice (none) (0) (0)]] ++ [.old w])
    obtain ⟨hC1, hC0, hC2⟩ := hC
    have hC3 := congrArg List.length hC2
    rw [List.length_append] at hC3
    refine T_seq ?_
    refine T_seq ?_
    refine T_reg ?_
    refine T_val (Ev_move rfl) rfl ?_
    refine T_val (Ev_gtr rfl rfl) rfl ?_
    refine T_nil ?_
    refine T_next ?_
    refine T_caseP (s := 12) rfl (fun h9 => ?_) (fun h9 => ?_)
    · refine T_condT rfl ?_
      refine T_skip ?_
      refine T_next ?_
      refine T_block ?_
      refine T_seq ?_
      refine T_reg ?_
      refine T_val (Ev_move rfl) rfl ?_
      refine T_val (Ev_move rfl) rfl ?_
      refine T_val (Ev_modN (u) (65536) rfl rfl (by omega)) rfl ?_
      refine T_val (Ev_convN (u % 65536) rfl (by kernel_rfl) Try.underlying3 (by simp only [top]; omega)) rfl ?_
      refine T_x (Wx_buildSlice rfl (bls27_1_0i64 _) rfl (fun g10 => ?_))
      refine T_h (Wh_append rfl rfl rfl elm27 (i' := 0) rfl rfl rfl (by omega) (by omega) rfl (fun _ _ => .there (.here)) (fun _ _ => .drop .refl) (fun A11 c12 => ?_))
      refine T_ent (.here) (e' := .r (A11) (k + 1) (c12) 3 1 ((l ++ [u % 65536]).flatMap e64)) (by simp [List.flatMap_append, e64]) ?_
      refine T_val (Ev_assign rfl) rfl ?_
      refine T_nil ?_
      refine T_next ?_
      refine T_reg ?_
      refine T_val (Ev_move rfl) rfl ?_
      refine T_val (Ev_divN (u) (65536) rfl rfl (by omega) (by simp only [top]; omega)) rfl ?_
      refine T_val (Ev_assign rfl) rfl ?_
      refine T_nil ?_
      refine T_inN ?_
      refine T_round (σ := Option Addr × Nat × Nat × List Nat × Nat) (I := fun (A, k, c, l, u) => [(0, .int .i64 (z)), (2, .pointer (some ⟨g1, 0, none⟩)), (3, .int .u64 (((u : Nat) : Int))), (4, .slice (A) (k) (c)), (5, .int .i64 (z)), (6, .int .u64 (((((z) % 18446744073709551616).toNat : Nat) : Int))), (7, .int .i64 (z)), (8, .bool (false))]) (H := fun (A, k, c, l, u) => [.r (A) (k) (c) 3 1 ((l).flatMap e64), .m g1 43 [.bool (false), .slice (none) (0) (0)]] ++ [.old w]) (C := fun (A, k, c, l, u) => k = l.length ∧ u ≤ z.natAbs ∧ dig 65536 z.natAbs = l ++ dig 65536 u) (μ := fun (A, k, c, l, u) => u) (s := (A, k, c, l, u)) ((A11, k + 1, c12, l ++ [u % 65536], u / 65536)) ?_ ?_ ?_ ?_
      · exact ⟨by simp [hC1], by omega, by rw [hC2, dig_pos (by omega) (show u ≠ 0 by omega)]; simp⟩
      · exact (show u / 65536 < u by omega)
      · exact .cons rfl (.cons rfl (.cons rfl (.cons rfl (.cons rfl (.cons rfl (.cons rfl (.cons rfl (.nil))))))))
      · exact .keep (.keep (.refl))
    · refine T_condF rfl ?_
      refine T_exit ?_
      refine T_outX ?_
      refine T_outX ?_
      refine T_here ?_
      refine T_next ?_
      refine T_seq ?_
      refine T_reg ?_
      refine T_val (Ev_move rfl) rfl ?_
      refine T_val (Ev_lss rfl rfl) rfl ?_
      refine T_val (Ev_move rfl) rfl ?_
      refine T_val (Ev_build rfl (bld43_0b1s _ _ _ _)) rfl ?_
      refine T_h (Wh_store rfl rfl rfl (.there (.here)) (.put (.put (.done))) rfl (List.cons_ne_nil _ _) agg43.2 ?_)
      refine T_nil ?_
      refine T_next ?_
      refine T_retc ?_
      refine T_rowH e64 (l) (i := 0) rfl (by decide) (fun _ => rfl) (fun hn13 hs14 => ?_)
      refine T_retL (rs := [.cell 2 43]) Try.results94 (.cell rfl (i := 1) rfl rfl agg43 (.nil)) (Ln := [.r (A) (k) (c) 3 1 ((l).flatMap e64)]) (⟨.r (A) (k) (c) 3 1 ((l).flatMap e64), ⟨_, _, _, by simp only [resVal]; first | rfl | (rw [decide_eq_true (show z < 0 by omega)]) | (rw [decide_eq_false (show ¬ z < 0 by omega)]), by have h0 : u = 0 := (by omega); subst h0; rw [hC2, dig_zero, List.append_nil]; exact hs14⟩, rfl⟩) (loCons rfl (loNil)) (.keep (.drop (.refl)))
end Go.Proofs.Ytjhknbpiaikblaa
