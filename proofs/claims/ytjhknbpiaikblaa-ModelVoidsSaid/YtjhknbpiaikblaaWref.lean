/- Walks of the program: the numbers of the document's answer. -/
import Derived.Test.YtjhknbpiaikblaaWrat
namespace Go.Proofs.Ytjhknbpiaikblaa
open Go Go.RowKit
theorem slc27 : SliceOf Try.prog 27 3 1 := .mk Try.underlying27 (show Try.prog.info? 3 = some Try.t3 from by kernel_rfl) (by kernel_rfl)
theorem zer43 : ZeroOf Try.prog 43 [.bool (false), .slice (none) (0) (0)] := ⟨_, Try.zeroValue43, rfl⟩
theorem bls27_1_0i64 (x0 : Int) : BuildSliceOf Try.prog 27 1 [(0, .int .i64 x0)] 3 [.int .i64 x0] := fun w => by kernel_rfl
theorem elm27 : ElemOf Try.prog 27 3 1 8 := ⟨Try.underlying27, ⟨Try.t3, .int .i64 (0), by kernel_rfl, by kernel_rfl, by kernel_rfl, by kernel_rfl, rfl⟩, by decide⟩
theorem bld43_0b1s (x0 : Bool) (x1 : Option Addr) (x2 : Nat) (x3 : Nat) : BuildOf Try.prog 43 [(0, .bool x0), (1, .slice x1 x2 x3)] [.bool x0, .slice x1 x2 x3] := fun w => by kernel_rfl
theorem agg43 : AggOf Try.prog 43 2 := .mk Try.underlying43 rfl (show Try.prog.info? 43 = some Try.t43 from by kernel_rfl) (by kernel_rfl)
theorem zer45 : ZeroOf Try.prog 45 [.bool (false), .slice (none) (0) (0), .slice (none) (0) (0)] := ⟨_, Try.zeroValue45, rfl⟩
theorem bld45_0abs1s (x0 : Bool) (x1 : Option Addr) (x2 : Nat) (x3 : Nat) (x4 : Option Addr) (x5 : Nat) (x6 : Nat) : BuildOf Try.prog 45 [(0, .agg #[.bool x0, .slice x1 x2 x3]), (1, .slice x4 x5 x6)] [.bool x0, .slice x1 x2 x3, .slice x4 x5 x6] := fun w => by kernel_rfl
theorem agg45 : AggOf Try.prog 45 3 := .mk Try.underlying45 rfl (show Try.prog.info? 45 = some Try.t45 from by kernel_rfl) (by kernel_rfl)
theorem bls30_1_0u32 (x0 : Int) : BuildSliceOf Try.prog 30 1 [(0, .int .u32 x0)] 105 [.int .u32 x0] := fun w => by kernel_rfl
theorem elm30 : ElemOf Try.prog 30 105 1 4 := ⟨Try.underlying30, ⟨Try.t105, .int .u32 (0), by kernel_rfl, by kernel_rfl, by kernel_rfl, by kernel_rfl, rfl⟩, by decide⟩
theorem fld45_0 : FieldOf Try.prog 45 0 0 := .mk Try.underlying45 rfl rfl (show Try.prog.info? 43 = some Try.t43 from by kernel_rfl) (show Try.t43.size = 2 from by kernel_rfl) rfl
theorem fld43_1 : FieldOf Try.prog 43 1 1 := .mk Try.underlying43 rfl rfl (show Try.prog.info? 27 = some Try.t27 from by kernel_rfl) (show Try.t27.size = 1 from by kernel_rfl) rfl
theorem one27 : OneOf Try.prog 27 := .mk Try.underlying27 rfl (show Try.prog.info? 27 = some Try.t27 from by kernel_rfl) (by kernel_rfl)
theorem fld45_1 : FieldOf Try.prog 45 1 2 := .mk Try.underlying45 rfl rfl (show Try.prog.info? 27 = some Try.t27 from by kernel_rfl) (show Try.t27.size = 1 from by kernel_rfl) rfl
theorem fld43_0 : FieldOf Try.prog 43 0 0 := .mk Try.underlying43 rfl rfl (show Try.prog.info? 4 = some Try.t4 from by kernel_rfl) (show Try.t4.size = 1 from by kernel_rfl) rfl
theorem bld32_0b1s2s (x0 : Bool) (x1 : Option Addr) (x2 : Nat) (x3 : Nat) (x4 : Option Addr) (x5 : Nat) (x6 : Nat) : BuildOf Try.prog 32 [(0, .bool x0), (1, .slice x1 x2 x3), (2, .slice x4 x5 x6)] [.bool x0, .slice x1 x2 x3, .slice x4 x5 x6] := fun w => by kernel_rfl
theorem slc30 : SliceOf Try.prog 30 105 1 := .mk Try.underlying30 (show Try.prog.info? 105 = some Try.t105 from by kernel_rfl) (by kernel_rfl)
set_option maxRecDepth 100000 in
theorem trim_ok {A n c} {l : List Nat} {K : List Ent} (ha : Has K A n c 1 e64 l) (w : World) (hK : ∀ e ∈ K, Ent.ok w e) : Ct Try.prog 131 [.slice A n c] w fun v => v = .slice A (nrm l).length c := by
  have hs := (ha.sl hK).has
  have hl := ha.len
  have hsm := ha.small
  refine CtL.mk 21 Try.func131 rfl Try.ntmps131 (by kernel_rfl) rfl ?_
  show T 21 _ [(0, .slice (A) (n) (c))] _
  refine T_seq ?_
  refine T_reg ?_
  refine T_val (Ev_assign rfl) rfl ?_
  refine T_nil ?_
  refine T_next ?_
  refine T_seq ?_
  refine T_reg ?_
  refine T_val (Ev_move rfl) rfl ?_
  refine T_val (Ev_len rfl 3 Try.underlying27) rfl ?_
  refine T_val (Ev_assign rfl) rfl ?_
  refine T_nil ?_
  refine T_next ?_
  refine T_seq ?_
  refine T_block ?_
  refine T_loop (σ := Nat) (fun k => [(0, .slice (A) (n) (c)), (2, .slice (none) (0) (0)), (3, .int .i64 (((k : Nat) : Int))), (4, .slice (A) (n) (c)), (5, .int .i64 (((n : Nat) : Int)))]) (fun k => [] ++ [.old w]) (fun k => k ≤ n ∧ ∀ (j : Nat) (h : j < l.length), k ≤ j → l[j] = 0) (fun k => k) (n) ?_ ?_ ?_ ?_
  · exact ⟨Nat.le_refl _, fun j h h' => by omega⟩
  · exact .cons rfl (.cons rfl (.cons rfl (.cons rfl (.cons rfl (.nil)))))
  · exact .refl
  intro k hC
  obtain ⟨hC1, hC2⟩ := hC
  refine T_seq ?_
  refine T_seq ?_
  refine T_reg ?_
  refine T_val (Ev_move rfl) rfl ?_
  refine T_val (Ev_gtr rfl rfl) rfl ?_
  refine T_val (Ev_move rfl) rfl ?_
  refine T_caseP (s := 8) rfl (fun h1 => ?_) (fun h1 => ?_)
  · refine T_valG rfl rfl rfl (Ev_move rfl) rfl ?_
    refine T_valG rfl rfl rfl (Ev_move rfl) rfl ?_
    refine T_valG rfl rfl rfl (Ev_sub rfl rfl (by omega) (by omega)) rfl ?_
    obtain ⟨b2, o3, hA4, hp5⟩ := Has.elem hs (i := k - 1) (by omega)
    refine T_valG rfl rfl rfl (Ev_index rfl rfl hA4 (j := k - 1) (by omega) (by omega) slc27) rfl ?_
    refine T_valG rfl rfl rfl (Ev_loadP0 rfl hp5 (SubE.cons2 (i := 0) rfl (SubE.nil)) rfl one3) rfl ?_
    refine T_valG rfl rfl rfl (Ev_eql rfl rfl) rfl ?_
    refine T_val (Ev_pickT rfl rfl) rfl ?_
    refine T_nil ?_
    refine T_next ?_
    refine T_caseP (s := 15) rfl (fun h6 => ?_) (fun h6 => ?_)
    · refine T_condT rfl ?_
      refine T_skip ?_
      refine T_next ?_
      refine T_block ?_
      refine T_reg ?_
      refine T_val (Ev_move rfl) rfl ?_
      refine T_val (Ev_sub rfl rfl (by omega) (by omega)) rfl ?_
      refine T_val (Ev_assign rfl) rfl ?_
      refine T_nil ?_
      refine T_inN ?_
      refine T_slot (s := 3) (v' := .int .i64 ((k - 1 : Nat) : Int)) rfl (by congr 1; omega) ?_
      refine T_round (σ := Nat) (I := fun k => [(0, .slice (A) (n) (c)), (2, .slice (none) (0) (0)), (3, .int .i64 (((k : Nat) : Int))), (4, .slice (A) (n) (c)), (5, .int .i64 (((n : Nat) : Int)))]) (H := fun k => [] ++ [.old w]) (C := fun k => k ≤ n ∧ ∀ (j : Nat) (h : j < l.length), k ≤ j → l[j] = 0) (μ := fun k => k) (s := k) (k - 1) ?_ ?_ ?_ ?_
      · exact ⟨by omega, fun j hj hkj => by (rcases Nat.lt_or_eq_of_le hkj with h | h; exact hC2 j hj (by omega); subst h; omega)⟩
      · exact (show k - 1 < k by omega)
      · exact .cons rfl (.cons rfl (.cons rfl (.cons rfl (.cons rfl (.nil)))))
      · exact .refl
    · refine T_condF rfl ?_
      refine T_exit ?_
      refine T_outX ?_
      refine T_outX ?_
      refine T_here ?_
      refine T_next ?_
      refine T_seq ?_
      refine T_reg ?_
      refine T_val (Ev_move rfl) rfl ?_
      refine T_val (Ev_move rfl) rfl ?_
      refine T_val (Ev_sliceH rfl rfl slc27 (q := k) (by omega) (by omega)) rfl ?_
      refine T_val (Ev_assign rfl) rfl ?_
      refine T_nil ?_
      refine T_next ?_
      refine T_retc ?_
      refine T_retL (rs := [.tmp 2]) Try.results131 (.tmp rfl (.nil)) (Ln := []) (⟨by simp only [resVal]; rw [nrm_at l k (by omega) hC2 (fun h0 h1 => by first | (exfalso; omega) | (intro hz; omega))], rfl⟩) (loNil) (.refl)
  · refine T_skipG rfl rfl rfl rfl rfl ?_
    refine T_skipG rfl rfl rfl rfl rfl ?_
    refine T_skipG rfl rfl rfl rfl rfl ?_
    refine T_skipG rfl rfl rfl rfl rfl ?_
    refine T_skipG rfl rfl rfl rfl rfl ?_
    refine T_skipG rfl rfl rfl rfl rfl ?_
    refine T_val (Ev_pickF rfl rfl) rfl ?_
    refine T_nil ?_
    refine T_next ?_
    refine T_condF rfl ?_
    refine T_exit ?_
    refine T_outX ?_
    refine T_outX ?_
    refine T_here ?_
    refine T_next ?_
    refine T_seq ?_
    refine T_reg ?_
    refine T_val (Ev_move rfl) rfl ?_
    refine T_val (Ev_move rfl) rfl ?_
    refine T_val (Ev_sliceH rfl rfl slc27 (q := k) (by omega) (by omega)) rfl ?_
    refine T_val (Ev_assign rfl) rfl ?_
    refine T_nil ?_
    refine T_next ?_
    refine T_retc ?_
    refine T_retL (rs := [.tmp 2]) Try.results131 (.tmp rfl (.nil)) (Ln := []) (⟨by simp only [resVal]; rw [nrm_at l k (by omega) hC2 (fun h0 h1 => by first | (exfalso; omega) | (intro hz; omega))], rfl⟩) (loNil) (.refl)
set_option maxRecDepth 100000 in
theorem small_ok (z : Int) (hz1 : -9223372036854775808 ≤ z) (hz2 : z ≤ 9223372036854775807) (w : World) : Ct1 Try.prog 94 [.int .i64 z] w fun v e => ∃ A' k c', v = .agg #[.bool (decide (z < 0)), .slice A' k c'] ∧ Has [e] A' k c' 1 e64 (dig 65536 z.natAbs) := by
  have hq := dig_len (b := 65536) (by omega) 4 z.natAbs (by omega)
  refine CtL.mk 25 Try.func94 rfl Try.ntmps94 (by kernel_rfl) rfl ?_
  show T 25 _ [(0, .int .i64 (z))] _
  refine T_seq ?_
  refine T_reg ?_
  refine T_x (Wx_alloc zer43 rfl (fun g1 => ?_))
  refine T_nil ?_
  refine T_next ?_
  refine T_seq ?_
  refine T_reg ?_
  refine T_val (Ev_move rfl) rfl ?_
  refine T_val (Ev_conv64 (z) rfl (by kernel_rfl) Try.underlying169) rfl ?_
  refine T_val (Ev_assign rfl) rfl ?_
  refine T_nil ?_
  refine T_next ?_
  refine T_seq ?_
  refine T_seq ?_
  refine T_reg ?_
  refine T_val (Ev_move rfl) rfl ?_
  refine T_val (Ev_lss rfl rfl) rfl ?_
  refine T_nil ?_
  refine T_next ?_
  refine T_caseP (s := 8) rfl (fun h2 => ?_) (fun h2 => ?_)
  · refine T_condT rfl ?_
    refine T_reg ?_
    refine T_val (Ev_move rfl) rfl ?_
    refine T_val (Ev_neg64 z hz1 (by omega) rfl) rfl ?_
    refine T_val (Ev_assign rfl) rfl ?_
    refine T_nil ?_
    refine T_next ?_
    refine T_seq ?_
    refine T_reg ?_
    refine T_val (Ev_assign rfl) rfl ?_
    refine T_nil ?_
    refine T_next ?_
    refine T_seq ?_
    refine T_block ?_
    refine T_slot (s := 3) (v' := .int .u64 ((z.natAbs : Nat) : Int)) rfl (by first | rfl | (congr 1; omega)) ?_
    refine T_none 3 1 ?_
    refine T_loop (σ := Option Addr × Nat × Nat × List Nat × Nat) (fun (A, k, c, l, u) => [(0, .int .i64 (z)), (2, .pointer (some ⟨g1, 0, none⟩)), (3, .int .u64 (((u : Nat) : Int))), (4, .slice (A) (k) (c)), (5, .int .i64 (z)), (6, .int .u64 (((((z) % 18446744073709551616).toNat : Nat) : Int))), (7, .int .i64 (z)), (8, .bool (true)), (9, .int .u64 (((((z) % 18446744073709551616).toNat : Nat) : Int))), (10, .int .u64 (((z.natAbs : Nat) : Int)))]) (fun (A, k, c, l, u) => [.r (A) (k) (c) 3 1 ((l).flatMap e64), .m g1 43 [.bool (false), .slice (none) (0) (0)]] ++ [.old w]) (fun (A, k, c, l, u) => k = l.length ∧ u ≤ z.natAbs ∧ dig 65536 z.natAbs = l ++ dig 65536 u) (fun (A, k, c, l, u) => u) ((none, 0, 0, [], z.natAbs)) ?_ ?_ ?_ ?_
    · exact ⟨rfl, Nat.le_refl _, rfl⟩
    · exact .cons rfl (.cons rfl (.cons rfl (.cons rfl (.cons rfl (.cons rfl (.cons rfl (.cons rfl (.cons rfl (.cons rfl (.nil))))))))))
    · exact .keep (.keep (.refl))
    intro ⟨A, k, c, l, u⟩ hC
    replace hC : k = l.length ∧ u ≤ z.natAbs ∧ dig 65536 z.natAbs = l ++ dig 65536 u := hC
    show T 25 _ [(0, .int .i64 (z)), (2, .pointer (some ⟨g1, 0, none⟩)), (3, .int .u64 (((u : Nat) : Int))), (4, .slice (A) (k) (c)), (5, .int .i64 (z)), (6, .int .u64 (((((z) % 18446744073709551616).toNat : Nat) : Int))), (7, .int .i64 (z)), (8, .bool (true)), (9, .int .u64 (((((z) % 18446744073709551616).toNat : Nat) : Int))), (10, .int .u64 (((z.natAbs : Nat) : Int)))] ([.r (A) (k) (c) 3 1 ((l).flatMap e64), .m g1 43 [.bool (false), .slice (none) (0) (0)]] ++ [.old w])
    obtain ⟨hC1, hC0, hC2⟩ := hC
    have hC3 := congrArg List.length hC2
    rw [List.length_append] at hC3
    refine T_seq ?_
    refine T_seq ?_
    refine T_reg ?_
    refine T_val (Ev_move rfl) rfl ?_
    refine T_val (Ev_gtr rfl rfl) rfl ?_
    refine T_nil ?_
    refine T_next ?_
    refine T_caseP (s := 12) rfl (fun h3 => ?_) (fun h3 => ?_)
    · refine T_condT rfl ?_
      refine T_skip ?_
      refine T_next ?_
      refine T_block ?_
      refine T_seq ?_
      refine T_reg ?_
      refine T_val (Ev_move rfl) rfl ?_
      refine T_val (Ev_move rfl) rfl ?_
      refine T_val (Ev_modN (u) (65536) rfl rfl (by omega)) rfl ?_
      refine T_val (Ev_convN (u % 65536) rfl (by kernel_rfl) Try.underlying3 (by simp only [top]; omega)) rfl ?_
      refine T_x (Wx_buildSlice rfl (bls27_1_0i64 _) rfl (fun g4 => ?_))
      refine T_h (Wh_append rfl rfl rfl elm27 (i' := 0) rfl rfl rfl (by omega) (by omega) rfl (fun _ _ => .there (.here)) (fun _ _ => .drop .refl) (fun A5 c6 => ?_))
      refine T_ent (.here) (e' := .r (A5) (k + 1) (c6) 3 1 ((l ++ [u % 65536]).flatMap e64)) (by simp [List.flatMap_append, e64]) ?_
      refine T_val (Ev_assign rfl) rfl ?_
      refine T_nil ?_
      refine T_next ?_
      refine T_reg ?_
      refine T_val (Ev_move rfl) rfl ?_
      refine T_val (Ev_divN (u) (65536) rfl rfl (by omega) (by simp only [top]; omega)) rfl ?_
      refine T_val (Ev_assign rfl) rfl ?_
      refine T_nil ?_
      refine T_inN ?_
      refine T_round (σ := Option Addr × Nat × Nat × List Nat × Nat) (I := fun (A, k, c, l, u) => [(0, .int .i64 (z)), (2, .pointer (some ⟨g1, 0, none⟩)), (3, .int .u64 (((u : Nat) : Int))), (4, .slice (A) (k) (c)), (5, .int .i64 (z)), (6, .int .u64 (((((z) % 18446744073709551616).toNat : Nat) : Int))), (7, .int .i64 (z)), (8, .bool (true)), (9, .int .u64 (((((z) % 18446744073709551616).toNat : Nat) : Int))), (10, .int .u64 (((z.natAbs : Nat) : Int)))]) (H := fun (A, k, c, l, u) => [.r (A) (k) (c) 3 1 ((l).flatMap e64), .m g1 43 [.bool (false), .slice (none) (0) (0)]] ++ [.old w]) (C := fun (A, k, c, l, u) => k = l.length ∧ u ≤ z.natAbs ∧ dig 65536 z.natAbs = l ++ dig 65536 u) (μ := fun (A, k, c, l, u) => u) (s := (A, k, c, l, u)) ((A5, k + 1, c6, l ++ [u % 65536], u / 65536)) ?_ ?_ ?_ ?_
      · exact ⟨by simp [hC1], by omega, by rw [hC2, dig_pos (by omega) (show u ≠ 0 by omega)]; simp⟩
      · exact (show u / 65536 < u by omega)
      · exact .cons rfl (.cons rfl (.cons rfl (.cons rfl (.cons rfl (.cons rfl (.cons rfl (.cons rfl (.cons rfl (.cons rfl (.nil))))))))))
      · exact .keep (.keep (.refl))
    · refine T_condF rfl ?_
      refine T_exit ?_
      refine T_outX ?_
      refine T_outX ?_
      refine T_here ?_
      refine T_next ?_
      refine T_seq ?_
      refine T_reg ?_
      refine T_val (Ev_move rfl) rfl ?_
      refine T_val (Ev_lss rfl rfl) rfl ?_
      refine T_val (Ev_move rfl) rfl ?_
      refine T_val (Ev_build rfl (bld43_0b1s _ _ _ _)) rfl ?_
      refine T_h (Wh_store rfl rfl rfl (.there (.here)) (.put (.put (.done))) rfl (List.cons_ne_nil _ _) agg43.2 ?_)
      refine T_nil ?_
      refine T_next ?_
      refine T_retc ?_
      refine T_rowH e64 (l) (i := 0) rfl (by decide) (fun _ => rfl) (fun hn7 hs8 => ?_)
      refine T_retL (rs := [.cell 2 43]) Try.results94 (.cell rfl (i := 1) rfl rfl agg43 (.nil)) (Ln := [.r (A) (k) (c) 3 1 ((l).flatMap e64)]) (⟨.r (A) (k) (c) 3 1 ((l).flatMap e64), ⟨_, _, _, by simp only [resVal]; first | rfl | (rw [decide_eq_true (show z < 0 by omega)]) | (rw [decide_eq_false (show ¬ z < 0 by omega)]), by have h0 : u = 0 := (by omega); subst h0; rw [hC2, dig_zero, List.append_nil]; exact hs8⟩, rfl⟩) (loCons rfl (loNil)) (.keep (.drop (.refl)))
  · refine T_condF rfl ?_
    refine T_skip ?_
    refine T_next ?_
    refine T_seq ?_
    refine T_reg ?_
    refine T_val (Ev_assign rfl) rfl ?_
    refine T_nil ?_
    refine T_next ?_
    refine T_seq ?_
    refine T_block ?_
    refine T_slot (s := 3) (v' := .int .u64 ((z.natAbs : Nat) : Int)) rfl (by first | rfl | (congr 1; omega)) ?_
    refine T_none 3 1 ?_
    refine T_loop (σ := Option Addr × Nat × Nat × List Nat × Nat) (fun (A, k, c, l, u) => [(0, .int .i64 (z)), (2, .pointer (some ⟨g1, 0, none⟩)), (3, .int .u64 (((u : Nat) : Int))), (4, .slice (A) (k) (c)), (5, .int .i64 (z)), (6, .int .u64 (((((z) % 18446744073709551616).toNat : Nat) : Int))), (7, .int .i64 (z)), (8, .bool (false))]) (fun (A, k, c, l, u) => [.r (A) (k) (c) 3 1 ((l).flatMap e64), .m g1 43 [.bool (false), .slice (none) (0) (0)]] ++ [.old w]) (fun (A, k, c, l, u) => k = l.length ∧ u ≤ z.natAbs ∧ dig 65536 z.natAbs = l ++ dig 65536 u) (fun (A, k, c, l, u) => u) ((none, 0, 0, [], z.natAbs)) ?_ ?_ ?_ ?_
    · exact ⟨rfl, Nat.le_refl _, rfl⟩
    · exact .cons rfl (.cons rfl (.cons rfl (.cons rfl (.cons rfl (.cons rfl (.cons rfl (.cons rfl (.nil))))))))
    · exact .keep (.keep (.refl))
    intro ⟨A, k, c, l, u⟩ hC
    replace hC : k = l.length ∧ u ≤ z.natAbs ∧ dig 65536 z.natAbs = l ++ dig 65536 u := hC
    show T 25 _ [(0, .int .i64 (z)), (2, .pointer (some ⟨g1, 0, none⟩)), (3, .int .u64 (((u : Nat) : Int))), (4, .slice (A) (k) (c)), (5, .int .i64 (z)), (6, .int .u64 (((((z) % 18446744073709551616).toNat : Nat) : Int))), (7, .int .i64 (z)), (8, .bool (false))] ([.r (A) (k) (c) 3 1 ((l).flatMap e64), .m g1 43 [.bool (false), .slice (none) (0) (0)]] ++ [.old w])
    obtain ⟨hC1, hC0, hC2⟩ := hC
    have hC3 := congrArg List.length hC2
    rw [List.length_append] at hC3
    refine T_seq ?_
    refine T_seq ?_
    refine T_reg ?_
    refine T_val (Ev_move rfl) rfl ?_
    refine T_val (Ev_gtr rfl rfl) rfl ?_
    refine T_nil ?_
    refine T_next ?_
    refine T_caseP (s := 12) rfl (fun h9 => ?_) (fun h9 => ?_)
    · refine T_condT rfl ?_
      refine T_skip ?_
      refine T_next ?_
      refine T_block ?_
      refine T_seq ?_
      refine T_reg ?_
      refine T_val (Ev_move rfl) rfl ?_
      refine T_val (Ev_move rfl) rfl ?_
      refine T_val (Ev_modN (u) (65536) rfl rfl (by omega)) rfl ?_
      refine T_val (Ev_convN (u % 65536) rfl (by kernel_rfl) Try.underlying3 (by simp only [top]; omega)) rfl ?_
      refine T_x (Wx_buildSlice rfl (bls27_1_0i64 _) rfl (fun g10 => ?_))
      refine T_h (Wh_append rfl rfl rfl elm27 (i' := 0) rfl rfl rfl (by omega) (by omega) rfl (fun _ _ => .there (.here)) (fun _ _ => .drop .refl) (fun A11 c12 => ?_))
      refine T_ent (.here) (e' := .r (A11) (k + 1) (c12) 3 1 ((l ++ [u % 65536]).flatMap e64)) (by simp [List.flatMap_append, e64]) ?_
      refine T_val (Ev_assign rfl) rfl ?_
      refine T_nil ?_
      refine T_next ?_
      refine T_reg ?_
      refine T_val (Ev_move rfl) rfl ?_
      refine T_val (Ev_divN (u) (65536) rfl rfl (by omega) (by simp only [top]; omega)) rfl ?_
      refine T_val (Ev_assign rfl) rfl ?_
      refine T_nil ?_
      refine T_inN ?_
      refine T_round (σ := Option Addr × Nat × Nat × List Nat × Nat) (I := fun (A, k, c, l, u) => [(0, .int .i64 (z)), (2, .pointer (some ⟨g1, 0, none⟩)), (3, .int .u64 (((u : Nat) : Int))), (4, .slice (A) (k) (c)), (5, .int .i64 (z)), (6, .int .u64 (((((z) % 18446744073709551616).toNat : Nat) : Int))), (7, .int .i64 (z)), (8, .bool (false))]) (H := fun (A, k, c, l, u) => [.r (A) (k) (c) 3 1 ((l).flatMap e64), .m g1 43 [.bool (false), .slice (none) (0) (0)]] ++ [.old w]) (C := fun (A, k, c, l, u) => k = l.length ∧ u ≤ z.natAbs ∧ dig 65536 z.natAbs = l ++ dig 65536 u) (μ := fun (A, k, c, l, u) => u) (s := (A, k, c, l, u)) ((A11, k + 1, c12, l ++ [u % 65536], u / 65536)) ?_ ?_ ?_ ?_
      · exact ⟨by simp [hC1], by omega, by rw [hC2, dig_pos (by omega) (show u ≠ 0 by omega)]; simp⟩
      · exact (show u / 65536 < u by omega)
      · exact .cons rfl (.cons rfl (.cons rfl (.cons rfl (.cons rfl (.cons rfl (.cons rfl (.cons rfl (.nil))))))))
      · exact .keep (.keep (.refl))
    · refine T_condF rfl ?_
      refine T_exit ?_
      refine T_outX ?_
      refine T_outX ?_
      refine T_here ?_
      refine T_next ?_
      refine T_seq ?_
      refine T_reg ?_
      refine T_val (Ev_move rfl) rfl ?_
      refine T_val (Ev_lss rfl rfl) rfl ?_
      refine T_val (Ev_move rfl) rfl ?_
      refine T_val (Ev_build rfl (bld43_0b1s _ _ _ _)) rfl ?_
      refine T_h (Wh_store rfl rfl rfl (.there (.here)) (.put (.put (.done))) rfl (List.cons_ne_nil _ _) agg43.2 ?_)
      refine T_nil ?_
      refine T_next ?_
      refine T_retc ?_
      refine T_rowH e64 (l) (i := 0) rfl (by decide) (fun _ => rfl) (fun hn13 hs14 => ?_)
      refine T_retL (rs := [.cell 2 43]) Try.results94 (.cell rfl (i := 1) rfl rfl agg43 (.nil)) (Ln := [.r (A) (k) (c) 3 1 ((l).flatMap e64)]) (⟨.r (A) (k) (c) 3 1 ((l).flatMap e64), ⟨_, _, _, by simp only [resVal]; first | rfl | (rw [decide_eq_true (show z < 0 by omega)]) | (rw [decide_eq_false (show ¬ z < 0 by omega)]), by have h0 : u = 0 := (by omega); subst h0; rw [hC2, dig_zero, List.append_nil]; exact hs14⟩, rfl⟩) (loCons rfl (loNil)) (.keep (.drop (.refl)))
set_option maxRecDepth 100000 in
theorem whole_ok (z : Int) (hz1 : -9223372036854775808 ≤ z) (hz2 : z ≤ 9223372036854775807) (w : World) : Ct2 Try.prog 56 [.int .i64 z] w fun v e e' => ∃ A' k c' B' m' d', v = .agg #[.bool (decide (z < 0)), .slice A' k c', .slice B' m' d'] ∧ Has [e, e'] A' k c' 1 e64 (dig 65536 (z.natAbs)) ∧ Has [e, e'] B' m' d' 1 e64 [1] := by
  refine CtL.mk 7 Try.func56 rfl Try.ntmps56 (by kernel_rfl) rfl ?_
  show T 7 _ [(0, .int .i64 (z))] _
  refine T_seq ?_
  refine T_reg ?_
  refine T_x (Wx_alloc zer45 rfl (fun g1 => ?_))
  refine T_nil ?_
  refine T_next ?_
  refine T_seq ?_
  refine T_reg ?_
  refine T_val (Ev_move rfl) rfl ?_
  refine T_x (Wx_call1 rfl (fun w _ => small_ok (z) (by omega) (by omega) w) rfl ?_)
  rintro _ e2 lo_e2 ⟨A3, k4, c5, rfl, hs6⟩
  refine T_x (Wx_buildSlice rfl (bls27_1_0i64 _) rfl (fun g7 => ?_))
  refine T_val (Ev_build rfl (bld45_0abs1s _ _ _ _ _ _ _)) rfl ?_
  refine T_h (Wh_store rfl rfl rfl (.there (.there (.here))) (.put (.put (.put (.done)))) rfl (List.cons_ne_nil _ _) agg45.2 ?_)
  refine T_nil ?_
  refine T_next ?_
  refine T_retc ?_
  have hs8 : Has [.m g7 3 [.int .i64 (1)]] (some ⟨g7, 0, none⟩) 1 1 1 e64 [1] := Has.ofM (by simp [e64]) rfl (by decide) rfl
  refine T_retL (rs := [.cell 2 45]) Try.results56 (.cell rfl (i := 2) rfl rfl agg45 (.nil)) (Ln := [.m g7 3 [.int .i64 (1)], e2]) (⟨.m g7 3 [.int .i64 (1)], e2, ⟨_, _, _, _, _, _, rfl, hs6.up (SubE.cons2 (i := 1) rfl SubE.nil), hs8.up (SubE.cons2 (i := 0) rfl SubE.nil)⟩, rfl⟩) (loCons rfl (loCons lo_e2 (loNil))) (.keep (.keep (.drop (.refl))))
set_option maxRecDepth 100000 in
theorem words_ok {A n c} {m : Nat} {K : List Ent} (ha : Has K A n c 1 e64 (dig 65536 m)) (h9 : n ≤ 512) (w : World) (hK : ∀ e ∈ K, Ent.ok w e) : Ct1 Try.prog 99 [.slice A n c] w fun v e => ∃ A' k c', v = .tuple #[.slice A' k c', .bool true] ∧ Has [e] A' k c' 1 eW (dig 4294967296 m) := by
  have hs := (ha.sl hK).has
  have hn := ha.len
  have hsm := ha.small
  refine CtL.mk 40 Try.func99 rfl Try.ntmps99 (by kernel_rfl) rfl ?_
  show T 40 _ [(0, .slice (A) (n) (c))] _
  refine T_seq ?_
  refine T_reg ?_
  refine T_val (Ev_assign rfl) rfl ?_
  refine T_val (Ev_assign rfl) rfl ?_
  refine T_nil ?_
  refine T_next ?_
  refine T_seq ?_
  refine T_seq ?_
  refine T_reg ?_
  refine T_val (Ev_move rfl) rfl ?_
  refine T_val (Ev_len rfl 3 Try.underlying27) rfl ?_
  refine T_val (Ev_gtr rfl rfl) rfl ?_
  refine T_nil ?_
  refine T_next ?_
  have hx1 : decide ((512) < (((n : Nat) : Int))) = false := by first | (exact decide_eq_false (by omega))
  refine T_slot (s := 9) (v' := .bool false) rfl (by rw [hx1]) ?_
  refine T_condF rfl ?_
  refine T_skip ?_
  refine T_next ?_
  refine T_seq ?_
  refine T_reg ?_
  refine T_val (Ev_assign rfl) rfl ?_
  refine T_nil ?_
  refine T_next ?_
  refine T_seq ?_
  refine T_seq ?_
  refine T_reg ?_
  refine T_val (Ev_assign rfl) rfl ?_
  refine T_nil ?_
  refine T_next ?_
  refine T_block ?_
  refine T_none 105 1 ?_
  refine T_loop (σ := Option Addr × Nat × Nat × List Nat × Nat) (fun (A', k, c', o, i) => [(0, .slice (A) (n) (c)), (2, .slice (none) (0) (0)), (3, .bool (false)), (4, .slice (A') (k) (c')), (5, .int .i64 (((i : Nat) : Int))), (7, .slice (A) (n) (c)), (8, .int .i64 (((n : Nat) : Int))), (9, .bool (false))]) (fun (A', k, c', o, i) => [.r (A') (k) (c') 105 1 ((o).flatMap eW)] ++ [.old w]) (fun (A', k, c', o, i) => k ≤ i ∧ i ≤ n + 1 ∧ dig 4294967296 m = o ++ dig 4294967296 (m / 65536 ^ i)) (fun (A', k, c', o, i) => n + 2 - i) ((none, 0, 0, [], 0)) ?_ ?_ ?_ ?_
  · exact ⟨Nat.le_refl _, by omega, by simp⟩
  · exact .cons rfl (.cons rfl (.cons rfl (.cons rfl (.cons rfl (.cons rfl (.cons rfl (.cons rfl (.nil))))))))
  · exact .keep (.refl)
  intro ⟨A', k, c', o, i⟩ hC
  replace hC : k ≤ i ∧ i ≤ n + 1 ∧ dig 4294967296 m = o ++ dig 4294967296 (m / 65536 ^ i) := hC
  show T 40 _ [(0, .slice (A) (n) (c)), (2, .slice (none) (0) (0)), (3, .bool (false)), (4, .slice (A') (k) (c')), (5, .int .i64 (((i : Nat) : Int))), (7, .slice (A) (n) (c)), (8, .int .i64 (((n : Nat) : Int))), (9, .bool (false))] ([.r (A') (k) (c') 105 1 ((o).flatMap eW)] ++ [.old w])
  obtain ⟨hC1, hC2, hC4⟩ := hC
  refine T_seq ?_
  refine T_seq ?_
  refine T_reg ?_
  refine T_val (Ev_move rfl) rfl ?_
  refine T_val (Ev_move rfl) rfl ?_
  refine T_val (Ev_len rfl 3 Try.underlying27) rfl ?_
  refine T_val (Ev_lss rfl rfl) rfl ?_
  refine T_nil ?_
  refine T_next ?_
  refine T_caseP (s := 13) rfl (fun h2 => ?_) (fun h2 => ?_)
  · refine T_condT rfl ?_
    refine T_skip ?_
    refine T_next ?_
    refine T_seq ?_
    refine T_block ?_
    refine T_seq ?_
    refine T_reg ?_
    refine T_val (Ev_move rfl) rfl ?_
    refine T_val (Ev_move rfl) rfl ?_
    obtain ⟨b3, o4, hA5, hp6⟩ := Has.elem hs (i := i) (by omega)
    refine T_val (Ev_index rfl rfl hA5 (j := i) (by omega) (by omega) slc27) rfl ?_
    refine T_val (Ev_loadP0 rfl hp6 (SubE.cons2 (i := 1) rfl (SubE.nil)) rfl one3) rfl ?_
    refine T_val (Ev_convN ((dig 65536 (m))[i]) rfl (by kernel_rfl) Try.underlying105 (by have := dig_lt (b := 65536) (by omega) m ((dig 65536 (m))[i]'(by omega)) (List.getElem_mem _); simp only [top]; omega)) rfl ?_
    refine T_val (Ev_assign rfl) rfl ?_
    refine T_nil ?_
    refine T_next ?_
    refine T_seq ?_
    refine T_seq ?_
    refine T_reg ?_
    refine T_val (Ev_move rfl) rfl ?_
    refine T_val (Ev_addN (i) (1) rfl rfl (by simp only [top]; omega)) rfl ?_
    refine T_val (Ev_move rfl) rfl ?_
    refine T_val (Ev_len rfl 3 Try.underlying27) rfl ?_
    refine T_val (Ev_lss rfl rfl) rfl ?_
    refine T_nil ?_
    refine T_next ?_
    refine T_caseP (s := 25) rfl (fun h7 => ?_) (fun h7 => ?_)
    · refine T_condT rfl ?_
      refine T_reg ?_
      refine T_val (Ev_move rfl) rfl ?_
      refine T_val (Ev_move rfl) rfl ?_
      refine T_val (Ev_move rfl) rfl ?_
      refine T_val (Ev_addN (i) (1) rfl rfl (by simp only [top]; omega)) rfl ?_
      obtain ⟨b8, o9, hA10, hp11⟩ := Has.elem hs (i := i + 1) (by omega)
      refine T_val (Ev_index rfl rfl hA10 (j := i + 1) (by omega) (by omega) slc27) rfl ?_
      refine T_val (Ev_loadP0 rfl hp11 (SubE.cons2 (i := 1) rfl (SubE.nil)) rfl one3) rfl ?_
      refine T_val (Ev_convN ((dig 65536 (m))[i + 1]) rfl (by kernel_rfl) Try.underlying105 (by have := dig_lt (b := 65536) (by omega) m ((dig 65536 (m))[i + 1]'(by omega)) (List.getElem_mem _); simp only [top]; omega)) rfl ?_
      refine T_val (Ev_mulN ((dig 65536 (m))[i + 1]) (65536) rfl rfl (by have := dig_lt (b := 65536) (by omega) m ((dig 65536 (m))[i + 1]'(by omega)) (List.getElem_mem _); simp only [top]; omega)) rfl ?_
      refine T_val (Ev_addN ((dig 65536 (m))[i]) (((dig 65536 (m))[i + 1]) * 65536) rfl rfl (by have h1 := dig_lt (b := 65536) (by omega) m ((dig 65536 (m))[i + 1]'(by omega)) (List.getElem_mem _); have h2 := dig_lt (b := 65536) (by omega) m ((dig 65536 (m))[i]'(by omega)) (List.getElem_mem _); simp only [top]; omega)) rfl ?_
      refine T_val (Ev_assign rfl) rfl ?_
      refine T_nil ?_
      refine T_next ?_
      refine T_reg ?_
      refine T_val (Ev_move rfl) rfl ?_
      refine T_val (Ev_move rfl) rfl ?_
      refine T_x (Wx_buildSlice rfl (bls30_1_0u32 _) rfl (fun g12 => ?_))
      refine T_h (Wh_append rfl rfl rfl elm30 (i' := 0) rfl rfl rfl (by omega) (by omega) rfl (fun _ _ => .there (.here)) (fun _ _ => .drop .refl) (fun A13 c14 => ?_))
      refine T_ent (.here) (e' := .r (A13) (k + 1) (c14) 105 1 ((o ++ [((dig 65536 (m))[i]) + (((dig 65536 (m))[i + 1]) * 65536)]).flatMap eW)) (by simp [List.flatMap_append, eW]) ?_
      refine T_val (Ev_assign rfl) rfl ?_
      refine T_nil ?_
      refine T_inN ?_
      refine T_next ?_
      refine T_reg ?_
      refine T_val (Ev_move rfl) rfl ?_
      refine T_val (Ev_addN (i) (2) rfl rfl (by simp only [top]; omega)) rfl ?_
      refine T_val (Ev_assign rfl) rfl ?_
      refine T_nil ?_
      refine T_round (σ := Option Addr × Nat × Nat × List Nat × Nat) (I := fun (A', k, c', o, i) => [(0, .slice (A) (n) (c)), (2, .slice (none) (0) (0)), (3, .bool (false)), (4, .slice (A') (k) (c')), (5, .int .i64 (((i : Nat) : Int))), (7, .slice (A) (n) (c)), (8, .int .i64 (((n : Nat) : Int))), (9, .bool (false))]) (H := fun (A', k, c', o, i) => [.r (A') (k) (c') 105 1 ((o).flatMap eW)] ++ [.old w]) (C := fun (A', k, c', o, i) => k ≤ i ∧ i ≤ n + 1 ∧ dig 4294967296 m = o ++ dig 4294967296 (m / 65536 ^ i)) (μ := fun (A', k, c', o, i) => n + 2 - i) (s := (A', k, c', o, i)) ((A13, k + 1, c14, o ++ [((dig 65536 (m))[i]) + (((dig 65536 (m))[i + 1]) * 65536)], i + 2)) ?_ ?_ ?_ ?_
      · exact ⟨by omega, by omega, by rw [hC4, words_step (show i < (dig 65536 m).length by omega)]; first | (rw [dig_get (by omega) (i + 1) m (by omega)]; simp; done) | (rw [words_zero (i := i + 1) (by omega)]; simp)⟩
      · exact (show n + 2 - (i + 2) < n + 2 - i by omega)
      · exact .cons rfl (.cons rfl (.cons rfl (.cons rfl (.cons rfl (.cons rfl (.cons rfl (.cons rfl (.nil))))))))
      · exact .keep (.refl)
    · refine T_condF rfl ?_
      refine T_skip ?_
      refine T_next ?_
      refine T_reg ?_
      refine T_val (Ev_move rfl) rfl ?_
      refine T_val (Ev_move rfl) rfl ?_
      refine T_x (Wx_buildSlice rfl (bls30_1_0u32 _) rfl (fun g15 => ?_))
      refine T_h (Wh_append rfl rfl rfl elm30 (i' := 0) rfl rfl rfl (by omega) (by omega) rfl (fun _ _ => .there (.here)) (fun _ _ => .drop .refl) (fun A16 c17 => ?_))
      refine T_ent (.here) (e' := .r (A16) (k + 1) (c17) 105 1 ((o ++ [(dig 65536 (m))[i]]).flatMap eW)) (by simp [List.flatMap_append, eW]) ?_
      refine T_val (Ev_assign rfl) rfl ?_
      refine T_nil ?_
      refine T_inN ?_
      refine T_next ?_
      refine T_reg ?_
      refine T_val (Ev_move rfl) rfl ?_
      refine T_val (Ev_addN (i) (2) rfl rfl (by simp only [top]; omega)) rfl ?_
      refine T_val (Ev_assign rfl) rfl ?_
      refine T_nil ?_
      refine T_round (σ := Option Addr × Nat × Nat × List Nat × Nat) (I := fun (A', k, c', o, i) => [(0, .slice (A) (n) (c)), (2, .slice (none) (0) (0)), (3, .bool (false)), (4, .slice (A') (k) (c')), (5, .int .i64 (((i : Nat) : Int))), (7, .slice (A) (n) (c)), (8, .int .i64 (((n : Nat) : Int))), (9, .bool (false))]) (H := fun (A', k, c', o, i) => [.r (A') (k) (c') 105 1 ((o).flatMap eW)] ++ [.old w]) (C := fun (A', k, c', o, i) => k ≤ i ∧ i ≤ n + 1 ∧ dig 4294967296 m = o ++ dig 4294967296 (m / 65536 ^ i)) (μ := fun (A', k, c', o, i) => n + 2 - i) (s := (A', k, c', o, i)) ((A16, k + 1, c17, o ++ [(dig 65536 (m))[i]], i + 2)) ?_ ?_ ?_ ?_
      · exact ⟨by omega, by omega, by rw [hC4, words_step (show i < (dig 65536 m).length by omega)]; first | (rw [dig_get (by omega) (i + 1) m (by omega)]; simp; done) | (rw [words_zero (i := i + 1) (by omega)]; simp)⟩
      · exact (show n + 2 - (i + 2) < n + 2 - i by omega)
      · exact .cons rfl (.cons rfl (.cons rfl (.cons rfl (.cons rfl (.cons rfl (.cons rfl (.cons rfl (.nil))))))))
      · exact .keep (.refl)
  · refine T_condF rfl ?_
    refine T_exit ?_
    refine T_outX ?_
    refine T_outX ?_
    refine T_here ?_
    refine T_next ?_
    refine T_seq ?_
    refine T_reg ?_
    refine T_val (Ev_move rfl) rfl ?_
    refine T_val (Ev_assign rfl) rfl ?_
    refine T_val (Ev_assign rfl) rfl ?_
    refine T_nil ?_
    refine T_next ?_
    refine T_retc ?_
    refine T_rowH eW (o) (i := 0) rfl (by decide) (fun _ => rfl) (fun hn18 hs19 => ?_)
    refine T_retL (rs := [.tmp 2, .tmp 3]) Try.results99 (.tmp rfl (.tmp rfl (.nil))) (Ln := [.r (A') (k) (c') 105 1 ((o).flatMap eW)]) (⟨.r (A') (k) (c') 105 1 ((o).flatMap eW), ⟨_, _, _, by simp only [resVal]; rfl, by rw [hC4, words_last (i := i) (by omega), List.append_nil]; exact hs19⟩, rfl⟩) (loCons rfl (loNil)) (.keep (.refl))
set_option maxRecDepth 100000 in
theorem out_ok {s : Bool} {A n c B m d} {x : Nat} {K : List Ent} (ha : Has K A n c 1 e64 (dig 65536 x)) (hb : Has K B m d 1 e64 [1]) (h9 : n ≤ 512) (w : World) (hK : ∀ e ∈ K, Ent.ok w e) : Ct1 Try.prog 62 [.agg #[.bool s, .slice A n c, .slice B m d]] w fun v e => ∃ A' k c', v = .tuple #[.agg #[.bool s, .slice A' k c', .slice none 0 0], .int .i64 0] ∧ Has [e] A' k c' 1 eW (dig 4294967296 (x)) := by
  have hs := (ha.sl hK).has
  have ht := (hb.sl hK).has
  have hn := ha.len
  have hm := hb.len
  have hsm := ha.small
  have hsm2 := hb.small
  have hm1 : m = 1 := hb.len.symm
  refine CtL.mk 45 Try.func62 rfl Try.ntmps62 (by kernel_rfl) rfl ?_
  show T 45 _ [(0, .agg #[.bool (s), .slice (A) (n) (c), .slice (B) (m) (d)])] _
  refine T_seq ?_
  refine T_reg ?_
  refine T_x (Wx_box rfl rfl rfl (fun g1 => ?_))
  refine T_x (Wx_alloc zer32 rfl (fun g2 => ?_))
  refine T_val (Ev_assign rfl) rfl ?_
  refine T_nil ?_
  refine T_next ?_
  refine T_seq ?_
  refine T_reg ?_
  refine T_val (Ev_field rfl fld45_0 rfl) rfl ?_
  refine T_val (Ev_field rfl fld43_1 rfl) rfl ?_
  refine T_val (Ev_load1 rfl (i := 1) rfl rfl one27) rfl ?_
  refine T_x (Wx_call1 rfl (fun w1 hw1 => words_ok  hs (by omega) w1 (okAll (K := [.old w]) (by exact (SubE.cons2 (i := 2) rfl (SubE.nil))) hw1)) rfl ?_)
  rintro _ e3 lo_e3 ⟨A4, k5, c6, rfl, hs7⟩
  refine T_val (Ev_move rfl) rfl ?_
  refine T_val (Ev_extract rfl rfl) rfl ?_
  refine T_val (Ev_extract rfl rfl) rfl ?_
  refine T_val (Ev_assign rfl) rfl ?_
  refine T_val (Ev_assign rfl) rfl ?_
  refine T_nil ?_
  refine T_next ?_
  refine T_seq ?_
  refine T_reg ?_
  refine T_val (Ev_field rfl fld45_1 rfl) rfl ?_
  refine T_val (Ev_load1 rfl (i := 2) rfl rfl one27) rfl ?_
  refine T_x (Wx_call1 rfl (fun w1 hw1 => words_ok  (by rw [dig_one (by omega)]; exact ht) (by omega) w1 (okAll (K := [.old w]) (by exact (SubE.cons2 (i := 3) rfl (SubE.nil))) hw1)) rfl ?_)
  rintro _ e8 lo_e8 ⟨A9, k10, c11, rfl, hs12⟩
  refine T_val (Ev_move rfl) rfl ?_
  refine T_val (Ev_extract rfl rfl) rfl ?_
  refine T_val (Ev_extract rfl rfl) rfl ?_
  refine T_val (Ev_assign rfl) rfl ?_
  refine T_val (Ev_assign rfl) rfl ?_
  refine T_nil ?_
  refine T_next ?_
  refine T_seq ?_
  refine T_seq ?_
  refine T_reg ?_
  refine T_val (Ev_move rfl) rfl ?_
  refine T_val (Ev_not rfl) rfl ?_
  refine T_val (Ev_move rfl) rfl ?_
  refine T_valG rfl rfl rfl (Ev_move rfl) rfl ?_
  refine T_valG rfl rfl rfl (Ev_not rfl) rfl ?_
  refine T_val (Ev_pickF rfl rfl) rfl ?_
  refine T_nil ?_
  refine T_next ?_
  refine T_condF rfl ?_
  refine T_skip ?_
  refine T_next ?_
  refine T_seq ?_
  refine T_seq ?_
  refine T_reg ?_
  refine T_val (Ev_field rfl fld45_1 rfl) rfl ?_
  refine T_val (Ev_load1 rfl (i := 3) rfl rfl one27) rfl ?_
  refine T_val (Ev_len rfl 3 Try.underlying27) rfl ?_
  refine T_val (Ev_eql rfl rfl) rfl ?_
  refine T_val (Ev_move rfl) rfl ?_
  have hx13 : decide ((((m : Nat) : Int)) = (1)) = true := by first | (exact decide_eq_true (by omega))
  refine T_slot (s := 32) (v' := .bool true) rfl (by rw [hx13]) ?_
  refine T_valG rfl rfl rfl (Ev_field rfl fld45_1 rfl) rfl ?_
  refine T_valG rfl rfl rfl (Ev_load1 rfl (i := 3) rfl rfl one27) rfl ?_
  obtain ⟨b14, o15, hA16, hp17⟩ := Has.elem ht (i := 0) (by simp)
  refine T_valG rfl rfl rfl (Ev_index rfl rfl hA16 (j := 0) (by omega) (by omega) slc27) rfl ?_
  refine T_valG rfl rfl rfl (Ev_loadP0 rfl hp17 (SubE.cons2 (i := 4) rfl (SubE.nil)) rfl one3) rfl ?_
  refine T_valG rfl rfl rfl (Ev_eql rfl rfl) rfl ?_
  refine T_val (Ev_pickT rfl rfl) rfl ?_
  refine T_nil ?_
  refine T_next ?_
  have hx18 : decide ((((([1])[0] : Nat) : Int)) = (1)) = true := by first | (exact decide_eq_true (by rfl))
  refine T_slot (s := 38) (v' := .bool true) rfl (by rw [hx18]) ?_
  refine T_condT rfl ?_
  refine T_reg ?_
  refine T_val (Ev_assign rfl) rfl ?_
  refine T_nil ?_
  refine T_next ?_
  refine T_seq ?_
  refine T_reg ?_
  refine T_val (Ev_field rfl fld45_0 rfl) rfl ?_
  refine T_val (Ev_field rfl fld43_0 rfl) rfl ?_
  refine T_val (Ev_load1 rfl (i := 3) rfl rfl one4) rfl ?_
  refine T_val (Ev_move rfl) rfl ?_
  refine T_val (Ev_move rfl) rfl ?_
  refine T_val (Ev_build rfl (bld32_0b1s2s _ _ _ _ _ _ _)) rfl ?_
  refine T_h (Wh_store rfl rfl rfl (.there (.there (.here))) (.put (.put (.put (.done)))) rfl (List.cons_ne_nil _ _) agg32.2 ?_)
  refine T_val (Ev_assign rfl) rfl ?_
  refine T_nil ?_
  refine T_next ?_
  refine T_retc ?_
  refine T_retL (rs := [.cell 2 32, .tmp 3]) Try.results62 (.cell rfl (i := 2) rfl rfl agg32 (.tmp rfl (.nil))) (Ln := [e3]) (⟨e3, ⟨_, _, _, by simp only [resVal], hs7⟩, rfl⟩) (loCons lo_e3 (loNil)) (.drop (.keep (.drop (.drop (.refl)))))
set_option maxRecDepth 100000 in
theorem same_ok {s : Bool} {A n c A2 n2 c2 B2 m2 d2} {x : Nat} {K : List Ent} (ha : Has K A n c 1 eW (dig 4294967296 x)) (ha2 : Has K A2 n2 c2 1 e64 (dig 65536 x)) (hb2 : Has K B2 m2 d2 1 e64 [1]) (h9 : n2 ≤ 512) (w : World) (hK : ∀ e ∈ K, Ent.ok w e) : Ct Try.prog 22 [.agg #[.bool s, .slice A n c, .slice none 0 0], .agg #[.bool s, .slice A2 n2 c2, .slice B2 m2 d2]] w fun v => v = .bool true := by
  have hs := (ha.sl hK).has
  have hs2 := (ha2.sl hK).has
  have ht2 := (hb2.sl hK).has
  have hn := ha.len
  have hn2 := ha2.len
  have hsm := ha.small
  have hsm2 := ha2.small
  refine CtL.mk 77 Try.func22 rfl Try.ntmps22 (by kernel_rfl) rfl ?_
  show T 77 _ [(0, .agg #[.bool (s), .slice (A) (n) (c), .slice (none) (0) (0)]), (1, .agg #[.bool (s), .slice (A2) (n2) (c2), .slice (B2) (m2) (d2)])] _
  refine T_seq ?_
  refine T_reg ?_
  refine T_x (Wx_box rfl rfl rfl (fun g1 => ?_))
  refine T_x (Wx_box rfl rfl rfl (fun g2 => ?_))
  refine T_val (Ev_assign rfl) rfl ?_
  refine T_nil ?_
  refine T_next ?_
  refine T_seq ?_
  refine T_reg ?_
  refine T_val (Ev_loadK rfl (i := 0) rfl rfl agg45) rfl ?_
  refine T_x (Wx_call1 rfl (fun w1 hw1 => out_ok  hs2 ht2 (by omega) w1 (okAll (K := [.old w]) (by exact (SubE.cons2 (i := 2) rfl (SubE.nil))) hw1)) rfl ?_)
  rintro _ e3 lo_e3 ⟨A4, k5, c6, rfl, hs7⟩
  refine T_val (Ev_move rfl) rfl ?_
  refine T_val (Ev_extract rfl rfl) rfl ?_
  refine T_val (Ev_extract rfl rfl) rfl ?_
  refine T_x (Wx_alloc zer32 rfl (fun g8 => ?_))
  refine T_h (Wh_store rfl rfl rfl (.here) (.put (.put (.put (.done)))) rfl (List.cons_ne_nil _ _) agg32.2 ?_)
  refine T_val (Ev_assign rfl) rfl ?_
  refine T_nil ?_
  refine T_next ?_
  refine T_seq ?_
  refine T_seq ?_
  refine T_reg ?_
  refine T_val (Ev_move rfl) rfl ?_
  refine T_val (Ev_neq rfl rfl) rfl ?_
  refine T_val (Ev_move rfl) rfl ?_
  refine T_valG rfl rfl rfl (Ev_field rfl fld32_0 rfl) rfl ?_
  refine T_valG rfl rfl rfl (Ev_load1 rfl (i := 3) rfl rfl one4) rfl ?_
  refine T_valG rfl rfl rfl (Ev_field rfl fld32_0 rfl) rfl ?_
  refine T_valG rfl rfl rfl (Ev_load1 rfl (i := 0) rfl rfl one4) rfl ?_
  refine T_valG rfl rfl rfl (Ev_neqB rfl rfl (by kernel_rfl)) rfl ?_
  refine T_val (Ev_pickF rfl rfl) rfl ?_
  refine T_val (Ev_move rfl) rfl ?_
  have hx9 : ((s) == (s)) = true := by simp
  refine T_slot (s := 23) (v' := .bool false) rfl (by rw [hx9]; rfl) ?_
  refine T_valG rfl rfl rfl (Ev_field rfl fld32_1 rfl) rfl ?_
  refine T_valG rfl rfl rfl (Ev_load1 rfl (i := 3) rfl rfl one30) rfl ?_
  refine T_valG rfl rfl rfl (Ev_len rfl 105 Try.underlying30) rfl ?_
  refine T_valG rfl rfl rfl (Ev_field rfl fld32_1 rfl) rfl ?_
  refine T_valG rfl rfl rfl (Ev_load1 rfl (i := 0) rfl rfl one30) rfl ?_
  have hq := hs7.len
  refine T_valG rfl rfl rfl (Ev_len rfl 105 Try.underlying30) rfl ?_
  refine T_valG rfl rfl rfl (Ev_neq rfl rfl) rfl ?_
  refine T_val (Ev_pickF rfl rfl) rfl ?_
  refine T_val (Ev_move rfl) rfl ?_
  have hx10 : decide ((((n : Nat) : Int)) = (((k5 : Nat) : Int))) = true := by first | (exact decide_eq_true (by omega))
  refine T_slot (s := 32) (v' := .bool false) rfl (by rw [hx10]; rfl) ?_
  refine T_valG rfl rfl rfl (Ev_field rfl fld32_2 rfl) rfl ?_
  refine T_valG rfl rfl rfl (Ev_load1 rfl (i := 3) rfl rfl one30) rfl ?_
  refine T_valG rfl rfl rfl (Ev_len rfl 105 Try.underlying30) rfl ?_
  refine T_valG rfl rfl rfl (Ev_field rfl fld32_2 rfl) rfl ?_
  refine T_valG rfl rfl rfl (Ev_load1 rfl (i := 0) rfl rfl one30) rfl ?_
  refine T_valG rfl rfl rfl (Ev_len rfl 105 Try.underlying30) rfl ?_
  refine T_valG rfl rfl rfl (Ev_neq rfl rfl) rfl ?_
  refine T_val (Ev_pickF rfl rfl) rfl ?_
  refine T_nil ?_
  refine T_next ?_
  refine T_condF rfl ?_
  refine T_skip ?_
  refine T_next ?_
  refine T_seq ?_
  refine T_seq ?_
  refine T_reg ?_
  refine T_val (Ev_assign rfl) rfl ?_
  refine T_nil ?_
  refine T_next ?_
  refine T_block ?_
  refine T_loop (σ := Nat) (fun k => [(0, .agg #[.bool (s), .slice (A) (n) (c), .slice (none) (0) (0)]), (1, .agg #[.bool (s), .slice (A2) (n2) (c2), .slice (B2) (m2) (d2)]), (2, .pointer (some ⟨g1, 0, none⟩)), (3, .pointer (some ⟨g2, 0, none⟩)), (5, .pointer (some ⟨g8, 0, none⟩)), (6, .int .i64 (0)), (7, .int .i64 (((k : Nat) : Int))), (9, .tuple #[.agg #[.bool (s), .slice (A4) (k5) (c6), .slice (none) (0) (0)], .int .i64 (0)]), (10, .agg #[.bool (s), .slice (A2) (n2) (c2), .slice (B2) (m2) (d2)]), (11, .tuple #[.agg #[.bool (s), .slice (A4) (k5) (c6), .slice (none) (0) (0)], .int .i64 (0)]), (12, .agg #[.bool (s), .slice (A4) (k5) (c6), .slice (none) (0) (0)]), (13, .int .i64 (0)), (14, .int .i64 (0)), (15, .bool (false)), (16, .bool (false)), (17, .pointer (some ⟨g1, 0, none⟩)), (18, .bool (s)), (19, .pointer (some ⟨g8, 0, none⟩)), (20, .bool (s)), (21, .bool (!((s) == (s)))), (22, .bool (!((s) == (s)))), (23, .bool (false)), (24, .pointer (some ⟨g1, 1, none⟩)), (25, .slice (A) (n) (c)), (26, .int .i64 (((n : Nat) : Int))), (27, .pointer (some ⟨g8, 1, none⟩)), (28, .slice (A4) (k5) (c6)), (29, .int .i64 (((k5 : Nat) : Int))), (30, .bool (!(decide ((((n : Nat) : Int)) = (((k5 : Nat) : Int)))))), (31, .bool (!(decide ((((n : Nat) : Int)) = (((k5 : Nat) : Int)))))), (32, .bool (false)), (33, .pointer (some ⟨g1, 2, none⟩)), (34, .slice (none) (0) (0)), (35, .int .i64 (((0 : Nat) : Int))), (36, .pointer (some ⟨g8, 2, none⟩)), (37, .slice (none) (0) (0)), (38, .int .i64 (((0 : Nat) : Int))), (39, .bool (false)), (40, .bool (false))]) (fun k => [.m g8 32 [.bool (s), .slice (A4) (k5) (c6), .slice (none) (0) (0)], e3, .m g2 45 [.bool (s), .slice (A2) (n2) (c2), .slice (B2) (m2) (d2)], .m g1 32 [.bool (s), .slice (A) (n) (c), .slice (none) (0) (0)]] ++ [.old w]) (fun k => k ≤ n) (fun k => n - k) (0) ?_ ?_ ?_ ?_
  · exact Nat.zero_le _
  · exact .cons rfl (.cons rfl (.cons rfl (.cons rfl (.cons rfl (.cons rfl (.cons rfl (.cons rfl (.cons rfl (.cons rfl (.cons rfl (.cons rfl (.cons rfl (.cons rfl (.cons rfl (.cons rfl (.cons rfl (.cons rfl (.cons rfl (.cons rfl (.cons rfl (.cons rfl (.cons rfl (.cons rfl (.cons rfl (.cons rfl (.cons rfl (.cons rfl (.cons rfl (.cons rfl (.cons rfl (.cons rfl (.cons rfl (.cons rfl (.cons rfl (.cons rfl (.cons rfl (.cons rfl (.cons rfl (.nil)))))))))))))))))))))))))))))))))))))))
  · exact .keep (.keep (.keep (.keep (.refl))))
  intro k hC
  refine T_seq ?_
  refine T_seq ?_
  refine T_reg ?_
  refine T_val (Ev_move rfl) rfl ?_
  refine T_val (Ev_field rfl fld32_1 rfl) rfl ?_
  refine T_val (Ev_load1 rfl (i := 3) rfl rfl one30) rfl ?_
  refine T_val (Ev_len rfl 105 Try.underlying30) rfl ?_
  refine T_val (Ev_lss rfl rfl) rfl ?_
  refine T_nil ?_
  refine T_next ?_
  refine T_caseP (s := 45) rfl (fun h11 => ?_) (fun h11 => ?_)
  · refine T_condT rfl ?_
    refine T_skip ?_
    refine T_next ?_
    refine T_seq ?_
    refine T_block ?_
    refine T_seq ?_
    refine T_draw [0, 1, 0, 0, 1, 0, 1, 0, 0, 1, 0] [[], [0], [], [0, 1, 2], [0, 1, 2, 3], [], [5], [], [5, 6, 7], [5, 6, 7, 8], [0, 1, 2, 3, 4, 5, 6, 7, 8, 9]] (.q 0 (.q 1 (.q 2 (.q 3 (.q 4 (.q 5 (.q 6 (.q 7 (.q 8 (.q 9 (.q 10 (.done)))))))))))) mixed (by kernel_rfl) (by kernel_rfl) ?_
    refine P_p rfl rfl (Ev_field rfl fld32_1 rfl) rfl ?_
    refine P_q rfl rfl (Ev_load1 rfl (i := 3) rfl rfl one30) rfl ?_
    refine P_p rfl rfl (Ev_move rfl) rfl ?_
    obtain ⟨b12, o13, hA14, hp15⟩ := Has.elem hs (i := k) (by omega)
    refine P_p rfl rfl (Ev_index rfl rfl hA14 (j := k) (by omega) (by omega) slc30) rfl ?_
    refine P_q rfl rfl (Ev_loadP0 rfl hp15 (SubE.cons2 (i := 4) rfl (SubE.nil)) rfl one105) rfl ?_
    refine P_p rfl rfl (Ev_field rfl fld32_1 rfl) rfl ?_
    refine P_q rfl rfl (Ev_load1 rfl (i := 0) rfl rfl one30) rfl ?_
    refine P_p rfl rfl (Ev_move rfl) rfl ?_
    obtain ⟨b16, o17, hA18, hp19⟩ := Has.elem hs7 (i := k) (by omega)
    refine P_p rfl rfl (Ev_index rfl rfl hA18 (j := k) (by omega) (by omega) slc30) rfl ?_
    refine P_q rfl rfl (Ev_loadP0 rfl hp19 (SubE.cons2 (i := 1) rfl (SubE.nil)) rfl one105) rfl ?_
    refine P_p rfl rfl (Ev_neq rfl rfl) rfl ?_
    refine P_done ?_
    refine T_next ?_
    have hx20 : decide (((((dig 4294967296 (x))[k] : Nat) : Int)) = ((((dig 4294967296 ((x)))[k] : Nat) : Int))) = true := by first | (exact decide_eq_true (by rfl))
    refine T_slot (s := 58) (v' := .bool false) rfl (by rw [hx20]; rfl) ?_
    refine T_condF rfl ?_
    refine T_skip ?_
    refine T_inN ?_
    refine T_next ?_
    refine T_reg ?_
    refine T_val (Ev_move rfl) rfl ?_
    refine T_val (Ev_addN (k) (1) rfl rfl (by simp only [top]; omega)) rfl ?_
    refine T_val (Ev_assign rfl) rfl ?_
    refine T_nil ?_
    refine T_round (σ := Nat) (I := fun k => [(0, .agg #[.bool (s), .slice (A) (n) (c), .slice (none) (0) (0)]), (1, .agg #[.bool (s), .slice (A2) (n2) (c2), .slice (B2) (m2) (d2)]), (2, .pointer (some ⟨g1, 0, none⟩)), (3, .pointer (some ⟨g2, 0, none⟩)), (5, .pointer (some ⟨g8, 0, none⟩)), (6, .int .i64 (0)), (7, .int .i64 (((k : Nat) : Int))), (9, .tuple #[.agg #[.bool (s), .slice (A4) (k5) (c6), .slice (none) (0) (0)], .int .i64 (0)]), (10, .agg #[.bool (s), .slice (A2) (n2) (c2), .slice (B2) (m2) (d2)]), (11, .tuple #[.agg #[.bool (s), .slice (A4) (k5) (c6), .slice (none) (0) (0)], .int .i64 (0)]), (12, .agg #[.bool (s), .slice (A4) (k5) (c6), .slice (none) (0) (0)]), (13, .int .i64 (0)), (14, .int .i64 (0)), (15, .bool (false)), (16, .bool (false)), (17, .pointer (some ⟨g1, 0, none⟩)), (18, .bool (s)), (19, .pointer (some ⟨g8, 0, none⟩)), (20, .bool (s)), (21, .bool (!((s) == (s)))), (22, .bool (!((s) == (s)))), (23, .bool (false)), (24, .pointer (some ⟨g1, 1, none⟩)), (25, .slice (A) (n) (c)), (26, .int .i64 (((n : Nat) : Int))), (27, .pointer (some ⟨g8, 1, none⟩)), (28, .slice (A4) (k5) (c6)), (29, .int .i64 (((k5 : Nat) : Int))), (30, .bool (!(decide ((((n : Nat) : Int)) = (((k5 : Nat) : Int)))))), (31, .bool (!(decide ((((n : Nat) : Int)) = (((k5 : Nat) : Int)))))), (32, .bool (false)), (33, .pointer (some ⟨g1, 2, none⟩)), (34, .slice (none) (0) (0)), (35, .int .i64 (((0 : Nat) : Int))), (36, .pointer (some ⟨g8, 2, none⟩)), (37, .slice (none) (0) (0)), (38, .int .i64 (((0 : Nat) : Int))), (39, .bool (false)), (40, .bool (false))]) (H := fun k => [.m g8 32 [.bool (s), .slice (A4) (k5) (c6), .slice (none) (0) (0)], e3, .m g2 45 [.bool (s), .slice (A2) (n2) (c2), .slice (B2) (m2) (d2)], .m g1 32 [.bool (s), .slice (A) (n) (c), .slice (none) (0) (0)]] ++ [.old w]) (C := fun k => k ≤ n) (μ := fun k => n - k) (s := k) (k + 1) ?_ ?_ ?_ ?_
    · exact (by omega)
    · exact (show n - (k + 1) < n - k by omega)
    · exact .cons rfl (.cons rfl (.cons rfl (.cons rfl (.cons rfl (.cons rfl (.cons rfl (.cons rfl (.cons rfl (.cons rfl (.cons rfl (.cons rfl (.cons rfl (.cons rfl (.cons rfl (.cons rfl (.cons rfl (.cons rfl (.cons rfl (.cons rfl (.cons rfl (.cons rfl (.cons rfl (.cons rfl (.cons rfl (.cons rfl (.cons rfl (.cons rfl (.cons rfl (.cons rfl (.cons rfl (.cons rfl (.cons rfl (.cons rfl (.cons rfl (.cons rfl (.cons rfl (.cons rfl (.cons rfl (.nil)))))))))))))))))))))))))))))))))))))))
    · exact .keep (.keep (.keep (.keep (.refl))))
  · refine T_condF rfl ?_
    refine T_exit ?_
    refine T_outX ?_
    refine T_outX ?_
    refine T_here ?_
    refine T_next ?_
    refine T_seq ?_
    refine T_seq ?_
    refine T_reg ?_
    refine T_val (Ev_assign rfl) rfl ?_
    refine T_nil ?_
    refine T_next ?_
    refine T_block ?_
    refine T_loopN 1 ?_
    refine T_rounds ?_
    refine T_seq ?_
    refine T_seq ?_
    refine T_reg ?_
    refine T_val (Ev_move rfl) rfl ?_
    refine T_val (Ev_field rfl fld32_2 rfl) rfl ?_
    refine T_val (Ev_load1 rfl (i := 3) rfl rfl one30) rfl ?_
    refine T_val (Ev_len rfl 105 Try.underlying30) rfl ?_
    refine T_val (Ev_lss rfl rfl) rfl ?_
    refine T_nil ?_
    refine T_next ?_
    refine T_condF rfl ?_
    refine T_exit ?_
    refine T_outX ?_
    refine T_outX ?_
    refine T_here ?_
    refine T_next ?_
    refine T_seq ?_
    refine T_reg ?_
    refine T_val (Ev_assign rfl) rfl ?_
    refine T_nil ?_
    refine T_next ?_
    refine T_retc ?_
    refine T_retL (rs := [.tmp 4]) Try.results22 (.tmp rfl (.nil)) (Ln := []) (⟨by first | rfl | simp [resVal], rfl⟩) (loNil) (.drop (.drop (.drop (.drop (.refl)))))
end Go.Proofs.Ytjhknbpiaikblaa
