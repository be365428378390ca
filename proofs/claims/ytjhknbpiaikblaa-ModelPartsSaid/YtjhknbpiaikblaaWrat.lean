/- Walks of the program: rational numbers that are whole. -/
import Derived.Test.YtjhknbpiaikblaaWnat
namespace Go.Proofs.Ytjhknbpiaikblaa
open Go Go.RowKit
theorem zer116 : ZeroOf Try.prog 116 [.bool (false), .slice (none) (0) (0), .slice (none) (0) (0)] := ⟨_, Try.zeroValue116, rfl⟩
theorem fld116_1 : FieldOf Try.prog 116 1 1 := .mk Try.underlying116 rfl rfl (show Try.prog.info? 114 = some Try.t114 from by kernel_rfl) (show Try.t114.size = 1 from by kernel_rfl) rfl
theorem one114 : OneOf Try.prog 114 := .mk Try.underlying114 rfl (show Try.prog.info? 114 = some Try.t114 from by kernel_rfl) (by kernel_rfl)
theorem bls114_1_0u32 (x0 : Int) : BuildSliceOf Try.prog 114 1 [(0, .int .u32 x0)] 105 [.int .u32 x0] := fun w => by kernel_rfl
theorem bld116_0b1s2s (x0 : Bool) (x1 : Option Addr) (x2 : Nat) (x3 : Nat) (x4 : Option Addr) (x5 : Nat) (x6 : Nat) : BuildOf Try.prog 116 [(0, .bool x0), (1, .slice x1 x2 x3), (2, .slice x4 x5 x6)] [.bool x0, .slice x1 x2 x3, .slice x4 x5 x6] := fun w => by kernel_rfl
theorem agg116 : AggOf Try.prog 116 3 := .mk Try.underlying116 rfl (show Try.prog.info? 116 = some Try.t116 from by kernel_rfl) (by kernel_rfl)
theorem fld116_2 : FieldOf Try.prog 116 2 2 := .mk Try.underlying116 rfl rfl (show Try.prog.info? 114 = some Try.t114 from by kernel_rfl) (show Try.t114.size = 1 from by kernel_rfl) rfl
theorem fld32_2 : FieldOf Try.prog 32 2 2 := .mk Try.underlying32 rfl rfl (show Try.prog.info? 30 = some Try.t30 from by kernel_rfl) (show Try.t30.size = 1 from by kernel_rfl) rfl
theorem one30 : OneOf Try.prog 30 := .mk Try.underlying30 rfl (show Try.prog.info? 30 = some Try.t30 from by kernel_rfl) (by kernel_rfl)
theorem fld32_0 : FieldOf Try.prog 32 0 0 := .mk Try.underlying32 rfl rfl (show Try.prog.info? 4 = some Try.t4 from by kernel_rfl) (show Try.t4.size = 1 from by kernel_rfl) rfl
theorem one4 : OneOf Try.prog 4 := .mk Try.underlying4 rfl (show Try.prog.info? 4 = some Try.t4 from by kernel_rfl) (by kernel_rfl)
theorem fld32_1 : FieldOf Try.prog 32 1 1 := .mk Try.underlying32 rfl rfl (show Try.prog.info? 30 = some Try.t30 from by kernel_rfl) (show Try.t30.size = 1 from by kernel_rfl) rfl
theorem fld116_0 : FieldOf Try.prog 116 0 0 := .mk Try.underlying116 rfl rfl (show Try.prog.info? 4 = some Try.t4 from by kernel_rfl) (show Try.t4.size = 1 from by kernel_rfl) rfl
theorem zer32 : ZeroOf Try.prog 32 [.bool (false), .slice (none) (0) (0), .slice (none) (0) (0)] := ⟨_, Try.zeroValue32, rfl⟩
theorem bld32_0b1s (x0 : Bool) (x1 : Option Addr) (x2 : Nat) (x3 : Nat) : BuildOf Try.prog 32 [(0, .bool x0), (1, .slice x1 x2 x3)] [.bool x0, .slice x1 x2 x3, .slice (none) (0) (0)] := fun w => by kernel_rfl
theorem agg32 : AggOf Try.prog 32 3 := .mk Try.underlying32 rfl (show Try.prog.info? 32 = some Try.t32 from by kernel_rfl) (by kernel_rfl)
theorem slc147 : SliceOf Try.prog 147 32 3 := .mk Try.underlying147 (show Try.prog.info? 32 = some Try.t32 from by kernel_rfl) (by kernel_rfl)
theorem bls147_2_0abss1abss (x0 : Bool) (x1 : Option Addr) (x2 : Nat) (x3 : Nat) (x4 : Option Addr) (x5 : Nat) (x6 : Nat) (x7 : Bool) (x8 : Option Addr) (x9 : Nat) (x10 : Nat) (x11 : Option Addr) (x12 : Nat) (x13 : Nat) : BuildSliceOf Try.prog 147 2 [(0, .agg #[.bool x0, .slice x1 x2 x3, .slice x4 x5 x6]), (1, .agg #[.bool x7, .slice x8 x9 x10, .slice x11 x12 x13])] 32 [.bool x0, .slice x1 x2 x3, .slice x4 x5 x6, .bool x7, .slice x8 x9 x10, .slice x11 x12 x13] := fun w => by kernel_rfl
theorem fld23_2 : FieldOf Try.prog 23 2 2 := .mk Try.underlying23 rfl rfl (show Try.prog.info? 3 = some Try.t3 from by kernel_rfl) (show Try.t3.size = 1 from by kernel_rfl) rfl
theorem one3 : OneOf Try.prog 3 := .mk Try.underlying3 rfl (show Try.prog.info? 3 = some Try.t3 from by kernel_rfl) (by kernel_rfl)
set_option maxRecDepth 100000 in
theorem reduced_ok {s : Bool} {A n c B m d} {x : Nat} {K : List Ent} (ha : Has K A n c 1 eW (dig 4294967296 x)) (hb : Has K B m d 1 eW [1]) (h9 : n ≤ 1000) (w : World) (hK : ∀ e ∈ K, Ent.ok w e) : Ct1 Try.prog 106 [.agg #[.bool s, .slice A n c, .slice B m d]] w fun v e => ∃ A' k c' B' m' d', v = .agg #[.bool (s && !decide (x = 0)), .slice A' k c', .slice B' m' d'] ∧ Has (e :: K) A' k c' 1 eW (dig 4294967296 (x)) ∧ Has (e :: K) B' m' d' 1 eW [1] := by
  have hs := (ha.sl hK).has
  have ht := (hb.sl hK).has
  have hn := ha.len
  have hm := hb.len
  have hsm := ha.small
  have hsm2 := hb.small
  have hm1 : m = 1 := hb.len.symm
  refine CtL.mk 48 Try.func106 rfl Try.ntmps106 (by kernel_rfl) rfl ?_
  show T 48 _ [(0, .agg #[.bool (s), .slice (A) (n) (c), .slice (B) (m) (d)])] _
  refine T_seq ?_
  refine T_reg ?_
  refine T_x (Wx_box rfl rfl rfl (fun g1 => ?_))
  refine T_x (Wx_alloc zer116 rfl (fun g2 => ?_))
  refine T_nil ?_
  refine T_next ?_
  refine T_seq ?_
  refine T_seq ?_
  refine T_reg ?_
  refine T_val (Ev_field rfl fld116_1 rfl) rfl ?_
  refine T_val (Ev_load1 rfl (i := 1) rfl rfl one114) rfl ?_
  refine T_val (Ev_len rfl 105 Try.underlying114) rfl ?_
  refine T_val (Ev_eql rfl rfl) rfl ?_
  refine T_nil ?_
  refine T_next ?_
  refine T_caseP (s := 11) rfl (fun h3 => ?_) (fun h3 => ?_)
  · refine T_condT rfl ?_
    refine T_seq ?_
    refine T_reg ?_
    refine T_x (Wx_buildSlice rfl (bls114_1_0u32 _) rfl (fun g4 => ?_))
    refine T_val (Ev_build rfl (bld116_0b1s2s _ _ _ _ _ _ _)) rfl ?_
    refine T_h (Wh_store rfl rfl rfl (.there (.here)) (.put (.put (.put (.done)))) rfl (List.cons_ne_nil _ _) agg116.2 ?_)
    refine T_nil ?_
    refine T_next ?_
    refine T_retc ?_
    refine T_outR ?_
    have hs5 : Has [.m g4 105 [.int .u32 (1)]] (some ⟨g4, 0, none⟩) 1 1 1 eW [1] := Has.ofM (by simp [eW]) rfl (by decide) rfl
    refine T_retL (rs := [.cell 2 116]) Try.results106 (.cell rfl (i := 1) rfl rfl agg116 (.nil)) (Ln := [.m g4 105 [.int .u32 (1)]]) (⟨.m g4 105 [.int .u32 (1)], ⟨none, 0, 0, _, _, _, by have h0 := (dig_len0 (b := 4294967296) (x := x) (by omega) hn).1 (by omega); subst h0; simp only [resVal]; congr 2; simp, by have h0 := (dig_len0 (b := 4294967296) (x := x) (by omega) hn).1 (by omega); subst h0; exact Has.nil, (hs5).up (SubE.cons2 (i := 0) rfl SubE.nil)⟩, rfl⟩) (loCons rfl (loNil)) (.keep (.drop (.drop (.refl))))
  · refine T_condF rfl ?_
    refine T_skip ?_
    refine T_next ?_
    refine T_seq ?_
    refine T_reg ?_
    refine T_val (Ev_field rfl fld116_1 rfl) rfl ?_
    refine T_val (Ev_load1 rfl (i := 1) rfl rfl one114) rfl ?_
    refine T_val (Ev_field rfl fld116_2 rfl) rfl ?_
    refine T_val (Ev_load1 rfl (i := 1) rfl rfl one114) rfl ?_
    refine T_x (Wx_call rfl (fun w1 hw1 => gcd1_ok  hs ht (by omega) w1 (okAll (K := [.old w]) (by exact (SubE.cons2 (i := 2) rfl (SubE.nil))) hw1)) rfl ?_)
    rintro _ rfl
    refine T_val (Ev_assign rfl) rfl ?_
    refine T_nil ?_
    refine T_next ?_
    refine T_seq ?_
    refine T_seq ?_
    refine T_reg ?_
    refine T_val (Ev_move rfl) rfl ?_
    refine T_val (Ev_len rfl 105 Try.underlying114) rfl ?_
    refine T_val (Ev_eql rfl rfl) rfl ?_
    refine T_val (Ev_move rfl) rfl ?_
    have hx6 : decide ((((m : Nat) : Int)) = (1)) = true := by first | (exact decide_eq_true (by omega))
    refine T_slot (s := 22) (v' := .bool true) rfl (by rw [hx6]) ?_
    refine T_valG rfl rfl rfl (Ev_move rfl) rfl ?_
    obtain ⟨b7, o8, hA9, hp10⟩ := Has.elem ht (i := 0) (by simp)
    refine T_valG rfl rfl rfl (Ev_index rfl rfl hA9 (j := 0) (by omega) (by omega) slc114) rfl ?_
    refine T_valG rfl rfl rfl (Ev_loadP0 rfl hp10 (SubE.cons2 (i := 2) rfl (SubE.nil)) rfl one105) rfl ?_
    refine T_valG rfl rfl rfl (Ev_eql rfl rfl) rfl ?_
    refine T_val (Ev_pickT rfl rfl) rfl ?_
    refine T_nil ?_
    refine T_next ?_
    have hx11 : decide ((((([1])[0] : Nat) : Int)) = (1)) = true := by first | (exact decide_eq_true (by rfl))
    refine T_slot (s := 27) (v' := .bool true) rfl (by rw [hx11]) ?_
    refine T_condT rfl ?_
    refine T_seq ?_
    refine T_reg ?_
    refine T_val (Ev_loadK rfl (i := 1) rfl rfl agg116) rfl ?_
    refine T_h (Wh_store rfl rfl rfl (.here) (.put (.put (.put (.done)))) rfl (List.cons_ne_nil _ _) agg116.2 ?_)
    refine T_nil ?_
    refine T_next ?_
    refine T_retc ?_
    refine T_outR ?_
    refine T_none 0 1 ?_
    refine T_retL (rs := [.cell 2 116]) Try.results106 (.cell rfl (i := 1) rfl rfl agg116 (.nil)) (Ln := [.r none 0 0 0 1 []]) (⟨.r none 0 0 0 1 [], ⟨_, _, _, _, _, _, by have h0 : x ≠ 0 := (fun h => by have := (dig_len0 (b := 4294967296) (by omega) hn).2 h; omega); simp only [resVal]; rw [decide_eq_false h0, Bool.not_false, Bool.and_true], ha.up (SubE.refl.cons), hb.up (SubE.refl.cons)⟩, rfl⟩) (loCons rfl (loNil)) (.keep (.drop (.drop (.refl))))
set_option maxRecDepth 100000 in
theorem of_ok {s : Bool} {A n c B d} {x : Nat} {K : List Ent} (ha : Has K A n c 1 eW (dig 4294967296 x)) (hb : Has K B 0 d 1 eW []) (h9 : n ≤ 1000) (w : World) (hK : ∀ e ∈ K, Ent.ok w e) : Ct2 Try.prog 73 [.agg #[.bool s, .slice A n c, .slice B 0 d]] w fun v e e' => ∃ A' k c' B' m' d', v = .agg #[.bool (s && !decide (x = 0)), .slice A' k c', .slice B' m' d'] ∧ Has (e :: e' :: K) A' k c' 1 eW (dig 4294967296 (x)) ∧ Has (e :: e' :: K) B' m' d' 1 eW [1] := by
  have hs := (ha.sl hK).has
  have ht := (hb.sl hK).has
  have hn := ha.len
  have hm := hb.len
  have hsm := ha.small
  have hsm2 := hb.small
  refine CtL.mk 19 Try.func73 rfl Try.ntmps73 (by kernel_rfl) rfl ?_
  show T 19 _ [(0, .agg #[.bool (s), .slice (A) (n) (c), .slice (B) (0) (d)])] _
  refine T_seq ?_
  refine T_reg ?_
  refine T_x (Wx_box rfl rfl rfl (fun g1 => ?_))
  refine T_x (Wx_alloc zer116 rfl (fun g2 => ?_))
  refine T_nil ?_
  refine T_next ?_
  refine T_seq ?_
  refine T_reg ?_
  refine T_val (Ev_field rfl fld32_2 rfl) rfl ?_
  refine T_val (Ev_load1 rfl (i := 1) rfl rfl one30) rfl ?_
  refine T_x (Wx_call rfl (fun w1 hw1 => norm_ok ht w1 (okAll (by exact (SubE.cons2 (i := 2) rfl (SubE.nil))) hw1)) rfl ?_)
  rintro _ rfl
  refine T_slot (s := 6) (v' := .slice (B) 0 (d)) rfl rfl ?_
  refine T_val (Ev_assign rfl) rfl ?_
  refine T_nil ?_
  refine T_next ?_
  refine T_seq ?_
  refine T_seq ?_
  refine T_reg ?_
  refine T_val (Ev_move rfl) rfl ?_
  refine T_val (Ev_len rfl 105 Try.underlying114) rfl ?_
  refine T_val (Ev_eql rfl rfl) rfl ?_
  refine T_nil ?_
  refine T_next ?_
  refine T_condT rfl ?_
  refine T_reg ?_
  refine T_x (Wx_buildSlice rfl (bls114_1_0u32 _) rfl (fun g4 => ?_))
  refine T_val (Ev_assign rfl) rfl ?_
  refine T_nil ?_
  refine T_next ?_
  refine T_seq ?_
  refine T_draw [0, 1, 0, 1, 2, 0, 0, 2, 3] [[], [0], [], [2], [2, 3], [], [0, 1, 2, 3, 4, 5], [0, 1, 2, 3, 4, 5, 6], [0, 1, 2, 3, 4, 5, 6, 7]] (.q 0 (.q 1 (.q 2 (.q 3 (.q 5 (.e 4 (.q 6 (.e 7 (.e 8 (.done) (.stop)) (.stop))) (.stop))))))) mixed (by kernel_rfl) (by kernel_rfl) ?_
  refine P_p rfl rfl (Ev_field rfl fld32_0 rfl) rfl ?_
  refine P_q rfl rfl (Ev_load1 rfl (i := 2) rfl rfl one4) rfl ?_
  refine P_p rfl rfl (Ev_field rfl fld32_1 rfl) rfl ?_
  refine P_q rfl rfl (Ev_load1 rfl (i := 2) rfl rfl one30) rfl ?_
  refine P_p rfl rfl (Ev_move rfl) rfl ?_
  refine P_x rfl (Wx_call rfl (fun w1 hw1 => norm_ok hs w1 (okAll (by exact (SubE.cons2 (i := 3) rfl (SubE.nil))) hw1)) rfl ?_) ?_
  rotate_left; exact P_stop
  rintro _ rfl
  refine T_slot (s := 15) (v' := .slice (A) (n) (c)) rfl (by rw [nrm_dig (by omega), hs.len]) ?_
  refine P_p rfl rfl (Ev_build rfl (bld116_0b1s2s _ _ _ _ _ _ _)) rfl ?_
  have hs6 : Has [.m g4 105 [.int .u32 (1)]] (some ⟨g4, 0, none⟩) 1 1 1 eW [1] := Has.ofM (by simp [eW]) rfl (by decide) rfl
  refine P_x rfl (Wx_call1 rfl (fun w1 hw1 => reduced_ok  (ha.up (K := K) (L := (K ++ [.m g4 105 [.int .u32 (1)]])) (SubE.appL)) (hs6.up (K := [.m g4 105 [.int .u32 (1)]]) (L := (K ++ [.m g4 105 [.int .u32 (1)]])) (SubE.appR (SubE.cons2 (i := 0) rfl (SubE.nil)))) (by omega) w1 (okApp (K := K) (K2 := [.m g4 105 [.int .u32 (1)]]) hK (by exact (SubE.cons2 (i := 3) rfl (SubE.nil))) (by exact (SubE.cons2 (i := 0) rfl (SubE.nil))) hw1)) rfl ?_) ?_
  rotate_left; exact P_stop
  rintro _ e7 lo_e7 ⟨A8, k9, c10, B11, m12, d13, rfl, hs14, ht15⟩
  refine P_h rfl rfl (Wh_store rfl rfl rfl (.there (.there (.here))) (.put (.put (.put (.done)))) rfl (List.cons_ne_nil _ _) agg116.2 ?_) ?_
  rotate_left; exact P_stop
  refine P_done ?_
  refine T_next ?_
  refine T_retc ?_
  refine T_retL (rs := [.cell 2 116]) Try.results73 (.cell rfl (i := 2) rfl rfl agg116 (.nil)) (Ln := [e7, .m g4 105 [.int .u32 (1)]]) (⟨e7, .m g4 105 [.int .u32 (1)], ⟨_, _, _, _, _, _, by simp only [resVal], hs14.up (⟨by intro z hz; simp only [List.mem_cons, List.mem_append, List.not_mem_nil, or_false] at hz ⊢; grind⟩ : SubE _ _), ht15.up (⟨by intro z hz; simp only [List.mem_cons, List.mem_append, List.not_mem_nil, or_false] at hz ⊢; grind⟩ : SubE _ _)⟩, rfl⟩) (loCons lo_e7 (loCons rfl (loNil))) (.keep (.keep (.drop (.drop (.refl)))))
theorem dig_11 : dig 4294967296 (val 4294967296 [1] * val 4294967296 [1]) = [1] := by
  have h : val 4294967296 [1] = 1 := rfl
  rw [h, Nat.mul_one, dig_one (by omega)]
set_option maxRecDepth 100000 in
theorem nmul_ok {s s2 : Bool} {A n c B m d A2 n2 c2 B2 m2 d2} {x y : Nat} {K : List Ent} (ha : Has K A n c 1 eW (dig 4294967296 x)) (hb : Has K B m d 1 eW [1]) (ha2 : Has K A2 n2 c2 1 eW (dig 4294967296 y)) (hb2 : Has K B2 m2 d2 1 eW [1]) (h9 : n ≤ 256) (h92 : n2 ≤ 256) (w : World) (hK : ∀ e ∈ K, Ent.ok w e) : Ct2 Try.prog 132 [.agg #[.bool s, .slice A n c, .slice B m d], .agg #[.bool s2, .slice A2 n2 c2, .slice B2 m2 d2]] w fun v e e' => ∃ A' k c' B' m' d', v = .agg #[.bool (!(s == s2)), .slice A' k c', .slice B' m' d'] ∧ Has [e, e'] A' k c' 1 eW (dig 4294967296 (x * y)) ∧ Has [e, e'] B' m' d' 1 eW [1] := by
  have hs := (ha.sl hK).has
  have ht := (hb.sl hK).has
  have hn := ha.len
  have hm := hb.len
  have hsm := ha.small
  have hsm2 := hb.small
  have hs2 := (ha2.sl hK).has
  have ht2 := (hb2.sl hK).has
  have hn2 := ha2.len
  have hm2 := hb2.len
  have hsm3 := ha2.small
  have hsm4 := hb2.small
  have hm1 : m = 1 := hb.len.symm
  have hm3 : m2 = 1 := hb2.len.symm
  refine CtL.mk 21 Try.func132 rfl Try.ntmps132 (by kernel_rfl) rfl ?_
  show T 21 _ [(0, .agg #[.bool (s), .slice (A) (n) (c), .slice (B) (m) (d)]), (1, .agg #[.bool (s2), .slice (A2) (n2) (c2), .slice (B2) (m2) (d2)])] _
  refine T_seq ?_
  refine T_reg ?_
  refine T_x (Wx_box rfl rfl rfl (fun g1 => ?_))
  refine T_x (Wx_box rfl rfl rfl (fun g2 => ?_))
  refine T_x (Wx_alloc zer116 rfl (fun g3 => ?_))
  refine T_nil ?_
  refine T_next ?_
  refine T_seq ?_
  refine T_draw [0, 1, 0, 1, 0, 0, 1, 0, 1, 2, 0, 1, 0, 1, 2, 0, 3] [[], [0], [], [2], [0, 1, 2, 3], [], [5], [], [7], [5, 6, 7, 8], [], [10], [], [12], [5, 6, 7, 8, 9, 10, 11, 12, 13], [0, 1, 2, 3, 4, 5, 6, 7, 8, 9, 10, 11, 12, 13, 14], [0, 1, 2, 3, 4, 5, 6, 7, 8, 9, 10, 11, 12, 13, 14, 15]] (.q 0 (.q 1 (.q 2 (.q 3 (.q 4 (.q 5 (.q 6 (.q 7 (.q 8 (.q 10 (.q 11 (.q 12 (.q 13 (.e 9 (.e 14 (.q 15 (.e 16 (.done) (.stop))) (.stop)) (.stop))))))))))))))) mixed (by kernel_rfl) (by kernel_rfl) ?_
  refine P_p rfl rfl (Ev_field rfl fld116_0 rfl) rfl ?_
  refine P_q rfl rfl (Ev_load1 rfl (i := 2) rfl rfl one4) rfl ?_
  refine P_p rfl rfl (Ev_field rfl fld116_0 rfl) rfl ?_
  refine P_q rfl rfl (Ev_load1 rfl (i := 1) rfl rfl one4) rfl ?_
  refine P_p rfl rfl (Ev_neqB rfl rfl (by kernel_rfl)) rfl ?_
  refine P_p rfl rfl (Ev_field rfl fld116_1 rfl) rfl ?_
  refine P_q rfl rfl (Ev_load1 rfl (i := 2) rfl rfl one114) rfl ?_
  refine P_p rfl rfl (Ev_field rfl fld116_1 rfl) rfl ?_
  refine P_q rfl rfl (Ev_load1 rfl (i := 1) rfl rfl one114) rfl ?_
  refine P_p rfl rfl (Ev_field rfl fld116_2 rfl) rfl ?_
  refine P_q rfl rfl (Ev_load1 rfl (i := 2) rfl rfl one114) rfl ?_
  refine P_p rfl rfl (Ev_field rfl fld116_2 rfl) rfl ?_
  refine P_q rfl rfl (Ev_load1 rfl (i := 1) rfl rfl one114) rfl ?_
  refine P_x rfl (Wx_call1 rfl (fun w1 hw1 => mul_ok  hs hs2 (by exact dig_lt (by omega) _) (by exact dig_lt (by omega) _) (by omega) w1 (okAll (K := [.old w]) (by exact (SubE.cons2 (i := 3) rfl (SubE.nil))) hw1)) rfl ?_) ?_
  rotate_left; exact P_stop
  rintro _ e4 lo_e4 ⟨A5, k6, c7, rfl, hs8⟩
  refine P_x rfl (Wx_call1 rfl (fun w1 hw1 => mul_ok  ht ht2 (by decide) (by decide) (by omega) w1 (okAll (K := [.old w]) (by exact (SubE.cons2 (i := 4) rfl (SubE.nil))) hw1)) rfl ?_) ?_
  rotate_left; exact P_stop
  rintro _ e9 lo_e9 ⟨A10, k11, c12, rfl, hs13⟩
  refine P_p rfl rfl (Ev_build rfl (bld116_0b1s2s _ _ _ _ _ _ _)) rfl ?_
  refine P_h rfl rfl (Wh_store rfl rfl rfl (.there (.there (.here))) (.put (.put (.put (.done)))) rfl (List.cons_ne_nil _ _) agg116.2 ?_) ?_
  rotate_left; exact P_stop
  refine P_done ?_
  refine T_next ?_
  refine T_retc ?_
  refine T_retL (rs := [.cell 4 116]) Try.results132 (.cell rfl (i := 2) rfl rfl agg116 (.nil)) (Ln := [e9, e4]) (⟨e9, e4, ⟨_, _, _, _, _, _, by simp only [resVal]; rfl, by rw [val_dig (by omega), val_dig (by omega)] at hs8; exact hs8.up (SubE.cons2 (i := 1) rfl SubE.nil), by rw [dig_11] at hs13; exact hs13.up (SubE.cons2 (i := 0) rfl SubE.nil)⟩, rfl⟩) (loCons lo_e9 (loCons lo_e4 (loNil))) (.keep (.keep (.drop (.drop (.drop (.refl))))))
set_option maxRecDepth 100000 in
theorem done_ok {s : Bool} {A n c B m d} {x : Nat} {K : List Ent} (ha : Has K A n c 1 eW (dig 4294967296 x)) (hb : Has K B m d 1 eW [1]) (h9 : n ≤ 256) (w : World) (hK : ∀ e ∈ K, Ent.ok w e) : Ct1 Try.prog 75 [.agg #[.bool s, .slice A n c, .slice B m d]] w fun v e => ∃ A' k c', v = .tuple #[.agg #[.bool (s && !decide (x = 0)), .slice A' k c', .slice none 0 0], .int .i64 0] ∧ Has [e] A' k c' 1 eW (dig 4294967296 (x)) := by
  have hs := (ha.sl hK).has
  have ht := (hb.sl hK).has
  have hn := ha.len
  have hm := hb.len
  have hsm := ha.small
  have hsm2 := hb.small
  have hm1 : m = 1 := hb.len.symm
  refine CtL.mk 52 Try.func75 rfl Try.ntmps75 (by kernel_rfl) rfl ?_
  show T 52 _ [(0, .agg #[.bool (s), .slice (A) (n) (c), .slice (B) (m) (d)])] _
  refine T_seq ?_
  refine T_reg ?_
  refine T_x (Wx_box rfl rfl rfl (fun g1 => ?_))
  refine T_x (Wx_alloc zer32 rfl (fun g2 => ?_))
  refine T_val (Ev_assign rfl) rfl ?_
  refine T_nil ?_
  refine T_next ?_
  refine T_seq ?_
  refine T_reg ?_
  refine T_val (Ev_loadK rfl (i := 1) rfl rfl agg116) rfl ?_
  refine T_x (Wx_call1 rfl (fun w1 hw1 => reduced_ok  hs ht (by omega) w1 (okAll (K := [.old w]) (by exact (SubE.cons2 (i := 2) rfl (SubE.nil))) hw1)) rfl ?_)
  rintro _ e3 lo_e3 ⟨A4, k5, c6, B7, m8, d9, rfl, hs10, ht11⟩
  refine T_h (Wh_store rfl rfl rfl (.there (.there (.here))) (.put (.put (.put (.done)))) rfl (List.cons_ne_nil _ _) agg116.2 ?_)
  refine T_nil ?_
  refine T_next ?_
  refine T_seq ?_
  refine T_seq ?_
  refine T_reg ?_
  refine T_val (Ev_field rfl fld116_1 rfl) rfl ?_
  refine T_val (Ev_load1 rfl (i := 2) rfl rfl one114) rfl ?_
  have hq9 := hs10.len
  refine T_val (Ev_len rfl 105 Try.underlying114) rfl ?_
  refine T_val (Ev_gtr rfl rfl) rfl ?_
  refine T_val (Ev_move rfl) rfl ?_
  have hx12 : decide ((256) < (((k5 : Nat) : Int))) = false := by first | (exact decide_eq_false (by omega))
  refine T_slot (s := 11) (v' := .bool false) rfl (by rw [hx12]) ?_
  refine T_valG rfl rfl rfl (Ev_field rfl fld116_2 rfl) rfl ?_
  refine T_valG rfl rfl rfl (Ev_load1 rfl (i := 2) rfl rfl one114) rfl ?_
  have hq14 : m8 = 1 := ht11.len.symm
  refine T_valG rfl rfl rfl (Ev_len rfl 105 Try.underlying114) rfl ?_
  refine T_valG rfl rfl rfl (Ev_gtr rfl rfl) rfl ?_
  refine T_val (Ev_pickF rfl rfl) rfl ?_
  refine T_nil ?_
  refine T_next ?_
  have hx13 : decide ((256) < (((m8 : Nat) : Int))) = false := by first | (exact decide_eq_false (by omega))
  refine T_slot (s := 16) (v' := .bool false) rfl (by rw [hx13]) ?_
  refine T_condF rfl ?_
  refine T_skip ?_
  refine T_next ?_
  refine T_seq ?_
  refine T_draw [0, 1, 0, 1, 0, 2, 0, 2, 3] [[], [0], [], [2], [2, 3], [2, 3, 4], [0, 1, 2, 3, 4, 5], [], [0, 1, 2, 3, 4, 5, 6, 7]] (.q 0 (.q 1 (.q 2 (.q 3 (.q 4 (.e 5 (.q 6 (.e 7 (.e 8 (.done) (.stop)) (.stop))) (.e 7 (.e 5 (.q 6 (.e 8 (.done) (.stop))) (.stop)) (.stop)))))))) mixed (by kernel_rfl) (by kernel_rfl) ?_
  refine P_p rfl rfl (Ev_field rfl fld116_0 rfl) rfl ?_
  refine P_q rfl rfl (Ev_load1 rfl (i := 2) rfl rfl one4) rfl ?_
  refine P_p rfl rfl (Ev_field rfl fld116_1 rfl) rfl ?_
  refine P_q rfl rfl (Ev_load1 rfl (i := 2) rfl rfl one114) rfl ?_
  refine P_p rfl rfl (Ev_len rfl 105 Try.underlying114) rfl ?_
  refine P_x rfl (Wx_make1 (z := .int .u32 (0)) rfl rfl (m := k5) rfl rfl Try.underlying30 (show Try.prog.info? 105 = some Try.t105 from by kernel_rfl) (by kernel_rfl) rfl (by kernel_rfl) (by show 4 * _ ≤ _; omega) (by omega) rfl (fun A14 => ?_)) ?_
  · refine T_ent .here (e' := .r (A14) (k5) (k5) 105 1 ((List.replicate (k5) (0 : Nat)).flatMap eW)) (by simp [eW, List.flatMap_replicate]) ?_
    refine P_p rfl rfl (Ev_build rfl (bld32_0b1s _ _ _ _)) rfl ?_
    refine P_x rfl (Wx_alloc zer32 rfl (fun g15 => ?_)) ?_
    rotate_left; exact P_stop
    refine P_h rfl rfl (Wh_store rfl rfl rfl (.here) (.put (.put (.put (.done)))) rfl (List.cons_ne_nil _ _) agg32.2 ?_) ?_
    rotate_left; exact P_stop
    refine P_done ?_
    refine T_next ?_
    refine T_seq ?_
    refine T_reg ?_
    refine T_val (Ev_field rfl fld32_1 rfl) rfl ?_
    refine T_val (Ev_load1 rfl (i := 0) rfl rfl one30) rfl ?_
    refine T_val (Ev_field rfl fld116_1 rfl) rfl ?_
    refine T_val (Ev_load1 rfl (i := 4) rfl rfl one114) rfl ?_
    refine T_h (Wh_copy rfl rfl hs10 (SubE.cons2 (i := 2) rfl (SubE.cons2 (i := 5) rfl (SubE.nil))) (by first | rfl | omega) (.there (.here)) Try.underlying30 (by kernel_rfl) (fun _ => rfl) rfl ?_)
    refine T_nil ?_
    refine T_next ?_
    refine T_seq ?_
    refine T_seq ?_
    refine T_reg ?_
    refine T_val (Ev_field rfl fld116_2 rfl) rfl ?_
    refine T_val (Ev_load1 rfl (i := 4) rfl rfl one114) rfl ?_
    refine T_val (Ev_len rfl 105 Try.underlying114) rfl ?_
    refine T_val (Ev_gtr rfl rfl) rfl ?_
    refine T_val (Ev_move rfl) rfl ?_
    have hx16 : decide ((1) < (((m8 : Nat) : Int))) = false := by first | (exact decide_eq_false (by omega))
    refine T_slot (s := 34) (v' := .bool false) rfl (by rw [hx16]) ?_
    refine T_valG rfl rfl rfl (Ev_field rfl fld116_2 rfl) rfl ?_
    refine T_valG rfl rfl rfl (Ev_load1 rfl (i := 4) rfl rfl one114) rfl ?_
    obtain ⟨b17, o18, hA19, hp20⟩ := Has.elem ht11 (i := 0) (by simp)
    refine T_valG rfl rfl rfl (Ev_index rfl rfl hA19 (j := 0) (by omega) (by omega) slc114) rfl ?_
    refine T_valG rfl rfl rfl (Ev_loadP0 rfl hp20 (SubE.cons2 (i := 2) rfl (SubE.cons2 (i := 5) rfl (SubE.nil))) rfl one105) rfl ?_
    refine T_valG rfl rfl rfl (Ev_neq rfl rfl) rfl ?_
    refine T_val (Ev_pickF rfl rfl) rfl ?_
    refine T_nil ?_
    refine T_next ?_
    have hx21 : decide ((((([1])[0] : Nat) : Int)) = (1)) = true := by first | (exact decide_eq_true (by rfl))
    refine T_slot (s := 40) (v' := .bool false) rfl (by rw [hx21]; rfl) ?_
    refine T_condF rfl ?_
    refine T_skip ?_
    refine T_next ?_
    refine T_seq ?_
    refine T_reg ?_
    refine T_val (Ev_loadK rfl (i := 0) rfl rfl agg32) rfl ?_
    refine T_h (Wh_store rfl rfl rfl (.there (.there (.there (.here)))) (.put (.put (.put (.done)))) rfl (List.cons_ne_nil _ _) agg32.2 ?_)
    refine T_val (Ev_assign rfl) rfl ?_
    refine T_nil ?_
    refine T_next ?_
    refine T_retc ?_
    refine T_rowH eW (dig 4294967296 ((x))) (i := 1) rfl (by decide) (fun _ => rfl) (fun hn22 hs23 => ?_)
    refine T_retL (rs := [.cell 2 32, .tmp 3]) Try.results75 (.cell rfl (i := 3) rfl rfl agg32 (.tmp rfl (.nil))) (Ln := [.r (A14) (k5) (k5) 105 1 ((dig 4294967296 ((x))).flatMap eW)]) (⟨.r (A14) (k5) (k5) 105 1 ((dig 4294967296 ((x))).flatMap eW), ⟨_, _, _, by simp only [resVal], hs23⟩, rfl⟩) (loCons rfl (loNil)) (.drop (.keep (.drop (.drop (.drop (.refl))))))
  · refine P_x rfl (Wx_alloc zer32 rfl (fun g24 => ?_)) ?_
    rotate_left; exact P_stop
    refine P_x rfl (Wx_make1 (z := .int .u32 (0)) rfl rfl (m := k5) rfl rfl Try.underlying30 (show Try.prog.info? 105 = some Try.t105 from by kernel_rfl) (by kernel_rfl) rfl (by kernel_rfl) (by show 4 * _ ≤ _; omega) (by omega) rfl (fun A25 => ?_)) ?_
    rotate_left; exact P_stop
    refine T_ent .here (e' := .r (A25) (k5) (k5) 105 1 ((List.replicate (k5) (0 : Nat)).flatMap eW)) (by simp [eW, List.flatMap_replicate]) ?_
    refine P_p rfl rfl (Ev_build rfl (bld32_0b1s _ _ _ _)) rfl ?_
    refine P_h rfl rfl (Wh_store rfl rfl rfl (.there (.here)) (.put (.put (.put (.done)))) rfl (List.cons_ne_nil _ _) agg32.2 ?_) ?_
    rotate_left; exact P_stop
    refine P_done ?_
    refine T_next ?_
    refine T_seq ?_
    refine T_reg ?_
    refine T_val (Ev_field rfl fld32_1 rfl) rfl ?_
    refine T_val (Ev_load1 rfl (i := 1) rfl rfl one30) rfl ?_
    refine T_val (Ev_field rfl fld116_1 rfl) rfl ?_
    refine T_val (Ev_load1 rfl (i := 4) rfl rfl one114) rfl ?_
    refine T_h (Wh_copy rfl rfl hs10 (SubE.cons2 (i := 2) rfl (SubE.cons2 (i := 5) rfl (SubE.nil))) (by first | rfl | omega) (.here) Try.underlying30 (by kernel_rfl) (fun _ => rfl) rfl ?_)
    refine T_nil ?_
    refine T_next ?_
    refine T_seq ?_
    refine T_seq ?_
    refine T_reg ?_
    refine T_val (Ev_field rfl fld116_2 rfl) rfl ?_
    refine T_val (Ev_load1 rfl (i := 4) rfl rfl one114) rfl ?_
    refine T_val (Ev_len rfl 105 Try.underlying114) rfl ?_
    refine T_val (Ev_gtr rfl rfl) rfl ?_
    refine T_val (Ev_move rfl) rfl ?_
    have hx26 : decide ((1) < (((m8 : Nat) : Int))) = false := by first | (exact decide_eq_false (by omega))
    refine T_slot (s := 34) (v' := .bool false) rfl (by rw [hx26]) ?_
    refine T_valG rfl rfl rfl (Ev_field rfl fld116_2 rfl) rfl ?_
    refine T_valG rfl rfl rfl (Ev_load1 rfl (i := 4) rfl rfl one114) rfl ?_
    obtain ⟨b27, o28, hA29, hp30⟩ := Has.elem ht11 (i := 0) (by simp)
    refine T_valG rfl rfl rfl (Ev_index rfl rfl hA29 (j := 0) (by omega) (by omega) slc114) rfl ?_
    refine T_valG rfl rfl rfl (Ev_loadP0 rfl hp30 (SubE.cons2 (i := 2) rfl (SubE.cons2 (i := 5) rfl (SubE.nil))) rfl one105) rfl ?_
    refine T_valG rfl rfl rfl (Ev_neq rfl rfl) rfl ?_
    refine T_val (Ev_pickF rfl rfl) rfl ?_
    refine T_nil ?_
    refine T_next ?_
    have hx31 : decide ((((([1])[0] : Nat) : Int)) = (1)) = true := by first | (exact decide_eq_true (by rfl))
    refine T_slot (s := 40) (v' := .bool false) rfl (by rw [hx31]; rfl) ?_
    refine T_condF rfl ?_
    refine T_skip ?_
    refine T_next ?_
    refine T_seq ?_
    refine T_reg ?_
    refine T_val (Ev_loadK rfl (i := 1) rfl rfl agg32) rfl ?_
    refine T_h (Wh_store rfl rfl rfl (.there (.there (.there (.here)))) (.put (.put (.put (.done)))) rfl (List.cons_ne_nil _ _) agg32.2 ?_)
    refine T_val (Ev_assign rfl) rfl ?_
    refine T_nil ?_
    refine T_next ?_
    refine T_retc ?_
    refine T_rowH eW (dig 4294967296 ((x))) (i := 0) rfl (by decide) (fun _ => rfl) (fun hn32 hs33 => ?_)
    refine T_retL (rs := [.cell 2 32, .tmp 3]) Try.results75 (.cell rfl (i := 3) rfl rfl agg32 (.tmp rfl (.nil))) (Ln := [.r (A25) (k5) (k5) 105 1 ((dig 4294967296 ((x))).flatMap eW)]) (⟨.r (A25) (k5) (k5) 105 1 ((dig 4294967296 ((x))).flatMap eW), ⟨_, _, _, by simp only [resVal], hs33⟩, rfl⟩) (loCons rfl (loNil)) (.keep (.drop (.drop (.drop (.drop (.refl))))))
set_option maxRecDepth 100000 in
theorem int_ok (z : Int) (hz1 : -9223372036854775808 ≤ z) (hz2 : z ≤ 9223372036854775807) (w : World) : Ct2 Try.prog 133 [.int .i64 z] w fun v e e' => ∃ A' k c' B' m' d', v = .agg #[.bool (decide (z < 0)), .slice A' k c', .slice B' m' d'] ∧ Has [e, e'] A' k c' 1 eW (dig 4294967296 (z.natAbs)) ∧ Has [e, e'] B' m' d' 1 eW [1] := by
  refine CtL.mk 18 Try.func133 rfl Try.ntmps133 (by kernel_rfl) rfl ?_
  show T 18 _ [(0, .int .i64 (z))] _
  refine T_seq ?_
  refine T_reg ?_
  refine T_x (Wx_alloc zer116 rfl (fun g1 => ?_))
  refine T_nil ?_
  refine T_next ?_
  refine T_seq ?_
  refine T_seq ?_
  refine T_reg ?_
  refine T_val (Ev_move rfl) rfl ?_
  refine T_val (Ev_lss rfl rfl) rfl ?_
  refine T_nil ?_
  refine T_next ?_
  refine T_caseP (s := 4) rfl (fun h2 => ?_) (fun h2 => ?_)
  · refine T_condT rfl ?_
    refine T_seq ?_
    refine T_reg ?_
    refine T_val (Ev_move rfl) rfl ?_
    refine T_val (Ev_add rfl rfl (by omega) (by omega)) rfl ?_
    refine T_val (Ev_neg ((z) + (1)) rfl (by omega) (by omega)) rfl ?_
    refine T_val (Ev_conv64 (-((z) + (1))) rfl (by kernel_rfl) Try.underlying169) rfl ?_
    refine T_val (Ev_addN (((-((z) + (1))) % 18446744073709551616).toNat) (1) rfl rfl (by simp only [top]; omega)) rfl ?_
    refine T_x (Wx_call1 rfl (fun w _ => natOf_ok ((((-((z) + (1))) % 18446744073709551616).toNat) + 1) (by omega) w) rfl ?_)
    rintro _ e3 lo_e3 ⟨A4, k5, c6, rfl, hs7⟩
    refine T_x (Wx_buildSlice rfl (bls114_1_0u32 _) rfl (fun g8 => ?_))
    refine T_val (Ev_build rfl (bld116_0b1s2s _ _ _ _ _ _ _)) rfl ?_
    refine T_h (Wh_store rfl rfl rfl (.there (.there (.here))) (.put (.put (.put (.done)))) rfl (List.cons_ne_nil _ _) agg116.2 ?_)
    refine T_nil ?_
    refine T_next ?_
    refine T_retc ?_
    refine T_outR ?_
    have hs9 : Has [.m g8 105 [.int .u32 (1)]] (some ⟨g8, 0, none⟩) 1 1 1 eW [1] := Has.ofM (by simp [eW]) rfl (by decide) rfl
    refine T_retL (rs := [.cell 2 116]) Try.results133 (.cell rfl (i := 2) rfl rfl agg116 (.nil)) (Ln := [.m g8 105 [.int .u32 (1)], e3]) (⟨.m g8 105 [.int .u32 (1)], e3, ⟨_, _, _, _, _, _, by simp only [resVal]; rw [decide_eq_true (show z < 0 by omega)], by rw [show z.natAbs = ((((-((z) + (1))) % 18446744073709551616).toNat) + 1) by omega]; exact hs7.up (SubE.cons2 (i := 1) rfl SubE.nil), hs9.up (SubE.cons2 (i := 0) rfl SubE.nil)⟩, rfl⟩) (loCons rfl (loCons lo_e3 (loNil))) (.keep (.keep (.drop (.refl))))
  · refine T_condF rfl ?_
    refine T_skip ?_
    refine T_next ?_
    refine T_seq ?_
    refine T_reg ?_
    refine T_val (Ev_move rfl) rfl ?_
    refine T_val (Ev_conv64 (z) rfl (by kernel_rfl) Try.underlying169) rfl ?_
    refine T_x (Wx_call1 rfl (fun w _ => natOf_ok (((z) % 18446744073709551616).toNat) (by omega) w) rfl ?_)
    rintro _ e10 lo_e10 ⟨A11, k12, c13, rfl, hs14⟩
    refine T_x (Wx_buildSlice rfl (bls114_1_0u32 _) rfl (fun g15 => ?_))
    refine T_val (Ev_build rfl (bld116_0b1s2s _ _ _ _ _ _ _)) rfl ?_
    refine T_h (Wh_store rfl rfl rfl (.there (.there (.here))) (.put (.put (.put (.done)))) rfl (List.cons_ne_nil _ _) agg116.2 ?_)
    refine T_nil ?_
    refine T_next ?_
    refine T_retc ?_
    have hs16 : Has [.m g15 105 [.int .u32 (1)]] (some ⟨g15, 0, none⟩) 1 1 1 eW [1] := Has.ofM (by simp [eW]) rfl (by decide) rfl
    refine T_retL (rs := [.cell 2 116]) Try.results133 (.cell rfl (i := 2) rfl rfl agg116 (.nil)) (Ln := [.m g15 105 [.int .u32 (1)], e10]) (⟨.m g15 105 [.int .u32 (1)], e10, ⟨_, _, _, _, _, _, by simp only [resVal]; rw [decide_eq_false (show ¬ z < 0 by omega)], by rw [show z.natAbs = (((z) % 18446744073709551616).toNat) by omega]; exact hs14.up (SubE.cons2 (i := 1) rfl SubE.nil), hs16.up (SubE.cons2 (i := 0) rfl SubE.nil)⟩, rfl⟩) (loCons rfl (loCons lo_e10 (loNil))) (.keep (.keep (.drop (.refl))))
set_option maxRecDepth 100000 in
theorem fromInt_ok (z : Int) (hz1 : -9223372036854775808 ≤ z) (hz2 : z ≤ 9223372036854775807) (w : World) : Ct1 Try.prog 101 [.int .i64 z] w fun v e => ∃ A' k c', v = .agg #[.bool (decide (z < 0)), .slice A' k c', .slice none 0 0] ∧ Has [e] A' k c' 1 eW (dig 4294967296 (z.natAbs)) := by
  refine CtL.mk 12 Try.func101 rfl Try.ntmps101 (by kernel_rfl) rfl ?_
  show T 12 _ [(0, .int .i64 (z))] _
  refine T_seq ?_
  refine T_reg ?_
  refine T_x (Wx_alloc zer32 rfl (fun g1 => ?_))
  refine T_nil ?_
  refine T_next ?_
  refine T_seq ?_
  refine T_reg ?_
  refine T_val (Ev_move rfl) rfl ?_
  refine T_x (Wx_call2 rfl (fun w _ => int_ok (z) (by omega) (by omega) w) rfl ?_)
  rintro _ e2 e3 lo_e2 lo_e3 ⟨A4, k5, c6, B7, m8, d9, rfl, hs10, ht11⟩
  have hq := hs10.len
  have hq2 := dig_len (b := 4294967296) (by omega) 2 z.natAbs (by omega)
  refine T_x (Wx_call1 rfl (fun w1 hw1 => done_ok  hs10 ht11 (by omega) w1 (okAll (K := [e2, e3]) (by exact (SubE.cons2 (i := 0) rfl (SubE.cons2 (i := 1) rfl (SubE.nil)))) hw1)) rfl ?_)
  rintro _ e12 lo_e12 ⟨A13, k14, c15, rfl, hs16⟩
  refine T_val (Ev_move rfl) rfl ?_
  refine T_val (Ev_extract rfl rfl) rfl ?_
  refine T_val (Ev_extract rfl rfl) rfl ?_
  refine T_x (Wx_alloc zer32 rfl (fun g17 => ?_))
  refine T_h (Wh_store rfl rfl rfl (.here) (.put (.put (.put (.done)))) rfl (List.cons_ne_nil _ _) agg32.2 ?_)
  refine T_val (Ev_assign rfl) rfl ?_
  refine T_nil ?_
  refine T_next ?_
  refine T_seq ?_
  refine T_reg ?_
  refine T_val (Ev_loadK rfl (i := 0) rfl rfl agg32) rfl ?_
  refine T_h (Wh_store rfl rfl rfl (.there (.there (.there (.there (.here))))) (.put (.put (.put (.done)))) rfl (List.cons_ne_nil _ _) agg32.2 ?_)
  refine T_nil ?_
  refine T_next ?_
  refine T_retc ?_
  refine T_retL (rs := [.cell 2 32]) Try.results101 (.cell rfl (i := 4) rfl rfl agg32 (.nil)) (Ln := [e12]) (⟨e12, ⟨_, _, _, by simp only [resVal]; congr 3; first | rfl | (rcases Int.lt_or_le z 0 with hz | hz <;> simp [hz] <;> omega), hs16⟩, rfl⟩) (loCons lo_e12 (loNil)) (.drop (.keep (.drop (.drop (.drop (.refl))))))
structure RatV where
  s : Bool
  A : Option Addr
  n : Nat
  c : Nat
  B : Option Addr
  m : Nat
  d : Nat
  x : Nat
def eRat (r : RatV) : List Value := [.bool r.s, .slice r.A r.n r.c, .slice r.B r.m r.d]
def RatV.good (K : List Ent) (r : RatV) : Prop := Has K r.A r.n r.c 1 eW (dig 4294967296 r.x) ∧ Has K r.B r.m r.d 1 eW [] ∧ r.n ≤ 256
set_option maxRecDepth 100000 in
theorem large_ok {s : Bool} {A n c B m d} {x : Nat} {K : List Ent} (ha : Has K A n c 1 eW (dig 4294967296 x)) (hb : Has K B m d 1 eW []) (h9 : n ≤ 256) (w : World) (hK : ∀ e ∈ K, Ent.ok w e) : Ct Try.prog 104 [.agg #[.bool s, .slice A n c, .slice B m d]] w fun v => v = .bool false := by
  obtain rfl : m = 0 := hb.len.symm
  have hs := (ha.sl hK).has
  have ht := (hb.sl hK).has
  have hn := ha.len
  have hm := hb.len
  have hsm := ha.small
  have hsm2 := hb.small
  refine CtL.mk 15 Try.func104 rfl Try.ntmps104 (by kernel_rfl) rfl ?_
  show T 15 _ [(0, .agg #[.bool (s), .slice (A) (n) (c), .slice (B) (0) (d)])] _
  refine T_seq ?_
  refine T_reg ?_
  refine T_x (Wx_box rfl rfl rfl (fun g1 => ?_))
  refine T_val (Ev_assign rfl) rfl ?_
  refine T_nil ?_
  refine T_next ?_
  refine T_seq ?_
  refine T_reg ?_
  refine T_val (Ev_field rfl fld32_1 rfl) rfl ?_
  refine T_val (Ev_load1 rfl (i := 0) rfl rfl one30) rfl ?_
  refine T_x (Wx_call rfl (fun w1 hw1 => norm_ok hs w1 (okAll (by exact (SubE.cons2 (i := 1) rfl (SubE.nil))) hw1)) rfl ?_)
  rintro _ rfl
  refine T_slot (s := 5) (v' := .slice (A) (n) (c)) rfl (by rw [nrm_dig (by omega), hs.len]) ?_
  refine T_val (Ev_len rfl 105 Try.underlying114) rfl ?_
  refine T_val (Ev_gtr rfl rfl) rfl ?_
  refine T_val (Ev_move rfl) rfl ?_
  have hx3 : decide ((256) < (((n : Nat) : Int))) = false := by first | (exact decide_eq_false (by omega))
  refine T_slot (s := 8) (v' := .bool false) rfl (by rw [hx3]) ?_
  refine T_valG rfl rfl rfl (Ev_field rfl fld32_2 rfl) rfl ?_
  refine T_valG rfl rfl rfl (Ev_load1 rfl (i := 0) rfl rfl one30) rfl ?_
  refine T_xG rfl rfl rfl (Wx_call rfl (fun w1 hw1 => norm_ok ht w1 (okAll (by exact (SubE.cons2 (i := 1) rfl (SubE.nil))) hw1)) rfl ?_)
  rintro _ rfl
  refine T_slot (s := 11) (v' := .slice (B) 0 (d)) rfl rfl ?_
  refine T_valG rfl rfl rfl (Ev_len rfl 105 Try.underlying114) rfl ?_
  refine T_valG rfl rfl rfl (Ev_gtr rfl rfl) rfl ?_
  refine T_val (Ev_pickF rfl rfl) rfl ?_
  refine T_val (Ev_assign rfl) rfl ?_
  refine T_nil ?_
  refine T_next ?_
  refine T_retc ?_
  refine T_retL (rs := [.tmp 2]) Try.results104 (.tmp rfl (.nil)) (Ln := []) (⟨by first | rfl | simp [resVal], rfl⟩) (loNil) (.drop (.refl))
set_option maxRecDepth 100000 in
theorem anyLarge_ok {A n c} {l : List RatV} {K : List Ent} (ha : Has K A n c 3 eRat l) (hgood : ∀ r ∈ l, r.good K) (w : World) (hK : ∀ e ∈ K, Ent.ok w e) : Ct Try.prog 72 [.slice A n c] w fun v => v = .bool false := by
  have hs := (ha.sl hK).has
  have hn := ha.len
  have hsm := ha.small
  refine CtL.mk 14 Try.func72 rfl Try.ntmps72 (by kernel_rfl) rfl ?_
  show T 14 _ [(0, .slice (A) (n) (c))] _
  refine T_seq ?_
  refine T_reg ?_
  refine T_val (Ev_assign rfl) rfl ?_
  refine T_nil ?_
  refine T_next ?_
  refine T_seq ?_
  refine T_seq ?_
  refine T_reg ?_
  refine T_val (Ev_move rfl) rfl ?_
  refine T_val (Ev_len rfl 32 Try.underlying147) rfl ?_
  refine T_val (Ev_move rfl) rfl ?_
  refine T_nil ?_
  refine T_next ?_
  refine T_block ?_
  refine T_loop (σ := Nat) (fun k => [(0, .slice (A) (n) (c)), (5, .slice (A) (n) (c)), (6, .int .i64 (((n : Nat) : Int))), (7, .int .i64 (((k : Nat) : Int)))]) (fun k => [] ++ [.old w]) (fun k => k ≤ n) (fun k => n - k) (0) ?_ ?_ ?_ ?_
  · exact Nat.zero_le _
  · exact .cons rfl (.cons rfl (.cons rfl (.cons rfl (.nil))))
  · exact .refl
  intro k hC
  refine T_seq ?_
  refine T_reg ?_
  refine T_val (Ev_lss rfl rfl) rfl ?_
  refine T_nil ?_
  refine T_next ?_
  refine T_seq ?_
  refine T_caseP (s := 8) rfl (fun h1 => ?_) (fun h1 => ?_)
  · refine T_condT rfl ?_
    refine T_skip ?_
    refine T_next ?_
    refine T_seq ?_
    refine T_block ?_
    refine T_seq ?_
    refine T_reg ?_
    obtain ⟨b2, o3, hA4, hp5⟩ := Has.elem hs (i := k) (by omega)
    refine T_val (Ev_index rfl rfl hA4 (j := k) (by omega) (by omega) slc147) rfl ?_
    refine T_val (Ev_loadPK0 rfl hp5 (SubE.cons2 (i := 0) rfl (SubE.nil)) rfl agg32) rfl ?_
    refine T_x (Wx_alloc zer32 rfl (fun g6 => ?_))
    refine T_h (Wh_store rfl rfl rfl (.here) (.put (.put (.put (.done)))) rfl (List.cons_ne_nil _ _) agg32.2 ?_)
    refine T_nil ?_
    refine T_next ?_
    refine T_seq ?_
    refine T_reg ?_
    refine T_val (Ev_loadK rfl (i := 0) rfl rfl agg32) rfl ?_
    have hg := hgood (l[k]'(by omega)) (List.getElem_mem _)
    have hg1 := (hg.1.sl hK).has
    have hg2 := (hg.2.1.sl hK).has
    refine T_x (Wx_call rfl (fun w1 hw1 => large_ok  hg1 hg2 (by exact hg.2.2) w1 (okAll (K := [.old w]) (by exact (SubE.cons2 (i := 1) rfl (SubE.nil))) hw1)) rfl ?_)
    rintro _ rfl
    refine T_nil ?_
    refine T_next ?_
    refine T_condF rfl ?_
    refine T_skip ?_
    refine T_inN ?_
    refine T_next ?_
    refine T_reg ?_
    refine T_val (Ev_addN (k) (1) rfl rfl (by simp only [top]; omega)) rfl ?_
    refine T_val (Ev_move rfl) rfl ?_
    refine T_nil ?_
    refine T_round (σ := Nat) (I := fun k => [(0, .slice (A) (n) (c)), (5, .slice (A) (n) (c)), (6, .int .i64 (((n : Nat) : Int))), (7, .int .i64 (((k : Nat) : Int)))]) (H := fun k => [] ++ [.old w]) (C := fun k => k ≤ n) (μ := fun k => n - k) (s := k) (k + 1) ?_ ?_ ?_ ?_
    · exact (by omega)
    · exact (show n - (k + 1) < n - k by omega)
    · exact .cons rfl (.cons rfl (.cons rfl (.cons rfl (.nil))))
    · exact .drop (.refl)
  · refine T_condF rfl ?_
    refine T_exit ?_
    refine T_outX ?_
    refine T_outX ?_
    refine T_here ?_
    refine T_next ?_
    refine T_seq ?_
    refine T_reg ?_
    refine T_val (Ev_assign rfl) rfl ?_
    refine T_nil ?_
    refine T_next ?_
    refine T_retc ?_
    refine T_retL (rs := [.tmp 2]) Try.results72 (.tmp rfl (.nil)) (Ln := []) (⟨by first | rfl | simp [resVal], rfl⟩) (loNil) (.refl)
theorem mul_sign {s t : Bool} {x y : Nat} : (!((s && !decide (x = 0)) == (t && !decide (y = 0))) && !decide (x * y = 0)) = (!(s == t) && !decide (x * y = 0)) := by
  by_cases hx : x = 0
  · subst hx; simp
  · by_cases hy : y = 0
    · subst hy; simp
    · simp [hx, hy]
set_option maxRecDepth 100000 in
theorem emul_ok {s s2 : Bool} {A n c A2 n2 c2} {x y : Nat} {K : List Ent} (ha : Has K A n c 1 eW (dig 4294967296 x)) (ha2 : Has K A2 n2 c2 1 eW (dig 4294967296 y)) (h9 : n ≤ 256) (h92 : n2 ≤ 256) (h93 : (dig 4294967296 (x * y)).length ≤ 256) (w : World) (hK : ∀ e ∈ K, Ent.ok w e) : Ct1 Try.prog 100 [.agg #[.bool s, .slice A n c, .slice none 0 0], .agg #[.bool s2, .slice A2 n2 c2, .slice none 0 0]] w fun v e => ∃ A' k c', v = .tuple #[.agg #[.bool (!(s == s2) && !decide (x * y = 0)), .slice A' k c', .slice none 0 0], .int .i64 0] ∧ Has [e] A' k c' 1 eW (dig 4294967296 (x * y)) := by
  have hs := (ha.sl hK).has
  have hs2 := (ha2.sl hK).has
  have hn := ha.len
  have hn2 := ha2.len
  have hsm := ha.small
  have hsm2 := ha2.small
  refine CtL.mk 19 Try.func100 rfl Try.ntmps100 (by kernel_rfl) rfl ?_
  show T 19 _ [(0, .agg #[.bool (s), .slice (A) (n) (c), .slice (none) (0) (0)]), (1, .agg #[.bool (s2), .slice (A2) (n2) (c2), .slice (none) (0) (0)])] _
  refine T_seq ?_
  refine T_reg ?_
  refine T_x (Wx_box rfl rfl rfl (fun g1 => ?_))
  refine T_x (Wx_box rfl rfl rfl (fun g2 => ?_))
  refine T_x (Wx_alloc zer32 rfl (fun g3 => ?_))
  refine T_val (Ev_assign rfl) rfl ?_
  refine T_nil ?_
  refine T_next ?_
  refine T_seq ?_
  refine T_seq ?_
  refine T_reg ?_
  refine T_val (Ev_loadK rfl (i := 2) rfl rfl agg32) rfl ?_
  refine T_val (Ev_loadK rfl (i := 1) rfl rfl agg32) rfl ?_
  refine T_x (Wx_buildSlice rfl (bls147_2_0abss1abss _ _ _ _ _ _ _ _ _ _ _ _ _ _) rfl (fun g4 => ?_))
  have hs5 : Has [.m g4 32 [.bool (s), .slice (A) (n) (c), .slice (none) (0) (0), .bool (s2), .slice (A2) (n2) (c2), .slice (none) (0) (0)]] (some ⟨g4, 0, none⟩) 2 2 3 eRat [⟨s, A, n, c, none, 0, 0, (x)⟩, ⟨s2, A2, n2, c2, none, 0, 0, (y)⟩] := Has.ofM (by simp [eRat]) rfl (by decide) rfl
  refine T_x (Wx_call rfl (fun w1 hw1 => anyLarge_ok (hs5.up (K := [.m g4 32 [.bool (s), .slice (A) (n) (c), .slice (none) (0) (0), .bool (s2), .slice (A2) (n2) (c2), .slice (none) (0) (0)]]) (L := [.m g4 32 [.bool (s), .slice (A) (n) (c), .slice (none) (0) (0), .bool (s2), .slice (A2) (n2) (c2), .slice (none) (0) (0)], .old w]) (SubE.cons2 (i := 0) rfl (SubE.nil))) (by intro r hr; simp only [List.mem_cons, List.not_mem_nil, or_false] at hr; rcases hr with rfl | rfl <;> first | exact ⟨hs.up (K := [.old w]) (L := [.m g4 32 [.bool (s), .slice (A) (n) (c), .slice (none) (0) (0), .bool (s2), .slice (A2) (n2) (c2), .slice (none) (0) (0)], .old w]) (SubE.cons2 (i := 1) rfl (SubE.nil)), Has.nil, by omega⟩ | exact ⟨hs2.up (K := [.old w]) (L := [.m g4 32 [.bool (s), .slice (A) (n) (c), .slice (none) (0) (0), .bool (s2), .slice (A2) (n2) (c2), .slice (none) (0) (0)], .old w]) (SubE.cons2 (i := 1) rfl (SubE.nil)), Has.nil, by omega⟩) w1 (okAll (K := [.m g4 32 [.bool (s), .slice (A) (n) (c), .slice (none) (0) (0), .bool (s2), .slice (A2) (n2) (c2), .slice (none) (0) (0)], .old w]) (by exact (SubE.cons2 (i := 0) rfl (SubE.cons2 (i := 4) rfl (SubE.nil)))) hw1)) rfl ?_)
  rintro _ rfl
  refine T_nil ?_
  refine T_next ?_
  refine T_condF rfl ?_
  refine T_skip ?_
  refine T_next ?_
  refine T_seq ?_
  refine T_draw [1, 2, 1, 2, 2, 2, 0, 0, 3, 2] [[], [0], [], [0, 1, 2], [0, 1, 2, 3], [0, 1, 2, 3, 4], [0, 1, 2, 3, 4, 5], [0, 1, 2, 3, 4, 5], [0, 1, 2, 3, 4, 5, 6, 7], [0, 1, 2, 3, 4, 5, 6, 7, 8]] (.q 0 (.q 2 (.e 1 (.e 3 (.e 4 (.e 5 (.q 6 (.q 7 (.e 8 (.e 9 (.done) (.stop)) (.stop)))) (.stop)) (.stop)) (.stop)) (.stop)))) mixed (by kernel_rfl) (by kernel_rfl) ?_
  refine P_q rfl rfl (Ev_loadK rfl (i := 3) rfl rfl agg32) rfl ?_
  refine P_q rfl rfl (Ev_loadK rfl (i := 2) rfl rfl agg32) rfl ?_
  refine P_x rfl (Wx_call2 rfl (fun w1 hw1 => of_ok  hs ((Has.nil (enc := eW) (sz := 1)).up (K := []) (L := [.old w]) (SubE.nil)) (by omega) w1 (okAll (K := [.old w]) (by exact (SubE.cons2 (i := 4) rfl (SubE.nil))) hw1)) rfl ?_) ?_
  rotate_left; exact P_stop
  rintro _ e6 e7 lo_e6 lo_e7 ⟨A8, k9, c10, B11, m12, d13, rfl, hs14, ht15⟩
  refine P_x rfl (Wx_call2 rfl (fun w1 hw1 => of_ok  hs2 ((Has.nil (enc := eW) (sz := 1)).up (K := []) (L := [.old w]) (SubE.nil)) (by omega) w1 (okAll (K := [.old w]) (by exact (SubE.cons2 (i := 6) rfl (SubE.nil))) hw1)) rfl ?_) ?_
  rotate_left; exact P_stop
  rintro _ e16 e17 lo_e16 lo_e17 ⟨A18, k19, c20, B21, m22, d23, rfl, hs24, ht25⟩
  have hq1 := hs14.len
  have hq2 := hs24.len
  refine P_x rfl (Wx_call2 rfl (fun w1 hw1 => nmul_ok  (hs14.up (K := [e6, e7, .old w]) (L := [e6, e7, .old w, e16, e17]) (SubE.cons2 (i := 0) rfl (SubE.cons2 (i := 1) rfl (SubE.cons2 (i := 2) rfl (SubE.nil))))) (ht15.up (K := [e6, e7, .old w]) (L := [e6, e7, .old w, e16, e17]) (SubE.cons2 (i := 0) rfl (SubE.cons2 (i := 1) rfl (SubE.cons2 (i := 2) rfl (SubE.nil))))) (hs24.up (K := [e16, e17, .old w]) (L := [e6, e7, .old w, e16, e17]) (SubE.cons2 (i := 3) rfl (SubE.cons2 (i := 4) rfl (SubE.cons2 (i := 2) rfl (SubE.nil))))) (ht25.up (K := [e16, e17, .old w]) (L := [e6, e7, .old w, e16, e17]) (SubE.cons2 (i := 3) rfl (SubE.cons2 (i := 4) rfl (SubE.cons2 (i := 2) rfl (SubE.nil))))) (by omega) (by omega) w1 (okAll (K := [e6, e7, .old w, e16, e17]) (by exact (SubE.cons2 (i := 2) rfl (SubE.cons2 (i := 3) rfl (SubE.cons2 (i := 8) rfl (SubE.cons2 (i := 0) rfl (SubE.cons2 (i := 1) rfl (SubE.nil))))))) hw1)) rfl ?_) ?_
  rotate_left; exact P_stop
  rintro _ e26 e27 lo_e26 lo_e27 ⟨A28, k29, c30, B31, m32, d33, rfl, hs34, ht35⟩
  have hq3 := hs34.len
  refine P_x rfl (Wx_call1 rfl (fun w1 hw1 => done_ok  hs34 ht35 (by omega) w1 (okAll (K := [e26, e27]) (by exact (SubE.cons2 (i := 0) rfl (SubE.cons2 (i := 1) rfl (SubE.nil)))) hw1)) rfl ?_) ?_
  rotate_left; exact P_stop
  rintro _ e36 lo_e36 ⟨A37, k38, c39, rfl, hs40⟩
  refine P_p rfl rfl (Ev_extract rfl rfl) rfl ?_
  refine P_p rfl rfl (Ev_extract rfl rfl) rfl ?_
  refine P_h rfl rfl (Wh_store rfl rfl rfl (.there (.there (.there (.there (.there (.there (.there (.there (.here))))))))) (.put (.put (.put (.done)))) rfl (List.cons_ne_nil _ _) agg32.2 ?_) ?_
  rotate_left; exact P_stop
  refine P_x rfl (Wx_val (Ev_assign rfl) rfl ?_) ?_
  rotate_left; exact P_stop
  refine P_done ?_
  refine T_next ?_
  refine T_retc ?_
  refine T_retL (rs := [.cell 4 32, .tmp 5]) Try.results100 (.cell rfl (i := 8) rfl rfl agg32 (.tmp rfl (.nil))) (Ln := [e36]) (⟨e36, ⟨_, _, _, by simp only [resVal]; congr 3; rw [mul_sign], hs40⟩, rfl⟩) (loCons lo_e36 (loNil)) (.keep (.drop (.drop (.drop (.drop (.drop (.drop (.drop (.drop (.drop (.drop (.refl))))))))))))
theorem natAbs_digits {z : Int} (h1 : -9223372036854775808 ≤ z) (h2 : z ≤ 9223372036854775807) : (dig 4294967296 z.natAbs).length ≤ 2 := dig_len (by omega) 2 _ (by omega)
theorem prod_digits {z y : Int} (h1 : -9223372036854775808 ≤ z) (h2 : z ≤ 9223372036854775807) (h3 : -9223372036854775808 ≤ y) (h4 : y ≤ 9223372036854775807) : (dig 4294967296 (z.natAbs * y.natAbs)).length ≤ 4 := by
  refine dig_len (by omega) 4 _ ?_
  have := Nat.mul_le_mul (show z.natAbs ≤ 9223372036854775808 by omega) (show y.natAbs ≤ 9223372036854775808 by omega)
  omega
theorem sign_mul {z y : Int} : (!(decide (z < 0) == decide (y < 0)) && !decide (z.natAbs * y.natAbs = 0)) = decide (z * y < 0) := by
  by_cases hz0 : z = 0
  · subst hz0; simp
  by_cases hy0 : y = 0
  · subst hy0; simp
  have h1 : z.natAbs * y.natAbs ≠ 0 := Nat.mul_ne_zero (by omega) (by omega)
  rw [decide_eq_false h1]
  rcases Int.lt_or_le z 0 with hz | hz
  · rcases Int.lt_or_le y 0 with hy | hy
    · have := Int.mul_pos_of_neg_of_neg hz hy
      rw [decide_eq_true hz, decide_eq_true hy, decide_eq_false (show ¬ z * y < 0 by omega)]; rfl
    · have := Int.mul_neg_of_neg_of_pos hz (show 0 < y by omega)
      rw [decide_eq_true hz, decide_eq_false (show ¬ y < 0 by omega), decide_eq_true this]; rfl
  · rcases Int.lt_or_le y 0 with hy | hy
    · have := Int.mul_neg_of_pos_of_neg (show 0 < z by omega) hy
      rw [decide_eq_true hy, decide_eq_false (show ¬ z < 0 by omega), decide_eq_true this]; rfl
    · have := Int.mul_pos (show 0 < z by omega) (show 0 < y by omega)
      rw [decide_eq_false (show ¬ z < 0 by omega), decide_eq_false (show ¬ y < 0 by omega), decide_eq_false (show ¬ z * y < 0 by omega)]; rfl
set_option maxRecDepth 100000 in
theorem times_ok {x0 y0 st nx ny z : Int} (hst : 0 ≤ st * st ∧ st * st ≤ 1000000000000) (hz1 : -9223372036854775808 ≤ z) (hz2 : z ≤ 9223372036854775807) (w : World) : Ct1 Try.prog 67 [.agg #[.int .i64 x0, .int .i64 y0, .int .i64 st, .int .i64 nx, .int .i64 ny], .int .i64 z] w fun v e => ∃ A' k c', v = .agg #[.bool (decide (st * st * z < 0)), .slice A' k c', .slice none 0 0] ∧ Has [e] A' k c' 1 eW (dig 4294967296 ((st * st * z).natAbs)) := by
  refine CtL.mk 20 Try.func67 rfl Try.ntmps67 (by kernel_rfl) rfl ?_
  show T 20 _ [(0, .agg #[.int .i64 (x0), .int .i64 (y0), .int .i64 (st), .int .i64 (nx), .int .i64 (ny)]), (1, .int .i64 (z))] _
  refine T_seq ?_
  refine T_reg ?_
  refine T_x (Wx_box rfl rfl rfl (fun g1 => ?_))
  refine T_x (Wx_alloc zer32 rfl (fun g2 => ?_))
  refine T_nil ?_
  refine T_next ?_
  refine T_seq ?_
  refine T_reg ?_
  refine T_val (Ev_field rfl fld23_2 rfl) rfl ?_
  refine T_val (Ev_load1 rfl (i := 1) rfl rfl one3) rfl ?_
  refine T_val (Ev_field rfl fld23_2 rfl) rfl ?_
  refine T_val (Ev_load1 rfl (i := 1) rfl rfl one3) rfl ?_
  refine T_val (Ev_mul rfl rfl (by omega) (by omega)) rfl ?_
  refine T_x (Wx_call1 rfl (fun w _ => fromInt_ok ((st) * (st)) (by omega) (by omega) w) rfl ?_)
  rintro _ e3 lo_e3 ⟨A4, k5, c6, rfl, hs7⟩
  refine T_val (Ev_move rfl) rfl ?_
  refine T_x (Wx_call1 rfl (fun w _ => fromInt_ok (z) (by omega) (by omega) w) rfl ?_)
  rintro _ e8 lo_e8 ⟨A9, k10, c11, rfl, hs12⟩
  have hq1 := hs7.len
  have hq2 := hs12.len
  have hq3 := natAbs_digits (z := st * st) (by omega) (by omega)
  have hq4 := natAbs_digits (z := z) hz1 hz2
  have hq5 := prod_digits (z := st * st) (y := z) (by omega) (by omega) hz1 hz2
  refine T_x (Wx_call1 rfl (fun w1 hw1 => emul_ok  (hs7.up (K := [e3]) (L := [e3, e8]) (SubE.cons2 (i := 0) rfl (SubE.nil))) (hs12.up (K := [e8]) (L := [e3, e8]) (SubE.cons2 (i := 1) rfl (SubE.nil))) (by omega) (by omega) (by omega) w1 (okAll (K := [e3, e8]) (by exact (SubE.cons2 (i := 1) rfl (SubE.cons2 (i := 0) rfl (SubE.nil)))) hw1)) rfl ?_)
  rintro _ e13 lo_e13 ⟨A14, k15, c16, rfl, hs17⟩
  refine T_val (Ev_move rfl) rfl ?_
  refine T_val (Ev_extract rfl rfl) rfl ?_
  refine T_val (Ev_extract rfl rfl) rfl ?_
  refine T_x (Wx_alloc zer32 rfl (fun g18 => ?_))
  refine T_h (Wh_store rfl rfl rfl (.here) (.put (.put (.put (.done)))) rfl (List.cons_ne_nil _ _) agg32.2 ?_)
  refine T_val (Ev_assign rfl) rfl ?_
  refine T_nil ?_
  refine T_next ?_
  refine T_seq ?_
  refine T_reg ?_
  refine T_val (Ev_loadK rfl (i := 0) rfl rfl agg32) rfl ?_
  refine T_h (Wh_store rfl rfl rfl (.there (.there (.there (.there (.here))))) (.put (.put (.put (.done)))) rfl (List.cons_ne_nil _ _) agg32.2 ?_)
  refine T_nil ?_
  refine T_next ?_
  refine T_retc ?_
  refine T_retL (rs := [.cell 4 32]) Try.results67 (.cell rfl (i := 4) rfl rfl agg32 (.nil)) (Ln := [e13]) (⟨e13, ⟨_, _, _, by simp only [resVal]; rw [sign_mul], by rw [Int.natAbs_mul]; exact hs17⟩, rfl⟩) (loCons lo_e13 (loNil)) (.drop (.keep (.drop (.drop (.drop (.drop (.refl)))))))
end Go.Proofs.Ytjhknbpiaikblaa
