/- Walks of the program, with their plain functions: the laws' own check. -/
import Derived.Test.YtjhknbpiaikblaaN6
namespace Go.Proofs.Ytjhknbpiaikblaa
open Go Go.RowKit
theorem zer26 : ZeroOf Try.prog 26 [.int .i64 (0), .int .i64 (0), .int .i64 (0), .int .i64 (0), .int .i64 (0), .slice (none) (0) (0)] := ⟨_, Try.zeroValue26, rfl⟩
theorem bld23_2i643i644i64 (x0 : Int) (x1 : Int) (x2 : Int) : BuildOf Try.prog 23 [(2, .int .i64 x0), (3, .int .i64 x1), (4, .int .i64 x2)] [.int .i64 (0), .int .i64 (0), .int .i64 x0, .int .i64 x1, .int .i64 x2] := fun w => by kernel_rfl
theorem bld26_0ai64i64i64i64i641s (x0 : Int) (x1 : Int) (x2 : Int) (x3 : Int) (x4 : Int) (x5 : Option Addr) (x6 : Nat) (x7 : Nat) : BuildOf Try.prog 26 [(0, .agg #[.int .i64 x0, .int .i64 x1, .int .i64 x2, .int .i64 x3, .int .i64 x4]), (1, .slice x5 x6 x7)] [.int .i64 x0, .int .i64 x1, .int .i64 x2, .int .i64 x3, .int .i64 x4, .slice x5 x6 x7] := fun w => by kernel_rfl
theorem bld39_0i641i64 (x0 : Int) (x1 : Int) : BuildOf Try.prog 39 [(0, .int .i64 x0), (1, .int .i64 x1)] [.int .i64 x0, .int .i64 x1] := fun w => by kernel_rfl
theorem bld41_1ai64i64 (x0 : Int) (x1 : Int) : BuildOf Try.prog 41 [(1, .agg #[.int .i64 x0, .int .i64 x1])] [.bool (false), .int .i64 x0, .int .i64 x1] := fun w => by kernel_rfl
theorem bls24_2_0abi64i641abi64i64 (x0 : Bool) (x1 : Int) (x2 : Int) (x3 : Bool) (x4 : Int) (x5 : Int) : BuildSliceOf Try.prog 24 2 [(0, .agg #[.bool x0, .int .i64 x1, .int .i64 x2]), (1, .agg #[.bool x3, .int .i64 x4, .int .i64 x5])] 41 [.bool x0, .int .i64 x1, .int .i64 x2, .bool x3, .int .i64 x4, .int .i64 x5] := fun w => by kernel_rfl
noncomputable def lidarref01_words_l5 (p0 : List Int) : ((List Int) × Int) → Option (Sum ((List Int) × Int) (List Int)) := fun s41 =>
 if s41.2 < ((((p0).length : Nat) : Int)) then (bnd (idx p0 s41.2) fun x46 =>
 jn (fun (s18 : Int) =>
 gd (((s41.1).length + 1) * 4 ≤ 140737488355328) <|
 some (.inl (s41.1 ++ [s18], w64 (s41.2 + 2))))
 (fun j18 => if (w64 (s41.2 + 1)) < ((((p0).length : Nat) : Int)) then (bnd (idx p0 (w64 (s41.2 + 1))) fun x59 =>
 j18 (wu32 ((wu32 (x46)) + (wu32 ((wu32 (x59)) * 65536)))))
 else (j18 (wu32 (x46)))))
 else (some (.inr s41.1))
noncomputable def lidarref01_words (p0 : List Int) : Option ((List Int) × Bool) :=
 if 512 < ((((p0).length : Nat) : Int)) then (some (([] : List Int), false))
 else (jn (fun (s6 : List Int) =>
 some (s6, true))
 (fun j6 => bnd (lfix (lidarref01_words_l5 p0) (([] : List Int), 0)) fun t41 =>
 j6 t41))
noncomputable def lidarref01_Out (p0 : S_lidarref01_Q) : Option (S_api_Rat × Int) :=
 bnd (lidarref01_words p0.N.L) fun r3 =>
 bnd (lidarref01_words p0.D) fun r8 =>
 jn (fun (s5 : Bool) =>
 if s5 = true then (some ((⟨false, ([] : List Int), ([] : List Int)⟩ : S_api_Rat), 1))
 else (jn (fun (s7 : List Int) =>
 some ((⟨p0.N.Neg, r3.1, s7⟩ : S_api_Rat), 0))
 (fun j7 => jn (fun (s8 : Bool) =>
 if s8 = true then (j7 ([] : List Int))
 else (j7 r8.1))
 (fun j8 => if ((((p0.D).length : Nat) : Int)) = 1 then (bnd (idx p0.D 0) fun x23 =>
 j8 (decide (x23 = 1)))
 else (j8 false)))))
 (fun j5 => if r3.2 = true then (j5 (!(r8.2)))
 else (j5 true))
noncomputable def lidarref01_Same_l5 (p0 : S_api_Rat) (r3 : S_api_Rat × Int) : Int → Option (Sum Int (Sum Unit Bool)) := fun s54 =>
 if s54 < ((((p0.Num).length : Nat) : Int)) then (bnd (idx p0.Num s54) fun x58 =>
 bnd (idx r3.1.Num s54) fun x69 =>
 if x58 = x69 then (some (.inl (w64 (s54 + 1))))
 else (some (.inr (.inr (false)))))
 else (some (.inr (.inl ())))
noncomputable def lidarref01_Same_l10 (p0 : S_api_Rat) (r3 : S_api_Rat × Int) : Int → Option (Sum Int (Sum Unit Bool)) := fun s114 =>
 if s114 < ((((p0.Den).length : Nat) : Int)) then (bnd (idx p0.Den s114) fun x118 =>
 bnd (idx r3.1.Den s114) fun x129 =>
 if x118 = x129 then (some (.inl (w64 (s114 + 1))))
 else (some (.inr (.inr (false)))))
 else (some (.inr (.inl ())))
noncomputable def lidarref01_Same (p0 : S_api_Rat) (p1 : S_lidarref01_Q) : Option Bool :=
 bnd (lidarref01_Out p1) fun r3 =>
 jn (fun (s4 : Bool) =>
 if s4 = true then (some false)
 else (jn (fun (s6 : Unit) =>
 jn (fun (s18 : Unit) =>
 some true)
 (fun j18 => bnd (lfix (lidarref01_Same_l10 p0 r3) 0) fun t114 =>
 (match t114 with
 | (.inl z114) => j18 z114
 | (.inr (z114)) => some z114
 )))
 (fun j6 => bnd (lfix (lidarref01_Same_l5 p0 r3) 0) fun t54 =>
 (match t54 with
 | (.inl z54) => j6 z54
 | (.inr (z54)) => some z54
 ))))
 (fun j4 => if r3.2 = 0 then (if ((p0.Neg) == (r3.1.Neg)) = true then (if ((((p0.Num).length : Nat) : Int)) = ((((r3.1.Num).length : Nat) : Int)) then (j4 (!(decide (((((p0.Den).length : Nat) : Int)) = ((((r3.1.Den).length : Nat) : Int))))))
 else (j4 true))
 else (j4 true))
 else (j4 true))
noncomputable def lidarlaw09_row (p0 : List S_api_Cell) : Option S_api_Grid :=
 some (⟨(⟨0, 0, 10, (((p0).length : Nat) : Int), 1⟩ : S_api_Raster), p0⟩ : S_api_Grid)
noncomputable def lidarlaw09_known (p0 : Int) (p1 : Int) : Option S_api_Cell :=
 some (⟨false, (⟨p0, p1⟩ : S_api_Span)⟩ : S_api_Cell)
noncomputable def lidarlaw09_first  : Option Bool :=
 bnd (lidarlaw09_known 1 3) fun r1 =>
 bnd (lidarlaw09_known 0 1) fun r4 =>
 bnd (lidarlaw09_row ([r1, r4])) fun r9 =>
 bnd (lidarlaw09_known 4 5) fun r13 =>
 bnd (lidarlaw09_known 5 7) fun r16 =>
 bnd (lidarlaw09_row ([r13, r16])) fun r21 =>
 bnd (model_Compare r9 r21) fun r27 =>
 bnd (model_Amount r9 r21 ([1])) fun r34 =>
 jn (fun (s5 : Bool) =>
 some s5)
 (fun j5 => if r27.2 = 0 then (if ((((r27.1).length : Nat) : Int)) = 2 then (bnd (idx r27.1 0) fun x63 =>
 if x63 = 1 then (bnd (idx r27.1 1) fun x76 =>
 if x76 = 1 then (if r34.2.2 = 0 then (bnd (lidarref01_Whole 400) fun r91 =>
 bnd (lidarref01_Same r34.1 r91) fun r103 =>
 if r103 = true then (bnd (lidarref01_Whole 700) fun r108 =>
 bnd (lidarref01_Same r34.2.1 r108) fun r120 =>
 j5 r120)
 else (j5 false))
 else (j5 false))
 else (j5 false))
 else (j5 false))
 else (j5 false))
 else (j5 false))
set_option maxRecDepth 100000 in
theorem lidarref01_words_ok (p0 : List Int) {K : List Ent} {A0_0 : Option Addr} {c0_0 : Nat} (ha0 : Has K A0_0 (p0).length c0_0 1 e_i64 (p0)) {r : (List Int) × Bool} (hx : lidarref01_words p0 = some r) (w : World) (hK : ∀ e ∈ K, Ent.ok w e) : CtL Try.prog 99 [.slice (A0_0) ((p0).length) (c0_0)] w fun v Ln => ∃ (A0 : Option Addr) (c0 : Nat), v = .tuple #[.slice (A0) ((r.1).length) (c0), .bool (r.2)] ∧ Ln = [.r A0 (r.1).length c0 105 1 ((r.1).flatMap e_u32)] ∧ True := by
  have ha0' := Has.up0 ha0
  refine CtL.mk 40 Try.func99 rfl Try.ntmps99 (by kernel_rfl) rfl ?_
  show T 40 _ [(0, .slice (A0_0) ((p0).length) (c0_0))] _
  unfold lidarref01_words at hx
  refine T_seq ?_
  refine T_reg ?_
  refine T_val (Ev_assign rfl) rfl ?_
  refine T_val (Ev_assign rfl) rfl ?_
  refine T_nil ?_
  refine T_next ?_
  refine T_seq ?_
  refine T_seq ?_
  refine T_reg ?_
  refine T_val (Ev_move rfl) rfl ?_
  refine T_val (Ev_len rfl 3 Try.underlying27) rfl ?_
  refine T_val (Ev_gtr rfl rfl) rfl ?_
  refine T_nil ?_
  refine T_next ?_
  refine T_caseP (s := 9) rfl (fun h1 => ?_) (fun h1 => ?_)
  · have hx2 := ite_t h1 hx
    refine T_condT rfl ?_
    refine T_seq ?_
    refine T_reg ?_
    refine T_val (Ev_assign rfl) rfl ?_
    refine T_val (Ev_assign rfl) rfl ?_
    refine T_nil ?_
    refine T_next ?_
    refine T_retc ?_
    refine T_outR ?_
    refine T_none 105 1 ?_
    obtain rfl := Option.some.inj hx2
    exact T_retP (rs := [.tmp 2, .tmp 3]) Try.results99 (.tmp rfl (.tmp rfl (.nil))) (Ln := [.r (none) (0) (0) 105 1 ((([] : List Int)).flatMap e_u32)]) ⟨none, 0, rfl, rfl, trivial⟩ (loCons rfl (loNil)) (by exact .pick 0 rfl (.refl))
  · have hx3 := ite_f h1 hx
    refine T_condF rfl ?_
    refine T_skip ?_
    refine T_next ?_
    refine T_seq ?_
    refine T_reg ?_
    refine T_val (Ev_assign rfl) rfl ?_
    refine T_nil ?_
    refine T_next ?_
    obtain ⟨j6, hj6, hx3⟩ := jn_some hx3
    refine T_cutP (τ := List Int) (γ := (Option Addr) × Nat) (J := j6) (out := r) (fun s6 y6 => [(4, .slice (y6.1) ((s6).length) (y6.2))]) (fun s6 y6 => [.r (y6.1) ((s6).length) (y6.2) 105 1 ((s6).flatMap e_u32)] ++ [.old w]) (fun s6 y6 => True) ?_ ?_
    · intro s6 y6 hx78 hG79
      subst hj6
      refine T_seq ?_
      refine T_reg ?_
      refine T_val (Ev_move rfl) rfl ?_
      refine T_val (Ev_assign rfl) rfl ?_
      refine T_val (Ev_assign rfl) rfl ?_
      refine T_nil ?_
      refine T_next ?_
      refine T_retc ?_
      obtain rfl := Option.some.inj hx78
      exact T_retP (rs := [.tmp 2, .tmp 3]) Try.results99 (.tmp rfl (.tmp rfl (.nil))) (Ln := [.r (y6.1) ((s6).length) (y6.2) 105 1 ((s6).flatMap e_u32)]) ⟨y6.1, y6.2, rfl, rfl, trivial⟩ (loCons rfl (loNil)) (by exact .pick 0 rfl (.refl))
    · skip
      refine T_seq ?_
      refine T_reg ?_
      refine T_val (Ev_assign rfl) rfl ?_
      refine T_nil ?_
      refine T_next ?_
      refine T_block ?_
      obtain ⟨t41, hl41, ho41⟩ := bnd_some hx3
      refine T_none 105 1 ?_
      have hn42 : 0 = (([] : List Int)).length := by simp [setI_len, cpy_len, List.length_append] <;> omega
      refine T_ent (.here) (e' := .r (none) ((([] : List Int)).length) (0) 105 1 ((([] : List Int)).flatMap e_u32)) (by first | (rw [← hn42]; done) | rfl) ?_
      refine T_loopP (σ := (List Int) × Int) (γ := (Option Addr) × Nat) hl41 (fun s41 y41 => [(0, .slice (A0_0) ((p0).length) (c0_0)), (4, .slice (y41.1) ((s41.1).length) (y41.2)), (5, .int .i64 (s41.2))]) (fun s41 y41 => [.r (y41.1) ((s41.1).length) (y41.2) 105 1 ((s41.1).flatMap e_u32)] ++ [.old w]) (fun s41 y41 => True) (none, 0) trivial (by exact .cons rfl (.cons rfl (.cons rfl (.nil)))) (by exact .pick 0 rfl (.refl)) ?_
      intro s41 y41 hG41 x41 hx41 ht41
      unfold lidarref01_words_l5 at hx41
      refine T_seq ?_
      refine T_seq ?_
      refine T_reg ?_
      refine T_val (Ev_move rfl) rfl ?_
      refine T_val (Ev_move rfl) rfl ?_
      refine T_val (Ev_len rfl 3 Try.underlying27) rfl ?_
      refine T_val (Ev_lss rfl rfl) rfl ?_
      refine T_nil ?_
      refine T_next ?_
      refine T_caseP (s := 13) rfl (fun h43 => ?_) (fun h43 => ?_)
      · have hx44 := ite_t h43 hx41
        refine T_condT rfl ?_
        refine T_skip ?_
        refine T_next ?_
        refine T_seq ?_
        refine T_block ?_
        refine T_seq ?_
        refine T_reg ?_
        refine T_val (Ev_move rfl) rfl ?_
        refine T_val (Ev_move rfl) rfl ?_
        obtain ⟨x46, h47, hx48⟩ := bnd_some hx44
        have hw56 := Has.low (E := []) ha0' hK
        obtain ⟨b49, o50, j51, hA52, hj53, hl54, hp55⟩ := Has.at_idx hw56 h47
        refine T_val (Ev_index rfl rfl hA52 (j := j51) hj53 hl54 slc27) rfl ?_
        refine T_val (Ev_loadP0 rfl hp55 (SubE.cons2 (i := 1) rfl (SubE.nil)) rfl one3) rfl ?_
        refine T_val (Ev_conv_wu32 rfl (by kernel_rfl) Try.underlying105) rfl ?_
        refine T_val (Ev_assign rfl) rfl ?_
        refine T_nil ?_
        refine T_next ?_
        obtain ⟨j18, hj18, hx48⟩ := jn_some hx48
        refine T_cutP (τ := Int) (γ := Unit) (J := j18) (out := x41) (fun s18 y18 => [(0, .slice (A0_0) ((p0).length) (c0_0)), (4, .slice (y41.1) ((s41.1).length) (y41.2)), (5, .int .i64 (s41.2)), (6, .int .u32 (s18))]) (fun s18 y18 => [.r (y41.1) ((s41.1).length) (y41.2) 105 1 ((s41.1).flatMap e_u32)] ++ [.old w]) (fun s18 y18 => True) ?_ ?_
        · intro s18 y18 hx71 hG72
          subst hj18
          refine T_reg ?_
          refine T_val (Ev_move rfl) rfl ?_
          refine T_val (Ev_move rfl) rfl ?_
          refine T_x (Wx_buildSlice rfl (bls30_1_0u32 _) rfl (fun g73 => ?_))
          obtain ⟨h74, hx75⟩ := gd_some hx71
          refine T_h (Wh_appendP e_u32 (s41.1) [s18] rfl rfl rfl elm30 (fun _ => rfl) (i' := 0) rfl rfl rfl rfl h74 rfl (fun _ _ => .there (.here)) (fun _ _ => .drop .refl) (by decide) (fun A76 c77 => ?_))
          refine T_val (Ev_assign rfl) rfl ?_
          refine T_nil ?_
          refine T_inN ?_
          refine T_next ?_
          refine T_reg ?_
          refine T_val (Ev_move rfl) rfl ?_
          refine T_val (Ev_add_w64 rfl rfl) rfl ?_
          refine T_val (Ev_assign rfl) rfl ?_
          refine T_nil ?_
          exact T_roundP (s41.1 ++ [s18], w64 (s41.2 + 2)) (A76, c77) hx75 trivial (by exact .cons rfl (.cons rfl (.cons rfl (.nil)))) (by exact .pick 0 rfl (.refl))
        · skip
          refine T_seq ?_
          refine T_reg ?_
          refine T_val (Ev_move rfl) rfl ?_
          refine T_val (Ev_add_w64 rfl rfl) rfl ?_
          refine T_val (Ev_move rfl) rfl ?_
          refine T_val (Ev_len rfl 3 Try.underlying27) rfl ?_
          refine T_val (Ev_lss rfl rfl) rfl ?_
          refine T_nil ?_
          refine T_next ?_
          refine T_caseP (s := 25) rfl (fun h57 => ?_) (fun h57 => ?_)
          · have hx58 := ite_t h57 hx48
            refine T_condT rfl ?_
            refine T_reg ?_
            refine T_val (Ev_move rfl) rfl ?_
            refine T_val (Ev_move rfl) rfl ?_
            refine T_val (Ev_move rfl) rfl ?_
            refine T_val (Ev_add_w64 rfl rfl) rfl ?_
            obtain ⟨x59, h60, hx61⟩ := bnd_some hx58
            have hw69 := Has.low (E := []) ha0' hK
            obtain ⟨b62, o63, j64, hA65, hj66, hl67, hp68⟩ := Has.at_idx hw69 h60
            refine T_val (Ev_index rfl rfl hA65 (j := j64) hj66 hl67 slc27) rfl ?_
            refine T_val (Ev_loadP0 rfl hp68 (SubE.cons2 (i := 1) rfl (SubE.nil)) rfl one3) rfl ?_
            refine T_val (Ev_conv_wu32 rfl (by kernel_rfl) Try.underlying105) rfl ?_
            refine T_val (Ev_mul_wu32 rfl rfl) rfl ?_
            refine T_val (Ev_add_wu32 rfl rfl) rfl ?_
            refine T_val (Ev_assign rfl) rfl ?_
            refine T_nil ?_
            exact T_metP (wu32 ((wu32 (x46)) + (wu32 ((wu32 (x59)) * 65536)))) () hx61 trivial (by exact .cons rfl (.cons rfl (.cons rfl (.cons rfl (.nil))))) (by exact .pick 0 rfl (.refl))
          · have hx70 := ite_f h57 hx48
            refine T_condF rfl ?_
            refine T_skip ?_
            exact T_metP (wu32 (x46)) () hx70 trivial (by exact .cons rfl (.cons rfl (.cons rfl (.cons rfl (.nil))))) (by exact .pick 0 rfl (.refl))
      · have hx45 := ite_f h43 hx41
        refine T_condF rfl ?_
        refine T_exit ?_
        refine T_outX ?_
        obtain rfl := exit_eq ht41 hx45
        refine T_outX ?_
        refine T_here ?_
        exact T_metP s41.1 (y41.1, y41.2) ho41 trivial (by exact .cons rfl (.nil)) (by exact .pick 0 rfl (.refl))
set_option maxRecDepth 100000 in
theorem lidarref01_Out_ok (p0 : S_lidarref01_Q) {K : List Ent} {A0_0 : Option Addr} {c0_0 : Nat} {A0_1 : Option Addr} {c0_1 : Nat} (ha0 : Has K A0_0 (p0.N.L).length c0_0 1 e_i64 (p0.N.L)) (ha1 : Has K A0_1 (p0.D).length c0_1 1 e_i64 (p0.D)) {r : S_api_Rat × Int} (hx : lidarref01_Out p0 = some r) (w : World) (hK : ∀ e ∈ K, Ent.ok w e) : CtL Try.prog 62 [.agg #[.bool (p0.N.Neg), .slice (A0_0) ((p0.N.L).length) (c0_0), .slice (A0_1) ((p0.D).length) (c0_1)]] w fun v Ln => ∃ (A0 : Option Addr) (c0 : Nat) (A2 : Option Addr) (c2 : Nat), v = .tuple #[.agg #[.bool (r.1.Neg), .slice (A0) ((r.1.Num).length) (c0), .slice (A2) ((r.1.Den).length) (c2)], .int .i64 (r.2)] ∧ Ln = [.r A0 (r.1.Num).length c0 105 1 ((r.1.Num).flatMap e_u32), .r A2 (r.1.Den).length c2 105 1 ((r.1.Den).flatMap e_u32)] ∧ True := by
  have ha0' := Has.up0 ha0
  have ha1' := Has.up0 ha1
  refine CtL.mk 45 Try.func62 rfl Try.ntmps62 (by kernel_rfl) rfl ?_
  show T 45 _ [(0, .agg #[.bool (p0.N.Neg), .slice (A0_0) ((p0.N.L).length) (c0_0), .slice (A0_1) ((p0.D).length) (c0_1)])] _
  unfold lidarref01_Out at hx
  refine T_seq ?_
  refine T_reg ?_
  refine T_x (Wx_box rfl rfl rfl (fun g1 => ?_))
  refine T_x (Wx_alloc zer32 rfl (fun g2 => ?_))
  refine T_val (Ev_assign rfl) rfl ?_
  refine T_nil ?_
  refine T_next ?_
  refine T_seq ?_
  refine T_reg ?_
  refine T_val (Ev_field rfl fld45_0 rfl) rfl ?_
  refine T_val (Ev_field rfl fld43_1 rfl) rfl ?_
  refine T_val (Ev_load1 rfl (i := 1) rfl rfl one27) rfl ?_
  obtain ⟨r3, h4, hx5⟩ := bnd_some hx
  refine T_x (Wx_callL rfl (fun w1 hw1 => lidarref01_words_ok p0.N.L (Has.len' ha0') h4 w1 (okApp (K := K) (K2 := []) hK (by exact (SubE.cons2 (i := 2) rfl (SubE.nil))) (by exact (SubE.nil)) hw1)) rfl ?_)
  rintro _ _ hlo ⟨A6, c7, rfl, rfl, -⟩
  refine T_app1 ?_
  refine T_val (Ev_move rfl) rfl ?_
  refine T_val (Ev_extract rfl rfl) rfl ?_
  refine T_val (Ev_extract rfl rfl) rfl ?_
  refine T_val (Ev_assign rfl) rfl ?_
  refine T_val (Ev_assign rfl) rfl ?_
  refine T_nil ?_
  refine T_next ?_
  refine T_seq ?_
  refine T_reg ?_
  refine T_val (Ev_field rfl fld45_1 rfl) rfl ?_
  refine T_val (Ev_load1 rfl (i := 2) rfl rfl one27) rfl ?_
  obtain ⟨r8, h9, hx10⟩ := bnd_some hx5
  refine T_x (Wx_callL rfl (fun w1 hw1 => lidarref01_words_ok p0.D (Has.len' ha1') h9 w1 (okApp (K := K) (K2 := []) hK (by exact (SubE.cons2 (i := 3) rfl (SubE.nil))) (by exact (SubE.nil)) hw1)) rfl ?_)
  rintro _ _ hlo ⟨A11, c12, rfl, rfl, -⟩
  refine T_app1 ?_
  refine T_val (Ev_move rfl) rfl ?_
  refine T_val (Ev_extract rfl rfl) rfl ?_
  refine T_val (Ev_extract rfl rfl) rfl ?_
  refine T_val (Ev_assign rfl) rfl ?_
  refine T_val (Ev_assign rfl) rfl ?_
  refine T_nil ?_
  refine T_next ?_
  refine T_seq ?_
  obtain ⟨j5, hj5, hx10⟩ := jn_some hx10
  refine T_cutP (τ := Bool) (γ := Unit) (J := j5) (out := r) (fun s5 y5 => [(1, .pointer (some ⟨g1, 0, none⟩)), (2, .pointer (some ⟨g2, 0, none⟩)), (4, .slice (A6) ((r3.1).length) (c7)), (6, .slice (A11) ((r8.1).length) (c12)), (26, .bool (s5))]) (fun s5 y5 => [.r (A11) ((r8.1).length) (c12) 105 1 ((r8.1).flatMap e_u32), .r (A6) ((r3.1).length) (c7) 105 1 ((r3.1).flatMap e_u32), .m g2 32 [.bool (false), .slice (none) (0) (0), .slice (none) (0) (0)], .m g1 45 [.bool (p0.N.Neg), .slice (A0_0) ((p0.N.L).length) (c0_0), .slice (A0_1) ((p0.D).length) (c0_1)]] ++ [.old w]) (fun s5 y5 => True) ?_ ?_
  · intro s5 y5 hx16 hG17
    subst hj5
    refine T_caseB (s := 26) rfl (fun h18 => ?_) (fun h18 => ?_)
    · have hx19 := ite_t h18 hx16
      refine T_condT rfl ?_
      refine T_seq ?_
      refine T_reg ?_
      refine T_val (Ev_build rfl (bld32_)) rfl ?_
      refine T_h (Wh_store rfl rfl rfl (.there (.there (.here))) (.put (.put (.put (.done)))) rfl (List.cons_ne_nil _ _) agg32.2 ?_)
      refine T_val (Ev_assign rfl) rfl ?_
      refine T_nil ?_
      refine T_next ?_
      refine T_retc ?_
      refine T_outR ?_
      refine T_none 105 1 ?_
      refine T_none 105 1 ?_
      obtain rfl := Option.some.inj hx19
      exact T_retP (rs := [.cell 2 32, .tmp 3]) Try.results62 (.cell rfl (i := 4) rfl rfl agg32 (.tmp rfl (.nil))) (Ln := [.r (none) (0) (0) 105 1 ((([] : List Int)).flatMap e_u32), .r (none) (0) (0) 105 1 ((([] : List Int)).flatMap e_u32)]) ⟨none, 0, none, 0, rfl, rfl, trivial⟩ (loCons rfl (loCons rfl (loNil))) (by exact .pick 1 rfl (.pick 0 rfl (.drop 0 rfl (.drop 0 rfl (.drop 0 rfl (.drop 0 rfl (.refl)))))))
    · have hx20 := ite_bf h18 hx16
      refine T_condF rfl ?_
      refine T_skip ?_
      refine T_next ?_
      obtain ⟨j7, hj7, hx20⟩ := jn_some hx20
      refine T_cutP (τ := List Int) (γ := (Option Addr) × Nat) (J := j7) (out := r) (fun s7 y7 => [(1, .pointer (some ⟨g1, 0, none⟩)), (2, .pointer (some ⟨g2, 0, none⟩)), (4, .slice (A6) ((r3.1).length) (c7)), (6, .slice (y7.1) ((s7).length) (y7.2))]) (fun s7 y7 => [.r (y7.1) ((s7).length) (y7.2) 105 1 ((s7).flatMap e_u32), .r (A6) ((r3.1).length) (c7) 105 1 ((r3.1).flatMap e_u32), .m g2 32 [.bool (false), .slice (none) (0) (0), .slice (none) (0) (0)], .m g1 45 [.bool (p0.N.Neg), .slice (A0_0) ((p0.N.L).length) (c0_0), .slice (A0_1) ((p0.D).length) (c0_1)]] ++ [.old w]) (fun s7 y7 => True) ?_ ?_
      · intro s7 y7 hx40 hG41
        subst hj7
        refine T_seq ?_
        refine T_reg ?_
        refine T_val (Ev_field rfl fld45_0 rfl) rfl ?_
        refine T_val (Ev_field rfl fld43_0 rfl) rfl ?_
        refine T_val (Ev_load1 rfl (i := 3) rfl rfl one4) rfl ?_
        refine T_val (Ev_move rfl) rfl ?_
        refine T_val (Ev_move rfl) rfl ?_
        refine T_val (Ev_build rfl (bld32_0b1s2s _ _ _ _ _ _ _)) rfl ?_
        refine T_h (Wh_store rfl rfl rfl (.there (.there (.here))) (.put (.put (.put (.done)))) rfl (List.cons_ne_nil _ _) agg32.2 ?_)
        refine T_val (Ev_assign rfl) rfl ?_
        refine T_nil ?_
        refine T_next ?_
        refine T_retc ?_
        obtain rfl := Option.some.inj hx40
        exact T_retP (rs := [.cell 2 32, .tmp 3]) Try.results62 (.cell rfl (i := 2) rfl rfl agg32 (.tmp rfl (.nil))) (Ln := [.r (A6) ((r3.1).length) (c7) 105 1 ((r3.1).flatMap e_u32), .r (y7.1) ((s7).length) (y7.2) 105 1 ((s7).flatMap e_u32)]) ⟨A6, c7, y7.1, y7.2, rfl, rfl, trivial⟩ (loCons rfl (loCons rfl (loNil))) (by exact .pick 1 rfl (.pick 0 rfl (.drop 0 rfl (.drop 0 rfl (.refl)))))
      · skip
        obtain ⟨j8, hj8, hx20⟩ := jn_some hx20
        refine T_cutP (τ := Bool) (γ := Unit) (J := j8) (out := r) (fun s8 y8 => [(1, .pointer (some ⟨g1, 0, none⟩)), (2, .pointer (some ⟨g2, 0, none⟩)), (4, .slice (A6) ((r3.1).length) (c7)), (6, .slice (A11) ((r8.1).length) (c12)), (38, .bool (s8))]) (fun s8 y8 => [.r (A11) ((r8.1).length) (c12) 105 1 ((r8.1).flatMap e_u32), .r (A6) ((r3.1).length) (c7) 105 1 ((r3.1).flatMap e_u32), .m g2 32 [.bool (false), .slice (none) (0) (0), .slice (none) (0) (0)], .m g1 45 [.bool (p0.N.Neg), .slice (A0_0) ((p0.N.L).length) (c0_0), .slice (A0_1) ((p0.D).length) (c0_1)]] ++ [.old w]) (fun s8 y8 => True) ?_ ?_
        · intro s8 y8 hx35 hG36
          subst hj8
          refine T_caseB (s := 38) rfl (fun h37 => ?_) (fun h37 => ?_)
          · have hx38 := ite_t h37 hx35
            refine T_condT rfl ?_
            refine T_reg ?_
            refine T_val (Ev_assign rfl) rfl ?_
            refine T_nil ?_
            refine T_none 105 1 ?_
            have hn42 : 0 = (([] : List Int)).length := by simp [setI_len, cpy_len, List.length_append] <;> omega
            refine T_ent (.here) (e' := .r (none) ((([] : List Int)).length) (0) 105 1 ((([] : List Int)).flatMap e_u32)) (by first | (rw [← hn42]; done) | rfl) ?_
            exact T_metP ([] : List Int) (none, 0) hx38 trivial (by exact .cons rfl (.cons rfl (.cons rfl (.cons rfl (.nil))))) (by exact .pick 0 rfl (.pick 1 rfl (.pick 1 rfl (.pick 1 rfl (.drop 0 rfl (.refl))))))
          · have hx39 := ite_bf h37 hx35
            refine T_condF rfl ?_
            refine T_skip ?_
            exact T_metP r8.1 (A11, c12) hx39 trivial (by exact .cons rfl (.cons rfl (.cons rfl (.cons rfl (.nil))))) (by exact .pick 0 rfl (.pick 0 rfl (.pick 0 rfl (.pick 0 rfl (.refl)))))
        · skip
          refine T_reg ?_
          refine T_val (Ev_field rfl fld45_1 rfl) rfl ?_
          refine T_val (Ev_load1 rfl (i := 3) rfl rfl one27) rfl ?_
          refine T_val (Ev_len rfl 3 Try.underlying27) rfl ?_
          refine T_val (Ev_eql rfl rfl) rfl ?_
          refine T_val (Ev_move rfl) rfl ?_
          refine T_caseP (s := 32) rfl (fun h21 => ?_) (fun h21 => ?_)
          · have hx22 := ite_t h21 hx20
            refine T_valG rfl rfl rfl (Ev_field rfl fld45_1 rfl) rfl ?_
            refine T_valG rfl rfl rfl (Ev_load1 rfl (i := 3) rfl rfl one27) rfl ?_
            obtain ⟨x23, h24, hx25⟩ := bnd_some hx22
            have hw33 := Has.low (E := []) ha1' hK
            obtain ⟨b26, o27, j28, hA29, hj30, hl31, hp32⟩ := Has.at_idx hw33 h24
            refine T_valG rfl rfl rfl (Ev_index rfl rfl hA29 (j := j28) hj30 hl31 slc27) rfl ?_
            refine T_valG rfl rfl rfl (Ev_loadP0 rfl hp32 (SubE.cons2 (i := 4) rfl (SubE.nil)) rfl one3) rfl ?_
            refine T_valG rfl rfl rfl (Ev_eql rfl rfl) rfl ?_
            refine T_val (Ev_pickT rfl rfl) rfl ?_
            refine T_nil ?_
            exact T_metP (decide (x23 = 1)) () hx25 trivial (by exact .cons rfl (.cons rfl (.cons rfl (.cons rfl (.cons rfl (.nil)))))) (by exact .pick 0 rfl (.pick 0 rfl (.pick 0 rfl (.pick 0 rfl (.refl)))))
          · have hx34 := ite_f h21 hx20
            refine T_skipG rfl rfl rfl rfl rfl ?_
            refine T_skipG rfl rfl rfl rfl rfl ?_
            refine T_skipG rfl rfl rfl rfl rfl ?_
            refine T_skipG rfl rfl rfl rfl rfl ?_
            refine T_skipG rfl rfl rfl rfl rfl ?_
            refine T_val (Ev_pickF rfl rfl) rfl ?_
            refine T_nil ?_
            exact T_metP false () hx34 trivial (by exact .cons rfl (.cons rfl (.cons rfl (.cons rfl (.cons rfl (.nil)))))) (by exact .pick 0 rfl (.pick 0 rfl (.pick 0 rfl (.pick 0 rfl (.refl)))))
  · skip
    refine T_reg ?_
    refine T_val (Ev_move rfl) rfl ?_
    refine T_val (Ev_not rfl) rfl ?_
    refine T_val (Ev_move rfl) rfl ?_
    refine T_caseNB (s := 23) rfl (fun h13 => ?_) (fun h13 => ?_)
    · have hx14 := ite_bf h13 hx10
      refine T_skipG rfl rfl rfl rfl rfl ?_
      refine T_skipG rfl rfl rfl rfl rfl ?_
      refine T_val (Ev_pickT rfl rfl) rfl ?_
      refine T_nil ?_
      exact T_metP true () hx14 trivial (by exact .cons rfl (.cons rfl (.cons rfl (.cons rfl (.cons rfl (.nil)))))) (by exact .pick 0 rfl (.pick 0 rfl (.pick 0 rfl (.pick 0 rfl (.refl)))))
    · have hx15 := ite_t h13 hx10
      refine T_valG rfl rfl rfl (Ev_move rfl) rfl ?_
      refine T_valG rfl rfl rfl (Ev_not rfl) rfl ?_
      refine T_val (Ev_pickF rfl rfl) rfl ?_
      refine T_nil ?_
      exact T_metP (!(r8.2)) () hx15 trivial (by exact .cons rfl (.cons rfl (.cons rfl (.cons rfl (.cons rfl (.nil)))))) (by exact .pick 0 rfl (.pick 0 rfl (.pick 0 rfl (.pick 0 rfl (.refl)))))
set_option maxRecDepth 100000 in
theorem lidarref01_Same_ok (p0 : S_api_Rat) (p1 : S_lidarref01_Q) {K : List Ent} {A0_0 : Option Addr} {c0_0 : Nat} {A0_1 : Option Addr} {c0_1 : Nat} {A0_2 : Option Addr} {c0_2 : Nat} {A0_3 : Option Addr} {c0_3 : Nat} (ha0 : Has K A0_0 (p0.Num).length c0_0 1 e_u32 (p0.Num)) (ha1 : Has K A0_1 (p0.Den).length c0_1 1 e_u32 (p0.Den)) (ha2 : Has K A0_2 (p1.N.L).length c0_2 1 e_i64 (p1.N.L)) (ha3 : Has K A0_3 (p1.D).length c0_3 1 e_i64 (p1.D)) {r : Bool} (hx : lidarref01_Same p0 p1 = some r) (w : World) (hK : ∀ e ∈ K, Ent.ok w e) : CtL Try.prog 22 [.agg #[.bool (p0.Neg), .slice (A0_0) ((p0.Num).length) (c0_0), .slice (A0_1) ((p0.Den).length) (c0_1)], .agg #[.bool (p1.N.Neg), .slice (A0_2) ((p1.N.L).length) (c0_2), .slice (A0_3) ((p1.D).length) (c0_3)]] w fun v Ln => v = .bool (r) ∧ Ln = [] ∧ True := by
  have ha0' := Has.up0 ha0
  have ha1' := Has.up0 ha1
  have ha2' := Has.up0 ha2
  have ha3' := Has.up0 ha3
  refine CtL.mk 77 Try.func22 rfl Try.ntmps22 (by kernel_rfl) rfl ?_
  show T 77 _ [(0, .agg #[.bool (p0.Neg), .slice (A0_0) ((p0.Num).length) (c0_0), .slice (A0_1) ((p0.Den).length) (c0_1)]), (1, .agg #[.bool (p1.N.Neg), .slice (A0_2) ((p1.N.L).length) (c0_2), .slice (A0_3) ((p1.D).length) (c0_3)])] _
  unfold lidarref01_Same at hx
  refine T_seq ?_
  refine T_reg ?_
  refine T_x (Wx_box rfl rfl rfl (fun g1 => ?_))
  refine T_x (Wx_box rfl rfl rfl (fun g2 => ?_))
  refine T_val (Ev_assign rfl) rfl ?_
  refine T_nil ?_
  refine T_next ?_
  refine T_seq ?_
  refine T_reg ?_
  refine T_val (Ev_loadK rfl (i := 0) rfl rfl agg45) rfl ?_
  obtain ⟨r3, h4, hx5⟩ := bnd_some hx
  refine T_x (Wx_callL rfl (fun w1 hw1 => lidarref01_Out_ok p1 (Has.len' ha2') (Has.len' ha3') h4 w1 (okApp (K := K) (K2 := []) hK (by exact (SubE.cons2 (i := 2) rfl (SubE.nil))) (by exact (SubE.nil)) hw1)) rfl ?_)
  rintro _ _ hlo ⟨A6, c7, A8, c9, rfl, rfl, -⟩
  refine T_app2 ?_
  refine T_val (Ev_move rfl) rfl ?_
  refine T_val (Ev_extract rfl rfl) rfl ?_
  refine T_val (Ev_extract rfl rfl) rfl ?_
  refine T_x (Wx_alloc zer32 rfl (fun g10 => ?_))
  refine T_h (Wh_store rfl rfl rfl (.here) (.put (.put (.put (.done)))) rfl (List.cons_ne_nil _ _) agg32.2 ?_)
  refine T_val (Ev_assign rfl) rfl ?_
  refine T_nil ?_
  refine T_next ?_
  refine T_seq ?_
  obtain ⟨j4, hj4, hx5⟩ := jn_some hx5
  refine T_cutP (τ := Bool) (γ := Unit) (J := j4) (out := r) (fun s4 y4 => [(2, .pointer (some ⟨g1, 0, none⟩)), (5, .pointer (some ⟨g10, 0, none⟩)), (40, .bool (s4))]) (fun s4 y4 => [.m g10 32 [.bool (r3.1.Neg), .slice (A6) ((r3.1.Num).length) (c7), .slice (A8) ((r3.1.Den).length) (c9)], .r (A6) ((r3.1.Num).length) (c7) 105 1 ((r3.1.Num).flatMap e_u32), .r (A8) ((r3.1.Den).length) (c9) 105 1 ((r3.1.Den).flatMap e_u32), .m g1 32 [.bool (p0.Neg), .slice (A0_0) ((p0.Num).length) (c0_0), .slice (A0_1) ((p0.Den).length) (c0_1)]] ++ [.old w]) (fun s4 y4 => True) ?_ ?_
  · intro s4 y4 hx20 hG21
    subst hj4
    refine T_caseB (s := 40) rfl (fun h22 => ?_) (fun h22 => ?_)
    · have hx23 := ite_t h22 hx20
      refine T_condT rfl ?_
      refine T_seq ?_
      refine T_reg ?_
      refine T_val (Ev_assign rfl) rfl ?_
      refine T_nil ?_
      refine T_next ?_
      refine T_retc ?_
      refine T_outR ?_
      obtain rfl := Option.some.inj hx23
      exact T_retP (rs := [.tmp 4]) Try.results22 (.tmp rfl (.nil)) (Ln := []) ⟨rfl, rfl, trivial⟩ (loNil) (by exact .drop 0 rfl (.drop 0 rfl (.drop 0 rfl (.drop 0 rfl (.refl)))))
    · have hx24 := ite_bf h22 hx20
      refine T_condF rfl ?_
      refine T_skip ?_
      refine T_next ?_
      obtain ⟨j6, hj6, hx24⟩ := jn_some hx24
      refine T_cutP (τ := Unit) (γ := Unit) (J := j6) (out := r) (fun s6 y6 => [(2, .pointer (some ⟨g1, 0, none⟩)), (5, .pointer (some ⟨g10, 0, none⟩))]) (fun s6 y6 => [.m g10 32 [.bool (r3.1.Neg), .slice (A6) ((r3.1.Num).length) (c7), .slice (A8) ((r3.1.Den).length) (c9)], .r (A6) ((r3.1.Num).length) (c7) 105 1 ((r3.1.Num).flatMap e_u32), .r (A8) ((r3.1.Den).length) (c9) 105 1 ((r3.1.Den).flatMap e_u32), .m g1 32 [.bool (p0.Neg), .slice (A0_0) ((p0.Num).length) (c0_0), .slice (A0_1) ((p0.Den).length) (c0_1)]] ++ [.old w]) (fun s6 y6 => True) ?_ ?_
      · intro s6 y6 hx83 hG84
        subst hj6
        obtain ⟨j18, hj18, hx83⟩ := jn_some hx83
        refine T_cutP (τ := Unit) (γ := Unit) (J := j18) (out := r) (fun s18 y18 => []) (fun s18 y18 => [] ++ [.old w]) (fun s18 y18 => True) ?_ ?_
        · intro s18 y18 hx143 hG144
          subst hj18
          refine T_seq ?_
          refine T_reg ?_
          refine T_val (Ev_assign rfl) rfl ?_
          refine T_nil ?_
          refine T_next ?_
          refine T_retc ?_
          obtain rfl := Option.some.inj hx143
          exact T_retP (rs := [.tmp 4]) Try.results22 (.tmp rfl (.nil)) (Ln := []) ⟨rfl, rfl, trivial⟩ (loNil) (by exact .refl)
        · skip
          refine T_seq ?_
          refine T_reg ?_
          refine T_val (Ev_assign rfl) rfl ?_
          refine T_nil ?_
          refine T_next ?_
          refine T_block ?_
          obtain ⟨t114, hl114, ho114⟩ := bnd_some hx83
          refine T_loopP (σ := Int) (γ := Unit) hl114 (fun s114 y114 => [(2, .pointer (some ⟨g1, 0, none⟩)), (5, .pointer (some ⟨g10, 0, none⟩)), (8, .int .i64 (s114))]) (fun s114 y114 => [.m g10 32 [.bool (r3.1.Neg), .slice (A6) ((r3.1.Num).length) (c7), .slice (A8) ((r3.1.Den).length) (c9)], .r (A6) ((r3.1.Num).length) (c7) 105 1 ((r3.1.Num).flatMap e_u32), .r (A8) ((r3.1.Den).length) (c9) 105 1 ((r3.1.Den).flatMap e_u32), .m g1 32 [.bool (p0.Neg), .slice (A0_0) ((p0.Num).length) (c0_0), .slice (A0_1) ((p0.Den).length) (c0_1)]] ++ [.old w]) (fun s114 y114 => True) () trivial (by exact .cons rfl (.cons rfl (.cons rfl (.nil)))) (by exact .pick 0 rfl (.pick 0 rfl (.pick 0 rfl (.pick 0 rfl (.refl))))) ?_
          intro s114 y114 hG114 x114 hx114 ht114
          unfold lidarref01_Same_l10 at hx114
          refine T_seq ?_
          refine T_seq ?_
          refine T_reg ?_
          refine T_val (Ev_move rfl) rfl ?_
          refine T_val (Ev_field rfl fld32_2 rfl) rfl ?_
          refine T_val (Ev_load1 rfl (i := 3) rfl rfl one30) rfl ?_
          refine T_val (Ev_len rfl 105 Try.underlying30) rfl ?_
          refine T_val (Ev_lss rfl rfl) rfl ?_
          refine T_nil ?_
          refine T_next ?_
          refine T_caseP (s := 63) rfl (fun h115 => ?_) (fun h115 => ?_)
          · have hx116 := ite_t h115 hx114
            refine T_condT rfl ?_
            refine T_skip ?_
            refine T_next ?_
            refine T_seq ?_
            refine T_block ?_
            refine T_seq ?_
            refine T_draw [0, 1, 0, 0, 1, 0, 1, 0, 0, 1, 0] [[], [0], [], [0, 1, 2], [0, 1, 2, 3], [], [5], [], [5, 6, 7], [5, 6, 7, 8], [0, 1, 2, 3, 4, 5, 6, 7, 8, 9]] (.q 0 (.q 1 (.q 2 (.q 3 (.q 4 (.q 5 (.q 6 (.q 7 (.q 8 (.q 9 (.q 10 (.done)))))))))))) mixed (by kernel_rfl) (by kernel_rfl) ?_
            refine P_p rfl rfl (Ev_field rfl fld32_2 rfl) rfl ?_
            refine P_q rfl rfl (Ev_load1 rfl (i := 3) rfl rfl one30) rfl ?_
            refine P_p rfl rfl (Ev_move rfl) rfl ?_
            obtain ⟨x118, h119, hx120⟩ := bnd_some hx116
            have hw128 := Has.low (E := []) ha1' hK
            obtain ⟨b121, o122, j123, hA124, hj125, hl126, hp127⟩ := Has.at_idx hw128 h119
            refine P_p rfl rfl (Ev_index rfl rfl hA124 (j := j123) hj125 hl126 slc30) rfl ?_
            refine P_q rfl rfl (Ev_loadP0 rfl hp127 (SubE.cons2 (i := 4) rfl (SubE.nil)) rfl one105) rfl ?_
            refine P_p rfl rfl (Ev_field rfl fld32_2 rfl) rfl ?_
            refine P_q rfl rfl (Ev_load1 rfl (i := 0) rfl rfl one30) rfl ?_
            refine P_p rfl rfl (Ev_move rfl) rfl ?_
            obtain ⟨x129, h130, hx131⟩ := bnd_some hx120
            refine T_idxR (k := 2) rfl (by decide) (fun _ => rfl) h130 (fun b132 j134 hA135 hj136 hl137 hm139 hp138 => ?_)
            refine P_p rfl rfl (Ev_index rfl rfl hA135 (j := j134) hj136 hl137 slc30) rfl ?_
            refine P_q rfl rfl (Ev_loadP0 rfl hp138 (SubE.cons2 (i := 2) rfl (SubE.nil)) rfl one105) rfl ?_
            refine P_p rfl rfl (Ev_neq rfl rfl) rfl ?_
            refine P_done ?_
            refine T_next ?_
            refine T_caseNP (s := 76) rfl (fun h140 => ?_) (fun h140 => ?_)
            · have hx141 := ite_f h140 hx131
              refine T_condT rfl ?_
              refine T_seq ?_
              refine T_reg ?_
              refine T_val (Ev_assign rfl) rfl ?_
              refine T_nil ?_
              refine T_next ?_
              refine T_retc ?_
              refine T_inR ?_
              refine T_outR ?_
              obtain rfl := exit_eq ht114 hx141
              refine T_outR ?_
              refine T_inR ?_
              refine T_outR ?_
              obtain rfl := Option.some.inj ho114
              exact T_retP (rs := [.tmp 4]) Try.results22 (.tmp rfl (.nil)) (Ln := []) ⟨rfl, rfl, trivial⟩ (loNil) (by exact .drop 0 rfl (.drop 0 rfl (.drop 0 rfl (.drop 0 rfl (.refl)))))
            · have hx142 := ite_t h140 hx131
              refine T_condF rfl ?_
              refine T_skip ?_
              refine T_inN ?_
              refine T_next ?_
              refine T_reg ?_
              refine T_val (Ev_move rfl) rfl ?_
              refine T_val (Ev_add_w64 rfl rfl) rfl ?_
              refine T_val (Ev_assign rfl) rfl ?_
              refine T_nil ?_
              exact T_roundP (w64 (s114 + 1)) () hx142 trivial (by exact .cons rfl (.cons rfl (.cons rfl (.nil)))) (by exact .pick 0 rfl (.pick 0 rfl (.pick 0 rfl (.pick 0 rfl (.refl)))))
          · have hx117 := ite_f h115 hx114
            refine T_condF rfl ?_
            refine T_exit ?_
            refine T_outX ?_
            obtain rfl := exit_eq ht114 hx117
            refine T_outX ?_
            refine T_here ?_
            exact T_metP () () ho114 trivial (by exact .nil) (by exact .drop 0 rfl (.drop 0 rfl (.drop 0 rfl (.drop 0 rfl (.refl)))))
      · skip
        refine T_seq ?_
        refine T_reg ?_
        refine T_val (Ev_assign rfl) rfl ?_
        refine T_nil ?_
        refine T_next ?_
        refine T_block ?_
        obtain ⟨t54, hl54, ho54⟩ := bnd_some hx24
        refine T_loopP (σ := Int) (γ := Unit) hl54 (fun s54 y54 => [(2, .pointer (some ⟨g1, 0, none⟩)), (5, .pointer (some ⟨g10, 0, none⟩)), (7, .int .i64 (s54))]) (fun s54 y54 => [.m g10 32 [.bool (r3.1.Neg), .slice (A6) ((r3.1.Num).length) (c7), .slice (A8) ((r3.1.Den).length) (c9)], .r (A6) ((r3.1.Num).length) (c7) 105 1 ((r3.1.Num).flatMap e_u32), .r (A8) ((r3.1.Den).length) (c9) 105 1 ((r3.1.Den).flatMap e_u32), .m g1 32 [.bool (p0.Neg), .slice (A0_0) ((p0.Num).length) (c0_0), .slice (A0_1) ((p0.Den).length) (c0_1)]] ++ [.old w]) (fun s54 y54 => True) () trivial (by exact .cons rfl (.cons rfl (.cons rfl (.nil)))) (by exact .pick 0 rfl (.pick 0 rfl (.pick 0 rfl (.pick 0 rfl (.refl))))) ?_
        intro s54 y54 hG54 x54 hx54 ht54
        unfold lidarref01_Same_l5 at hx54
        refine T_seq ?_
        refine T_seq ?_
        refine T_reg ?_
        refine T_val (Ev_move rfl) rfl ?_
        refine T_val (Ev_field rfl fld32_1 rfl) rfl ?_
        refine T_val (Ev_load1 rfl (i := 3) rfl rfl one30) rfl ?_
        refine T_val (Ev_len rfl 105 Try.underlying30) rfl ?_
        refine T_val (Ev_lss rfl rfl) rfl ?_
        refine T_nil ?_
        refine T_next ?_
        refine T_caseP (s := 45) rfl (fun h55 => ?_) (fun h55 => ?_)
        · have hx56 := ite_t h55 hx54
          refine T_condT rfl ?_
          refine T_skip ?_
          refine T_next ?_
          refine T_seq ?_
          refine T_block ?_
          refine T_seq ?_
          refine T_draw [0, 1, 0, 0, 1, 0, 1, 0, 0, 1, 0] [[], [0], [], [0, 1, 2], [0, 1, 2, 3], [], [5], [], [5, 6, 7], [5, 6, 7, 8], [0, 1, 2, 3, 4, 5, 6, 7, 8, 9]] (.q 0 (.q 1 (.q 2 (.q 3 (.q 4 (.q 5 (.q 6 (.q 7 (.q 8 (.q 9 (.q 10 (.done)))))))))))) mixed (by kernel_rfl) (by kernel_rfl) ?_
          refine P_p rfl rfl (Ev_field rfl fld32_1 rfl) rfl ?_
          refine P_q rfl rfl (Ev_load1 rfl (i := 3) rfl rfl one30) rfl ?_
          refine P_p rfl rfl (Ev_move rfl) rfl ?_
          obtain ⟨x58, h59, hx60⟩ := bnd_some hx56
          have hw68 := Has.low (E := []) ha0' hK
          obtain ⟨b61, o62, j63, hA64, hj65, hl66, hp67⟩ := Has.at_idx hw68 h59
          refine P_p rfl rfl (Ev_index rfl rfl hA64 (j := j63) hj65 hl66 slc30) rfl ?_
          refine P_q rfl rfl (Ev_loadP0 rfl hp67 (SubE.cons2 (i := 4) rfl (SubE.nil)) rfl one105) rfl ?_
          refine P_p rfl rfl (Ev_field rfl fld32_1 rfl) rfl ?_
          refine P_q rfl rfl (Ev_load1 rfl (i := 0) rfl rfl one30) rfl ?_
          refine P_p rfl rfl (Ev_move rfl) rfl ?_
          obtain ⟨x69, h70, hx71⟩ := bnd_some hx60
          refine T_idxR (k := 1) rfl (by decide) (fun _ => rfl) h70 (fun b72 j74 hA75 hj76 hl77 hm79 hp78 => ?_)
          refine P_p rfl rfl (Ev_index rfl rfl hA75 (j := j74) hj76 hl77 slc30) rfl ?_
          refine P_q rfl rfl (Ev_loadP0 rfl hp78 (SubE.cons2 (i := 1) rfl (SubE.nil)) rfl one105) rfl ?_
          refine P_p rfl rfl (Ev_neq rfl rfl) rfl ?_
          refine P_done ?_
          refine T_next ?_
          refine T_caseNP (s := 58) rfl (fun h80 => ?_) (fun h80 => ?_)
          · have hx81 := ite_f h80 hx71
            refine T_condT rfl ?_
            refine T_seq ?_
            refine T_reg ?_
            refine T_val (Ev_assign rfl) rfl ?_
            refine T_nil ?_
            refine T_next ?_
            refine T_retc ?_
            refine T_inR ?_
            refine T_outR ?_
            obtain rfl := exit_eq ht54 hx81
            refine T_outR ?_
            refine T_inR ?_
            refine T_outR ?_
            obtain rfl := Option.some.inj ho54
            exact T_retP (rs := [.tmp 4]) Try.results22 (.tmp rfl (.nil)) (Ln := []) ⟨rfl, rfl, trivial⟩ (loNil) (by exact .drop 0 rfl (.drop 0 rfl (.drop 0 rfl (.drop 0 rfl (.refl)))))
          · have hx82 := ite_t h80 hx71
            refine T_condF rfl ?_
            refine T_skip ?_
            refine T_inN ?_
            refine T_next ?_
            refine T_reg ?_
            refine T_val (Ev_move rfl) rfl ?_
            refine T_val (Ev_add_w64 rfl rfl) rfl ?_
            refine T_val (Ev_assign rfl) rfl ?_
            refine T_nil ?_
            exact T_roundP (w64 (s54 + 1)) () hx82 trivial (by exact .cons rfl (.cons rfl (.cons rfl (.nil)))) (by exact .pick 0 rfl (.pick 0 rfl (.pick 0 rfl (.pick 0 rfl (.refl)))))
        · have hx57 := ite_f h55 hx54
          refine T_condF rfl ?_
          refine T_exit ?_
          refine T_outX ?_
          obtain rfl := exit_eq ht54 hx57
          refine T_outX ?_
          refine T_here ?_
          exact T_metP () () ho54 trivial (by exact .cons rfl (.cons rfl (.nil))) (by exact .pick 0 rfl (.pick 0 rfl (.pick 0 rfl (.pick 0 rfl (.refl)))))
  · skip
    refine T_reg ?_
    refine T_val (Ev_move rfl) rfl ?_
    refine T_val (Ev_neq rfl rfl) rfl ?_
    refine T_val (Ev_move rfl) rfl ?_
    refine T_caseNP (s := 16) rfl (fun h11 => ?_) (fun h11 => ?_)
    · have hx12 := ite_f h11 hx5
      refine T_skipG rfl rfl rfl rfl rfl ?_
      refine T_skipG rfl rfl rfl rfl rfl ?_
      refine T_skipG rfl rfl rfl rfl rfl ?_
      refine T_skipG rfl rfl rfl rfl rfl ?_
      refine T_skipG rfl rfl rfl rfl rfl ?_
      refine T_val (Ev_pickT rfl rfl) rfl ?_
      refine T_val (Ev_move rfl) rfl ?_
      refine T_skipG rfl rfl rfl rfl rfl ?_
      refine T_skipG rfl rfl rfl rfl rfl ?_
      refine T_skipG rfl rfl rfl rfl rfl ?_
      refine T_skipG rfl rfl rfl rfl rfl ?_
      refine T_skipG rfl rfl rfl rfl rfl ?_
      refine T_skipG rfl rfl rfl rfl rfl ?_
      refine T_skipG rfl rfl rfl rfl rfl ?_
      refine T_val (Ev_pickT rfl rfl) rfl ?_
      refine T_val (Ev_move rfl) rfl ?_
      refine T_skipG rfl rfl rfl rfl rfl ?_
      refine T_skipG rfl rfl rfl rfl rfl ?_
      refine T_skipG rfl rfl rfl rfl rfl ?_
      refine T_skipG rfl rfl rfl rfl rfl ?_
      refine T_skipG rfl rfl rfl rfl rfl ?_
      refine T_skipG rfl rfl rfl rfl rfl ?_
      refine T_skipG rfl rfl rfl rfl rfl ?_
      refine T_val (Ev_pickT rfl rfl) rfl ?_
      refine T_nil ?_
      exact T_metP true () hx12 trivial (by exact .cons rfl (.cons rfl (.cons rfl (.nil)))) (by exact .pick 0 rfl (.pick 0 rfl (.pick 0 rfl (.pick 1 rfl (.drop 0 rfl (.refl))))))
    · have hx13 := ite_t h11 hx5
      refine T_valG rfl rfl rfl (Ev_field rfl fld32_0 rfl) rfl ?_
      refine T_valG rfl rfl rfl (Ev_load1 rfl (i := 4) rfl rfl one4) rfl ?_
      refine T_valG rfl rfl rfl (Ev_field rfl fld32_0 rfl) rfl ?_
      refine T_valG rfl rfl rfl (Ev_load1 rfl (i := 0) rfl rfl one4) rfl ?_
      refine T_valG rfl rfl rfl (Ev_neqB rfl rfl (by kernel_rfl)) rfl ?_
      refine T_val (Ev_pickF rfl rfl) rfl ?_
      refine T_val (Ev_move rfl) rfl ?_
      refine T_caseNB (s := 23) rfl (fun h14 => ?_) (fun h14 => ?_)
      · have hx15 := ite_bf h14 hx13
        refine T_skipG rfl rfl rfl rfl rfl ?_
        refine T_skipG rfl rfl rfl rfl rfl ?_
        refine T_skipG rfl rfl rfl rfl rfl ?_
        refine T_skipG rfl rfl rfl rfl rfl ?_
        refine T_skipG rfl rfl rfl rfl rfl ?_
        refine T_skipG rfl rfl rfl rfl rfl ?_
        refine T_skipG rfl rfl rfl rfl rfl ?_
        refine T_val (Ev_pickT rfl rfl) rfl ?_
        refine T_val (Ev_move rfl) rfl ?_
        refine T_skipG rfl rfl rfl rfl rfl ?_
        refine T_skipG rfl rfl rfl rfl rfl ?_
        refine T_skipG rfl rfl rfl rfl rfl ?_
        refine T_skipG rfl rfl rfl rfl rfl ?_
        refine T_skipG rfl rfl rfl rfl rfl ?_
        refine T_skipG rfl rfl rfl rfl rfl ?_
        refine T_skipG rfl rfl rfl rfl rfl ?_
        refine T_val (Ev_pickT rfl rfl) rfl ?_
        refine T_nil ?_
        exact T_metP true () hx15 trivial (by exact .cons rfl (.cons rfl (.cons rfl (.nil)))) (by exact .pick 0 rfl (.pick 0 rfl (.pick 0 rfl (.pick 1 rfl (.drop 0 rfl (.refl))))))
      · have hx16 := ite_t h14 hx13
        refine T_valG rfl rfl rfl (Ev_field rfl fld32_1 rfl) rfl ?_
        refine T_valG rfl rfl rfl (Ev_load1 rfl (i := 4) rfl rfl one30) rfl ?_
        refine T_valG rfl rfl rfl (Ev_len rfl 105 Try.underlying30) rfl ?_
        refine T_valG rfl rfl rfl (Ev_field rfl fld32_1 rfl) rfl ?_
        refine T_valG rfl rfl rfl (Ev_load1 rfl (i := 0) rfl rfl one30) rfl ?_
        refine T_valG rfl rfl rfl (Ev_len rfl 105 Try.underlying30) rfl ?_
        refine T_valG rfl rfl rfl (Ev_neq rfl rfl) rfl ?_
        refine T_val (Ev_pickF rfl rfl) rfl ?_
        refine T_val (Ev_move rfl) rfl ?_
        refine T_caseNP (s := 32) rfl (fun h17 => ?_) (fun h17 => ?_)
        · have hx18 := ite_f h17 hx16
          refine T_skipG rfl rfl rfl rfl rfl ?_
          refine T_skipG rfl rfl rfl rfl rfl ?_
          refine T_skipG rfl rfl rfl rfl rfl ?_
          refine T_skipG rfl rfl rfl rfl rfl ?_
          refine T_skipG rfl rfl rfl rfl rfl ?_
          refine T_skipG rfl rfl rfl rfl rfl ?_
          refine T_skipG rfl rfl rfl rfl rfl ?_
          refine T_val (Ev_pickT rfl rfl) rfl ?_
          refine T_nil ?_
          exact T_metP true () hx18 trivial (by exact .cons rfl (.cons rfl (.cons rfl (.nil)))) (by exact .pick 0 rfl (.pick 0 rfl (.pick 0 rfl (.pick 1 rfl (.drop 0 rfl (.refl))))))
        · have hx19 := ite_t h17 hx16
          refine T_valG rfl rfl rfl (Ev_field rfl fld32_2 rfl) rfl ?_
          refine T_valG rfl rfl rfl (Ev_load1 rfl (i := 4) rfl rfl one30) rfl ?_
          refine T_valG rfl rfl rfl (Ev_len rfl 105 Try.underlying30) rfl ?_
          refine T_valG rfl rfl rfl (Ev_field rfl fld32_2 rfl) rfl ?_
          refine T_valG rfl rfl rfl (Ev_load1 rfl (i := 0) rfl rfl one30) rfl ?_
          refine T_valG rfl rfl rfl (Ev_len rfl 105 Try.underlying30) rfl ?_
          refine T_valG rfl rfl rfl (Ev_neq rfl rfl) rfl ?_
          refine T_val (Ev_pickF rfl rfl) rfl ?_
          refine T_nil ?_
          exact T_metP (!(decide (((((p0.Den).length : Nat) : Int)) = ((((r3.1.Den).length : Nat) : Int))))) () hx19 trivial (by exact .cons rfl (.cons rfl (.cons rfl (.nil)))) (by exact .pick 0 rfl (.pick 0 rfl (.pick 0 rfl (.pick 1 rfl (.drop 0 rfl (.refl))))))
set_option maxRecDepth 100000 in
theorem lidarlaw09_row_ok (p0 : List S_api_Cell) {K : List Ent} {A0_0 : Option Addr} {c0_0 : Nat} (ha0 : Has K A0_0 (p0).length c0_0 3 e_api_Cell (p0)) {r : S_api_Grid} (hx : lidarlaw09_row p0 = some r) (w : World) (hK : ∀ e ∈ K, Ent.ok w e) : CtL Try.prog 55 [.slice (A0_0) ((p0).length) (c0_0)] w fun v Ln => v = .agg #[.int .i64 (r.Raster.X0), .int .i64 (r.Raster.Y0), .int .i64 (r.Raster.Step), .int .i64 (r.Raster.NX), .int .i64 (r.Raster.NY), .slice (A0_0) ((r.Cells).length) (c0_0)] ∧ Ln = [] ∧ Has K A0_0 (r.Cells).length c0_0 3 e_api_Cell (r.Cells) ∧ True := by
  have ha0' := Has.up0 ha0
  refine CtL.mk 8 Try.func55 rfl Try.ntmps55 (by kernel_rfl) rfl ?_
  show T 8 _ [(0, .slice (A0_0) ((p0).length) (c0_0))] _
  unfold lidarlaw09_row at hx
  refine T_seq ?_
  refine T_reg ?_
  refine T_x (Wx_alloc zer26 rfl (fun g1 => ?_))
  refine T_nil ?_
  refine T_next ?_
  refine T_seq ?_
  refine T_reg ?_
  refine T_val (Ev_move rfl) rfl ?_
  refine T_val (Ev_len rfl 41 Try.underlying24) rfl ?_
  refine T_val (Ev_build rfl (bld23_2i643i644i64 _ _ _)) rfl ?_
  refine T_val (Ev_move rfl) rfl ?_
  refine T_val (Ev_build rfl (bld26_0ai64i64i64i64i641s _ _ _ _ _ _ _ _)) rfl ?_
  refine T_h (Wh_store rfl rfl rfl (.here) (.put (.put (.put (.put (.put (.put (.done))))))) rfl (List.cons_ne_nil _ _) agg26.2 ?_)
  refine T_nil ?_
  refine T_next ?_
  refine T_retc ?_
  obtain rfl := Option.some.inj hx
  exact T_retP (rs := [.cell 2 26]) Try.results55 (.cell rfl (i := 0) rfl rfl agg26 (.nil)) (Ln := []) ⟨rfl, rfl, Has.len' (Has.dn0 ha0'), trivial⟩ (loNil) (by exact .drop 0 rfl (.refl))
set_option maxRecDepth 100000 in
theorem lidarlaw09_known_ok (p0 : Int) (p1 : Int)  {r : S_api_Cell} (hx : lidarlaw09_known p0 p1 = some r) (w : World) : CtL Try.prog 29 [.int .i64 (p0), .int .i64 (p1)] w fun v Ln => v = .agg #[.bool (r.Void), .int .i64 (r.Z.Lo), .int .i64 (r.Z.Hi)] ∧ Ln = [] ∧ True := by
  refine CtL.mk 9 Try.func29 rfl Try.ntmps29 (by kernel_rfl) rfl ?_
  show T 9 _ [(0, .int .i64 (p0)), (1, .int .i64 (p1))] _
  unfold lidarlaw09_known at hx
  refine T_seq ?_
  refine T_reg ?_
  refine T_x (Wx_alloc zer41 rfl (fun g1 => ?_))
  refine T_nil ?_
  refine T_next ?_
  refine T_seq ?_
  refine T_reg ?_
  refine T_val (Ev_move rfl) rfl ?_
  refine T_val (Ev_move rfl) rfl ?_
  refine T_val (Ev_build rfl (bld39_0i641i64 _ _)) rfl ?_
  refine T_val (Ev_build rfl (bld41_1ai64i64 _ _)) rfl ?_
  refine T_h (Wh_store rfl rfl rfl (.here) (.put (.put (.put (.done)))) rfl (List.cons_ne_nil _ _) agg41.2 ?_)
  refine T_nil ?_
  refine T_next ?_
  refine T_retc ?_
  obtain rfl := Option.some.inj hx
  exact T_retP (rs := [.cell 4 41]) Try.results29 (.cell rfl (i := 0) rfl rfl agg41 (.nil)) (Ln := []) ⟨rfl, rfl, trivial⟩ (loNil) (by exact .drop 0 rfl (.refl))
set_option maxRecDepth 100000 in
theorem lidarlaw09_first_ok   {r : Bool} (hx : lidarlaw09_first = some r) (w : World) : CtL Try.prog 18 [] w fun v Ln => v = .bool (r) ∧ Ln = [] ∧ True := by
  refine CtL.mk 63 Try.func18 rfl Try.ntmps18 (by kernel_rfl) rfl ?_
  unfold lidarlaw09_first at hx
  refine T_seq ?_
  refine T_reg ?_
  refine T_val (Ev_assign rfl) rfl ?_
  refine T_nil ?_
  refine T_next ?_
  refine T_seq ?_
  refine T_reg ?_
  obtain ⟨r1, h2, hx3⟩ := bnd_some hx
  refine T_x (Wx_callL rfl (fun w1 hw1 => lidarlaw09_known_ok 1 3  h2 w1) rfl ?_)
  rintro _ _ hlo ⟨rfl, rfl, -⟩
  refine T_app0 ?_
  obtain ⟨r4, h5, hx6⟩ := bnd_some hx3
  refine T_x (Wx_callL rfl (fun w1 hw1 => lidarlaw09_known_ok 0 1  h5 w1) rfl ?_)
  rintro _ _ hlo ⟨rfl, rfl, -⟩
  refine T_app0 ?_
  refine T_x (Wx_buildSlice rfl (bls24_2_0abi64i641abi64i64 _ _ _ _ _ _) rfl (fun g7 => ?_))
  have hs8 : Has [.m g7 41 [.bool (r1.Void), .int .i64 (r1.Z.Lo), .int .i64 (r1.Z.Hi), .bool (r4.Void), .int .i64 (r4.Z.Lo), .int .i64 (r4.Z.Hi)]] (some ⟨g7, 0, none⟩) 2 2 3 e_api_Cell [r1, r4] := Has.ofM (fun _ _ => rfl) rfl (by decide) rfl
  obtain ⟨r9, h10, hx11⟩ := bnd_some hx6
  refine T_x (Wx_callL rfl (fun w1 hw1 => lidarlaw09_row_ok ([r1, r4]) (Has.len' hs8) h10 w1 (okAll (K := ([.m g7 41 [.bool (r1.Void), .int .i64 (r1.Z.Lo), .int .i64 (r1.Z.Hi), .bool (r4.Void), .int .i64 (r4.Z.Lo), .int .i64 (r4.Z.Hi)]] : List Ent)) (by exact (SubE.cons2 (i := 0) rfl (SubE.nil))) hw1)) rfl ?_)
  rintro _ _ hlo ⟨rfl, rfl, hs12, -⟩
  refine T_app0 ?_
  obtain ⟨r13, h14, hx15⟩ := bnd_some hx11
  refine T_x (Wx_callL rfl (fun w1 hw1 => lidarlaw09_known_ok 4 5  h14 w1) rfl ?_)
  rintro _ _ hlo ⟨rfl, rfl, -⟩
  refine T_app0 ?_
  obtain ⟨r16, h17, hx18⟩ := bnd_some hx15
  refine T_x (Wx_callL rfl (fun w1 hw1 => lidarlaw09_known_ok 5 7  h17 w1) rfl ?_)
  rintro _ _ hlo ⟨rfl, rfl, -⟩
  refine T_app0 ?_
  refine T_x (Wx_buildSlice rfl (bls24_2_0abi64i641abi64i64 _ _ _ _ _ _) rfl (fun g19 => ?_))
  have hs20 : Has [.m g19 41 [.bool (r13.Void), .int .i64 (r13.Z.Lo), .int .i64 (r13.Z.Hi), .bool (r16.Void), .int .i64 (r16.Z.Lo), .int .i64 (r16.Z.Hi)]] (some ⟨g19, 0, none⟩) 2 2 3 e_api_Cell [r13, r16] := Has.ofM (fun _ _ => rfl) rfl (by decide) rfl
  obtain ⟨r21, h22, hx23⟩ := bnd_some hx18
  refine T_x (Wx_callL rfl (fun w1 hw1 => lidarlaw09_row_ok ([r13, r16]) (Has.len' hs20) h22 w1 (okAll (K := ([.m g19 41 [.bool (r13.Void), .int .i64 (r13.Z.Lo), .int .i64 (r13.Z.Hi), .bool (r16.Void), .int .i64 (r16.Z.Lo), .int .i64 (r16.Z.Hi)]] : List Ent)) (by exact (SubE.cons2 (i := 0) rfl (SubE.nil))) hw1)) rfl ?_)
  rintro _ _ hlo ⟨rfl, rfl, hs24, -⟩
  refine T_app0 ?_
  refine T_x (Wx_alloc zer26 rfl (fun g25 => ?_))
  refine T_x (Wx_alloc zer26 rfl (fun g26 => ?_))
  refine T_h (Wh_store rfl rfl rfl (.there (.here)) (.put (.put (.put (.put (.put (.put (.done))))))) rfl (List.cons_ne_nil _ _) agg26.2 ?_)
  refine T_h (Wh_store rfl rfl rfl (.here) (.put (.put (.put (.put (.put (.put (.done))))))) rfl (List.cons_ne_nil _ _) agg26.2 ?_)
  refine T_nil ?_
  refine T_next ?_
  refine T_seq ?_
  refine T_reg ?_
  refine T_val (Ev_loadK rfl (i := 1) rfl rfl agg26) rfl ?_
  refine T_val (Ev_loadK rfl (i := 0) rfl rfl agg26) rfl ?_
  obtain ⟨r27, h28, hx29⟩ := bnd_some hx23
  refine T_x (Wx_callL rfl (fun w1 hw1 => model_Compare_ok r9 r21 (Has.len' (Has.up (L := ([.m g7 41 [.bool (r1.Void), .int .i64 (r1.Z.Lo), .int .i64 (r1.Z.Hi), .bool (r4.Void), .int .i64 (r4.Z.Lo), .int .i64 (r4.Z.Hi)], .m g19 41 [.bool (r13.Void), .int .i64 (r13.Z.Lo), .int .i64 (r13.Z.Hi), .bool (r16.Void), .int .i64 (r16.Z.Lo), .int .i64 (r16.Z.Hi)]] : List Ent)) hs12 (SubE.cons2 (i := 0) rfl (SubE.nil)))) (Has.len' (Has.up (L := ([.m g7 41 [.bool (r1.Void), .int .i64 (r1.Z.Lo), .int .i64 (r1.Z.Hi), .bool (r4.Void), .int .i64 (r4.Z.Lo), .int .i64 (r4.Z.Hi)], .m g19 41 [.bool (r13.Void), .int .i64 (r13.Z.Lo), .int .i64 (r13.Z.Hi), .bool (r16.Void), .int .i64 (r16.Z.Lo), .int .i64 (r16.Z.Hi)]] : List Ent)) hs24 (SubE.cons2 (i := 1) rfl (SubE.nil)))) h28 w1 (okAll (K := ([.m g7 41 [.bool (r1.Void), .int .i64 (r1.Z.Lo), .int .i64 (r1.Z.Hi), .bool (r4.Void), .int .i64 (r4.Z.Lo), .int .i64 (r4.Z.Hi)], .m g19 41 [.bool (r13.Void), .int .i64 (r13.Z.Lo), .int .i64 (r13.Z.Hi), .bool (r16.Void), .int .i64 (r16.Z.Lo), .int .i64 (r16.Z.Hi)]] : List Ent)) (by exact (SubE.cons2 (i := 3) rfl (SubE.cons2 (i := 2) rfl (SubE.nil)))) hw1)) rfl ?_)
  rintro _ _ hlo ⟨A30, c31, rfl, rfl, -⟩
  refine T_app1 ?_
  refine T_val (Ev_move rfl) rfl ?_
  refine T_val (Ev_extract rfl rfl) rfl ?_
  refine T_val (Ev_extract rfl rfl) rfl ?_
  refine T_val (Ev_assign rfl) rfl ?_
  refine T_val (Ev_assign rfl) rfl ?_
  refine T_nil ?_
  refine T_next ?_
  refine T_seq ?_
  refine T_reg ?_
  refine T_val (Ev_loadK rfl (i := 2) rfl rfl agg26) rfl ?_
  refine T_val (Ev_loadK rfl (i := 1) rfl rfl agg26) rfl ?_
  refine T_x (Wx_buildSlice rfl (bls27_1_0i64 _) rfl (fun g32 => ?_))
  have hs33 : Has [.m g32 3 [.int .i64 (1)]] (some ⟨g32, 0, none⟩) 1 1 1 e_i64 [1] := Has.ofM (fun _ _ => rfl) rfl (by decide) rfl
  obtain ⟨r34, h35, hx36⟩ := bnd_some hx29
  refine T_x (Wx_callL rfl (fun w1 hw1 => model_Amount_ok r9 r21 ([1]) (Has.len' (Has.up (L := ([.m g7 41 [.bool (r1.Void), .int .i64 (r1.Z.Lo), .int .i64 (r1.Z.Hi), .bool (r4.Void), .int .i64 (r4.Z.Lo), .int .i64 (r4.Z.Hi)], .m g19 41 [.bool (r13.Void), .int .i64 (r13.Z.Lo), .int .i64 (r13.Z.Hi), .bool (r16.Void), .int .i64 (r16.Z.Lo), .int .i64 (r16.Z.Hi)], .m g32 3 [.int .i64 (1)]] : List Ent)) hs12 (SubE.cons2 (i := 0) rfl (SubE.nil)))) (Has.len' (Has.up (L := ([.m g7 41 [.bool (r1.Void), .int .i64 (r1.Z.Lo), .int .i64 (r1.Z.Hi), .bool (r4.Void), .int .i64 (r4.Z.Lo), .int .i64 (r4.Z.Hi)], .m g19 41 [.bool (r13.Void), .int .i64 (r13.Z.Lo), .int .i64 (r13.Z.Hi), .bool (r16.Void), .int .i64 (r16.Z.Lo), .int .i64 (r16.Z.Hi)], .m g32 3 [.int .i64 (1)]] : List Ent)) hs24 (SubE.cons2 (i := 1) rfl (SubE.nil)))) (Has.len' (Has.up (L := ([.m g7 41 [.bool (r1.Void), .int .i64 (r1.Z.Lo), .int .i64 (r1.Z.Hi), .bool (r4.Void), .int .i64 (r4.Z.Lo), .int .i64 (r4.Z.Hi)], .m g19 41 [.bool (r13.Void), .int .i64 (r13.Z.Lo), .int .i64 (r13.Z.Hi), .bool (r16.Void), .int .i64 (r16.Z.Lo), .int .i64 (r16.Z.Hi)], .m g32 3 [.int .i64 (1)]] : List Ent)) hs33 (SubE.cons2 (i := 2) rfl (SubE.nil)))) h35 w1 (okAll (K := ([.m g7 41 [.bool (r1.Void), .int .i64 (r1.Z.Lo), .int .i64 (r1.Z.Hi), .bool (r4.Void), .int .i64 (r4.Z.Lo), .int .i64 (r4.Z.Hi)], .m g19 41 [.bool (r13.Void), .int .i64 (r13.Z.Lo), .int .i64 (r13.Z.Hi), .bool (r16.Void), .int .i64 (r16.Z.Lo), .int .i64 (r16.Z.Hi)], .m g32 3 [.int .i64 (1)]] : List Ent)) (by exact (SubE.cons2 (i := 5) rfl (SubE.cons2 (i := 4) rfl (SubE.cons2 (i := 0) rfl (SubE.nil))))) hw1)) rfl ?_)
  rintro _ _ hlo ⟨A37, c38, A39, c40, A41, c42, A43, c44, e45, e46, rfl, rfl, hs47, hs48, hs49, hs50, -⟩
  have lo51 := hlo e45 (by simp)
  have lo52 := hlo e46 (by simp)
  refine T_app2 ?_
  have hs53 : Has ([.m g7 41 [.bool (r1.Void), .int .i64 (r1.Z.Lo), .int .i64 (r1.Z.Hi), .bool (r4.Void), .int .i64 (r4.Z.Lo), .int .i64 (r4.Z.Hi)], .m g19 41 [.bool (r13.Void), .int .i64 (r13.Z.Lo), .int .i64 (r13.Z.Hi), .bool (r16.Void), .int .i64 (r16.Z.Lo), .int .i64 (r16.Z.Hi)], .m g32 3 [.int .i64 (1)], e45, e46] : List Ent) _ _ _ _ _ _ := id hs47
  have hs54 : Has ([.m g7 41 [.bool (r1.Void), .int .i64 (r1.Z.Lo), .int .i64 (r1.Z.Hi), .bool (r4.Void), .int .i64 (r4.Z.Lo), .int .i64 (r4.Z.Hi)], .m g19 41 [.bool (r13.Void), .int .i64 (r13.Z.Lo), .int .i64 (r13.Z.Hi), .bool (r16.Void), .int .i64 (r16.Z.Lo), .int .i64 (r16.Z.Hi)], .m g32 3 [.int .i64 (1)], e45, e46] : List Ent) _ _ _ _ _ _ := id hs48
  have hs55 : Has ([.m g7 41 [.bool (r1.Void), .int .i64 (r1.Z.Lo), .int .i64 (r1.Z.Hi), .bool (r4.Void), .int .i64 (r4.Z.Lo), .int .i64 (r4.Z.Hi)], .m g19 41 [.bool (r13.Void), .int .i64 (r13.Z.Lo), .int .i64 (r13.Z.Hi), .bool (r16.Void), .int .i64 (r16.Z.Lo), .int .i64 (r16.Z.Hi)], .m g32 3 [.int .i64 (1)], e45, e46] : List Ent) _ _ _ _ _ _ := id hs49
  have hs56 : Has ([.m g7 41 [.bool (r1.Void), .int .i64 (r1.Z.Lo), .int .i64 (r1.Z.Hi), .bool (r4.Void), .int .i64 (r4.Z.Lo), .int .i64 (r4.Z.Hi)], .m g19 41 [.bool (r13.Void), .int .i64 (r13.Z.Lo), .int .i64 (r13.Z.Hi), .bool (r16.Void), .int .i64 (r16.Z.Lo), .int .i64 (r16.Z.Hi)], .m g32 3 [.int .i64 (1)], e45, e46] : List Ent) _ _ _ _ _ _ := id hs50
  refine T_val (Ev_move rfl) rfl ?_
  refine T_val (Ev_extract rfl rfl) rfl ?_
  refine T_val (Ev_extract rfl rfl) rfl ?_
  refine T_val (Ev_extract rfl rfl) rfl ?_
  refine T_x (Wx_alloc zer32 rfl (fun g57 => ?_))
  refine T_x (Wx_alloc zer32 rfl (fun g58 => ?_))
  refine T_h (Wh_store rfl rfl rfl (.there (.here)) (.put (.put (.put (.done)))) rfl (List.cons_ne_nil _ _) agg32.2 ?_)
  refine T_h (Wh_store rfl rfl rfl (.here) (.put (.put (.put (.done)))) rfl (List.cons_ne_nil _ _) agg32.2 ?_)
  refine T_val (Ev_assign rfl) rfl ?_
  refine T_nil ?_
  refine T_next ?_
  obtain ⟨j5, hj5, hx36⟩ := jn_some hx36
  refine T_cutP (τ := Bool) (γ := Unit) (J := j5) (out := r) (fun s5 y5 => [(0, .bool (s5))]) (fun s5 y5 => [] ++ [.old w]) (fun s5 y5 => True) ?_ ?_
  · intro s5 y5 hx129 hG130
    subst hj5
    refine T_retc ?_
    obtain rfl := Option.some.inj hx129
    exact T_retP (rs := [.tmp 0]) Try.results18 (.tmp rfl (.nil)) (Ln := []) ⟨rfl, rfl, trivial⟩ (loNil) (by exact .refl)
  · skip
    refine T_draw [0, 0, 0, 0, 0, 0, 0, 0, 0, 0, 1, 0, 0, 0, 0, 0, 1, 0, 0, 0, 0, 0, 0, 0, 1, 2, 2, 0, 0, 1, 2, 2, 0, 2] [[], [0], [0, 1], [0, 1, 2], [0, 1, 2, 3], [0, 1, 2, 3, 4], [0, 1, 2, 3, 4, 5], [0, 1, 2, 3, 4, 5, 6], [0, 1, 2, 3, 4, 5, 6, 7], [0, 1, 2, 3, 4, 5, 6, 7, 8], [0, 1, 2, 3, 4, 5, 6, 7, 8, 9], [0, 1, 2, 3, 4, 5, 6, 7, 8, 9, 10], [0, 1, 2, 3, 4, 5, 6, 7, 8, 9, 10, 11], [0, 1, 2, 3, 4, 5, 6, 7, 8, 9, 10, 11, 12], [0, 1, 2, 3, 4, 5, 6, 7, 8, 9, 10, 11, 12, 13], [0, 1, 2, 3, 4, 5, 6, 7, 8, 9, 10, 11, 12, 13, 14], [0, 1, 2, 3, 4, 5, 6, 7, 8, 9, 10, 11, 12, 13, 14, 15], [0, 1, 2, 3, 4, 5, 6, 7, 8, 9, 10, 11, 12, 13, 14, 15, 16], [0, 1, 2, 3, 4, 5, 6, 7, 8, 9, 10, 11, 12, 13, 14, 15, 16, 17], [0, 1, 2, 3, 4, 5, 6, 7, 8, 9, 10, 11, 12, 13, 14, 15, 16, 17, 18], [0, 1, 2, 3, 4, 5, 6, 7, 8, 9, 10, 11, 12, 13, 14, 15, 16, 17, 18, 19], [0, 1, 2, 3, 4, 5, 6, 7, 8, 9, 10, 11, 12, 13, 14, 15, 16, 17, 18, 19, 20], [0, 1, 2, 3, 4, 5, 6, 7, 8, 9, 10, 11, 12, 13, 14, 15, 16, 17, 18, 19, 20, 21], [0, 1, 2, 3, 4, 5, 6, 7, 8, 9, 10, 11, 12, 13, 14, 15, 16, 17, 18, 19, 20, 21, 22], [0, 1, 2, 3, 4, 5, 6, 7, 8, 9, 10, 11, 12, 13, 14, 15, 16, 17, 18, 19, 20, 21, 22, 23], [0, 1, 2, 3, 4, 5, 6, 7, 8, 9, 10, 11, 12, 13, 14, 15, 16, 17, 18, 19, 20, 21, 22, 23], [0, 1, 2, 3, 4, 5, 6, 7, 8, 9, 10, 11, 12, 13, 14, 15, 16, 17, 18, 19, 20, 21, 22, 23, 24, 25], [0, 1, 2, 3, 4, 5, 6, 7, 8, 9, 10, 11, 12, 13, 14, 15, 16, 17, 18, 19, 20, 21, 22, 23, 24, 25, 26], [0, 1, 2, 3, 4, 5, 6, 7, 8, 9, 10, 11, 12, 13, 14, 15, 16, 17, 18, 19, 20, 21, 22, 23, 24, 25, 26, 27], [0, 1, 2, 3, 4, 5, 6, 7, 8, 9, 10, 11, 12, 13, 14, 15, 16, 17, 18, 19, 20, 21, 22, 23, 24, 25, 26, 27, 28], [0, 1, 2, 3, 4, 5, 6, 7, 8, 9, 10, 11, 12, 13, 14, 15, 16, 17, 18, 19, 20, 21, 22, 23, 24, 25, 26, 27, 28], [0, 1, 2, 3, 4, 5, 6, 7, 8, 9, 10, 11, 12, 13, 14, 15, 16, 17, 18, 19, 20, 21, 22, 23, 24, 25, 26, 27, 28, 29, 30], [0, 1, 2, 3, 4, 5, 6, 7, 8, 9, 10, 11, 12, 13, 14, 15, 16, 17, 18, 19, 20, 21, 22, 23, 24, 25, 26, 27, 28, 29, 30, 31], [0, 1, 2, 3, 4, 5, 6, 7, 8, 9, 10, 11, 12, 13, 14, 15, 16, 17, 18, 19, 20, 21, 22, 23, 24, 25, 26, 27, 28, 29, 30, 31, 32]] (.q 0 (.q 1 (.q 2 (.q 3 (.q 4 (.q 5 (.q 6 (.q 7 (.q 8 (.q 9 (.q 10 (.q 11 (.q 12 (.q 13 (.q 14 (.q 15 (.q 16 (.q 17 (.q 18 (.q 19 (.q 20 (.q 21 (.q 22 (.q 23 (.q 24 (.e 25 (.e 26 (.q 27 (.q 28 (.q 29 (.e 30 (.e 31 (.q 32 (.e 33 (.done) (.stop))) (.stop)) (.stop))))) (.stop)) (.stop))))))))))))))))))))))))))) mixed (by kernel_rfl) (by kernel_rfl) ?_
    refine P_p rfl rfl (Ev_move rfl) rfl ?_
    refine P_p rfl rfl (Ev_eql rfl rfl) rfl ?_
    refine P_p rfl rfl (Ev_move rfl) rfl ?_
    refine T_caseP (s := 32) rfl (fun h59 => ?_) (fun h59 => ?_)
    · have hx60 := ite_t h59 hx36
      refine P_pG rfl rfl rfl rfl rfl (Ev_move rfl) rfl ?_
      refine P_pG rfl rfl rfl rfl rfl (Ev_len rfl 3 Try.underlying27) rfl ?_
      refine P_pG rfl rfl rfl rfl rfl (Ev_eql rfl rfl) rfl ?_
      refine P_p rfl rfl (Ev_pickT rfl rfl) rfl ?_
      refine P_p rfl rfl (Ev_move rfl) rfl ?_
      refine T_caseP (s := 37) rfl (fun h61 => ?_) (fun h61 => ?_)
      · have hx62 := ite_t h61 hx60
        refine P_pG rfl rfl rfl rfl rfl (Ev_move rfl) rfl ?_
        obtain ⟨x63, h64, hx65⟩ := bnd_some hx62
        refine T_idxR (k := 5) rfl (by decide) (fun _ => rfl) h64 (fun b66 j68 hA69 hj70 hl71 hm73 hp72 => ?_)
        refine P_pG rfl rfl rfl rfl rfl (Ev_index rfl rfl hA69 (j := j68) hj70 hl71 slc27) rfl ?_
        refine P_qG rfl rfl rfl rfl rfl (Ev_loadP0 rfl hp72 (SubE.cons2 (i := 5) rfl (SubE.nil)) rfl one3) rfl ?_
        refine P_pG rfl rfl rfl rfl rfl (Ev_eql rfl rfl) rfl ?_
        refine P_p rfl rfl (Ev_pickT rfl rfl) rfl ?_
        refine P_p rfl rfl (Ev_move rfl) rfl ?_
        refine T_caseP (s := 43) rfl (fun h74 => ?_) (fun h74 => ?_)
        · have hx75 := ite_t h74 hx65
          refine P_pG rfl rfl rfl rfl rfl (Ev_move rfl) rfl ?_
          obtain ⟨x76, h77, hx78⟩ := bnd_some hx75
          refine T_idxR (k := 5) rfl (by decide) (fun _ => rfl) h77 (fun b79 j81 hA82 hj83 hl84 hm86 hp85 => ?_)
          refine P_pG rfl rfl rfl rfl rfl (Ev_index rfl rfl hA82 (j := j81) hj83 hl84 slc27) rfl ?_
          refine P_qG rfl rfl rfl rfl rfl (Ev_loadP0 rfl hp85 (SubE.cons2 (i := 5) rfl (SubE.nil)) rfl one3) rfl ?_
          refine P_pG rfl rfl rfl rfl rfl (Ev_eql rfl rfl) rfl ?_
          refine P_p rfl rfl (Ev_pickT rfl rfl) rfl ?_
          refine P_p rfl rfl (Ev_move rfl) rfl ?_
          refine T_caseP (s := 49) rfl (fun h87 => ?_) (fun h87 => ?_)
          · have hx88 := ite_t h87 hx78
            refine P_pG rfl rfl rfl rfl rfl (Ev_move rfl) rfl ?_
            refine P_pG rfl rfl rfl rfl rfl (Ev_eql rfl rfl) rfl ?_
            refine P_p rfl rfl (Ev_pickT rfl rfl) rfl ?_
            refine P_p rfl rfl (Ev_move rfl) rfl ?_
            refine T_caseP (s := 53) rfl (fun h89 => ?_) (fun h89 => ?_)
            · have hx90 := ite_t h89 hx88
              refine P_qG rfl rfl rfl rfl rfl (Ev_loadK rfl (i := 1) rfl rfl agg32) rfl ?_
              obtain ⟨r91, h92, hx93⟩ := bnd_some hx90
              refine P_xG rfl rfl rfl rfl (Wx_callL rfl (fun w1 hw1 => lidarref01_Whole_ok 400  h92 w1) rfl ?_) ?_
              rotate_left; exact P_stop
              rintro _ _ hlo ⟨A94, c95, A96, c97, e98, rfl, rfl, hs99, -⟩
              have lo100 := hlo e98 (by simp)
              refine T_app2 ?_
              refine T_rowP (k := 0) rfl (by decide) (fun _ => rfl) (fun hn101 hs102 => ?_)
              obtain ⟨r103, h104, hx105⟩ := bnd_some hx93
              refine P_xG rfl rfl rfl rfl (Wx_callL rfl (fun w1 hw1 => lidarref01_Same_ok r34.1 r91 (Has.len' (Has.up (L := ([.m g7 41 [.bool (r1.Void), .int .i64 (r1.Z.Lo), .int .i64 (r1.Z.Hi), .bool (r4.Void), .int .i64 (r4.Z.Lo), .int .i64 (r4.Z.Hi)], .m g19 41 [.bool (r13.Void), .int .i64 (r13.Z.Lo), .int .i64 (r13.Z.Hi), .bool (r16.Void), .int .i64 (r16.Z.Lo), .int .i64 (r16.Z.Hi)], .m g32 3 [.int .i64 (1)], e45, e46, e98, .r (A96) ((r91.D).length) (c97) 3 1 ((r91.D).flatMap e_i64)] : List Ent)) hs53 (SubE.cons2 (i := 0) rfl (SubE.cons2 (i := 1) rfl (SubE.cons2 (i := 2) rfl (SubE.cons2 (i := 3) rfl (SubE.cons2 (i := 4) rfl (SubE.nil)))))))) (Has.len' (Has.up (L := ([.m g7 41 [.bool (r1.Void), .int .i64 (r1.Z.Lo), .int .i64 (r1.Z.Hi), .bool (r4.Void), .int .i64 (r4.Z.Lo), .int .i64 (r4.Z.Hi)], .m g19 41 [.bool (r13.Void), .int .i64 (r13.Z.Lo), .int .i64 (r13.Z.Hi), .bool (r16.Void), .int .i64 (r16.Z.Lo), .int .i64 (r16.Z.Hi)], .m g32 3 [.int .i64 (1)], e45, e46, e98, .r (A96) ((r91.D).length) (c97) 3 1 ((r91.D).flatMap e_i64)] : List Ent)) hs54 (SubE.cons2 (i := 0) rfl (SubE.cons2 (i := 1) rfl (SubE.cons2 (i := 2) rfl (SubE.cons2 (i := 3) rfl (SubE.cons2 (i := 4) rfl (SubE.nil)))))))) (Has.len' (Has.up (L := ([.m g7 41 [.bool (r1.Void), .int .i64 (r1.Z.Lo), .int .i64 (r1.Z.Hi), .bool (r4.Void), .int .i64 (r4.Z.Lo), .int .i64 (r4.Z.Hi)], .m g19 41 [.bool (r13.Void), .int .i64 (r13.Z.Lo), .int .i64 (r13.Z.Hi), .bool (r16.Void), .int .i64 (r16.Z.Lo), .int .i64 (r16.Z.Hi)], .m g32 3 [.int .i64 (1)], e45, e46, e98, .r (A96) ((r91.D).length) (c97) 3 1 ((r91.D).flatMap e_i64)] : List Ent)) hs99 (SubE.cons2 (i := 5) rfl (SubE.nil)))) (Has.len' (Has.up (L := ([.m g7 41 [.bool (r1.Void), .int .i64 (r1.Z.Lo), .int .i64 (r1.Z.Hi), .bool (r4.Void), .int .i64 (r4.Z.Lo), .int .i64 (r4.Z.Hi)], .m g19 41 [.bool (r13.Void), .int .i64 (r13.Z.Lo), .int .i64 (r13.Z.Hi), .bool (r16.Void), .int .i64 (r16.Z.Lo), .int .i64 (r16.Z.Hi)], .m g32 3 [.int .i64 (1)], e45, e46, e98, .r (A96) ((r91.D).length) (c97) 3 1 ((r91.D).flatMap e_i64)] : List Ent)) hs102 (SubE.cons2 (i := 6) rfl (SubE.nil)))) h104 w1 (okAll (K := ([.m g7 41 [.bool (r1.Void), .int .i64 (r1.Z.Lo), .int .i64 (r1.Z.Hi), .bool (r4.Void), .int .i64 (r4.Z.Lo), .int .i64 (r4.Z.Hi)], .m g19 41 [.bool (r13.Void), .int .i64 (r13.Z.Lo), .int .i64 (r13.Z.Hi), .bool (r16.Void), .int .i64 (r16.Z.Lo), .int .i64 (r16.Z.Hi)], .m g32 3 [.int .i64 (1)], e45, e46, e98, .r (A96) ((r91.D).length) (c97) 3 1 ((r91.D).flatMap e_i64)] : List Ent)) (by exact (SubE.cons2 (i := 11) rfl (SubE.cons2 (i := 10) rfl (SubE.cons2 (i := 6) rfl (SubE.cons2 (i := 4) rfl (SubE.cons2 (i := 5) rfl (SubE.cons2 (i := 1) rfl (SubE.cons2 (i := 0) rfl (SubE.nil))))))))) hw1)) rfl ?_) ?_
              rotate_left; exact P_stop
              rintro _ _ hlo ⟨rfl, rfl, -⟩
              refine T_app0 ?_
              refine P_p rfl rfl (Ev_pickT rfl rfl) rfl ?_
              refine P_p rfl rfl (Ev_move rfl) rfl ?_
              refine T_caseB (s := 58) rfl (fun h106 => ?_) (fun h106 => ?_)
              · have hx107 := ite_t h106 hx105
                refine P_qG rfl rfl rfl rfl rfl (Ev_loadK rfl (i := 2) rfl rfl agg32) rfl ?_
                obtain ⟨r108, h109, hx110⟩ := bnd_some hx107
                refine P_xG rfl rfl rfl rfl (Wx_callL rfl (fun w1 hw1 => lidarref01_Whole_ok 700  h109 w1) rfl ?_) ?_
                rotate_left; exact P_stop
                rintro _ _ hlo ⟨A111, c112, A113, c114, e115, rfl, rfl, hs116, -⟩
                have lo117 := hlo e115 (by simp)
                refine T_app2 ?_
                refine T_rowP (k := 0) rfl (by decide) (fun _ => rfl) (fun hn118 hs119 => ?_)
                obtain ⟨r120, h121, hx122⟩ := bnd_some hx110
                refine P_xG rfl rfl rfl rfl (Wx_callL rfl (fun w1 hw1 => lidarref01_Same_ok r34.2.1 r108 (Has.len' (Has.up (L := ([.m g7 41 [.bool (r1.Void), .int .i64 (r1.Z.Lo), .int .i64 (r1.Z.Hi), .bool (r4.Void), .int .i64 (r4.Z.Lo), .int .i64 (r4.Z.Hi)], .m g19 41 [.bool (r13.Void), .int .i64 (r13.Z.Lo), .int .i64 (r13.Z.Hi), .bool (r16.Void), .int .i64 (r16.Z.Lo), .int .i64 (r16.Z.Hi)], .m g32 3 [.int .i64 (1)], e45, e46, e115, .r (A113) ((r108.D).length) (c114) 3 1 ((r108.D).flatMap e_i64)] : List Ent)) hs55 (SubE.cons2 (i := 0) rfl (SubE.cons2 (i := 1) rfl (SubE.cons2 (i := 2) rfl (SubE.cons2 (i := 3) rfl (SubE.cons2 (i := 4) rfl (SubE.nil)))))))) (Has.len' (Has.up (L := ([.m g7 41 [.bool (r1.Void), .int .i64 (r1.Z.Lo), .int .i64 (r1.Z.Hi), .bool (r4.Void), .int .i64 (r4.Z.Lo), .int .i64 (r4.Z.Hi)], .m g19 41 [.bool (r13.Void), .int .i64 (r13.Z.Lo), .int .i64 (r13.Z.Hi), .bool (r16.Void), .int .i64 (r16.Z.Lo), .int .i64 (r16.Z.Hi)], .m g32 3 [.int .i64 (1)], e45, e46, e115, .r (A113) ((r108.D).length) (c114) 3 1 ((r108.D).flatMap e_i64)] : List Ent)) hs56 (SubE.cons2 (i := 0) rfl (SubE.cons2 (i := 1) rfl (SubE.cons2 (i := 2) rfl (SubE.cons2 (i := 3) rfl (SubE.cons2 (i := 4) rfl (SubE.nil)))))))) (Has.len' (Has.up (L := ([.m g7 41 [.bool (r1.Void), .int .i64 (r1.Z.Lo), .int .i64 (r1.Z.Hi), .bool (r4.Void), .int .i64 (r4.Z.Lo), .int .i64 (r4.Z.Hi)], .m g19 41 [.bool (r13.Void), .int .i64 (r13.Z.Lo), .int .i64 (r13.Z.Hi), .bool (r16.Void), .int .i64 (r16.Z.Lo), .int .i64 (r16.Z.Hi)], .m g32 3 [.int .i64 (1)], e45, e46, e115, .r (A113) ((r108.D).length) (c114) 3 1 ((r108.D).flatMap e_i64)] : List Ent)) hs116 (SubE.cons2 (i := 5) rfl (SubE.nil)))) (Has.len' (Has.up (L := ([.m g7 41 [.bool (r1.Void), .int .i64 (r1.Z.Lo), .int .i64 (r1.Z.Hi), .bool (r4.Void), .int .i64 (r4.Z.Lo), .int .i64 (r4.Z.Hi)], .m g19 41 [.bool (r13.Void), .int .i64 (r13.Z.Lo), .int .i64 (r13.Z.Hi), .bool (r16.Void), .int .i64 (r16.Z.Lo), .int .i64 (r16.Z.Hi)], .m g32 3 [.int .i64 (1)], e45, e46, e115, .r (A113) ((r108.D).length) (c114) 3 1 ((r108.D).flatMap e_i64)] : List Ent)) hs119 (SubE.cons2 (i := 6) rfl (SubE.nil)))) h121 w1 (okAll (K := ([.m g7 41 [.bool (r1.Void), .int .i64 (r1.Z.Lo), .int .i64 (r1.Z.Hi), .bool (r4.Void), .int .i64 (r4.Z.Lo), .int .i64 (r4.Z.Hi)], .m g19 41 [.bool (r13.Void), .int .i64 (r13.Z.Lo), .int .i64 (r13.Z.Hi), .bool (r16.Void), .int .i64 (r16.Z.Lo), .int .i64 (r16.Z.Hi)], .m g32 3 [.int .i64 (1)], e45, e46, e115, .r (A113) ((r108.D).length) (c114) 3 1 ((r108.D).flatMap e_i64)] : List Ent)) (by exact (SubE.cons2 (i := 13) rfl (SubE.cons2 (i := 12) rfl (SubE.cons2 (i := 8) rfl (SubE.cons2 (i := 6) rfl (SubE.cons2 (i := 7) rfl (SubE.cons2 (i := 1) rfl (SubE.cons2 (i := 0) rfl (SubE.nil))))))))) hw1)) rfl ?_) ?_
                rotate_left; exact P_stop
                rintro _ _ hlo ⟨rfl, rfl, -⟩
                refine T_app0 ?_
                refine P_p rfl rfl (Ev_pickT rfl rfl) rfl ?_
                refine P_x rfl (Wx_val (Ev_assign rfl) rfl ?_) ?_
                rotate_left; exact P_stop
                refine P_done ?_
                exact T_metP r120 () hx122 trivial (by exact .cons rfl (.nil)) (by exact .drop 0 rfl (.drop 0 rfl (.drop 0 rfl (.drop 0 rfl (.drop 0 rfl (.drop 0 rfl (.drop 0 rfl (.drop 0 rfl (.drop 0 rfl (.drop 0 rfl (.drop 0 rfl (.drop 0 rfl (.drop 0 rfl (.drop 0 rfl (.refl)))))))))))))))
              · have hx123 := ite_bf h106 hx105
                refine P_skip rfl rfl rfl rfl rfl rfl ?_
                refine P_skipE rfl rfl rfl rfl rfl rfl ?_ ?_
                rotate_left; exact P_stop
                refine P_skipE rfl rfl rfl rfl rfl rfl ?_ ?_
                rotate_left; exact P_stop
                refine P_p rfl rfl (Ev_pickF rfl rfl) rfl ?_
                refine P_x rfl (Wx_val (Ev_assign rfl) rfl ?_) ?_
                rotate_left; exact P_stop
                refine P_done ?_
                exact T_metP false () hx123 trivial (by exact .cons rfl (.nil)) (by exact .drop 0 rfl (.drop 0 rfl (.drop 0 rfl (.drop 0 rfl (.drop 0 rfl (.drop 0 rfl (.drop 0 rfl (.drop 0 rfl (.drop 0 rfl (.drop 0 rfl (.drop 0 rfl (.drop 0 rfl (.refl)))))))))))))
            · have hx124 := ite_f h89 hx88
              refine P_skip rfl rfl rfl rfl rfl rfl ?_
              refine P_skipE rfl rfl rfl rfl rfl rfl ?_ ?_
              rotate_left; exact P_stop
              refine P_skipE rfl rfl rfl rfl rfl rfl ?_ ?_
              rotate_left; exact P_stop
              refine P_p rfl rfl (Ev_pickF rfl rfl) rfl ?_
              refine P_p rfl rfl (Ev_move rfl) rfl ?_
              refine P_skip rfl rfl rfl rfl rfl rfl ?_
              refine P_skipE rfl rfl rfl rfl rfl rfl ?_ ?_
              rotate_left; exact P_stop
              refine P_skipE rfl rfl rfl rfl rfl rfl ?_ ?_
              rotate_left; exact P_stop
              refine P_p rfl rfl (Ev_pickF rfl rfl) rfl ?_
              refine P_x rfl (Wx_val (Ev_assign rfl) rfl ?_) ?_
              rotate_left; exact P_stop
              refine P_done ?_
              exact T_metP false () hx124 trivial (by exact .cons rfl (.nil)) (by exact .drop 0 rfl (.drop 0 rfl (.drop 0 rfl (.drop 0 rfl (.drop 0 rfl (.drop 0 rfl (.drop 0 rfl (.drop 0 rfl (.drop 0 rfl (.drop 0 rfl (.refl)))))))))))
          · have hx125 := ite_f h87 hx78
            refine P_skip rfl rfl rfl rfl rfl rfl ?_
            refine P_skip rfl rfl rfl rfl rfl rfl ?_
            refine P_p rfl rfl (Ev_pickF rfl rfl) rfl ?_
            refine P_p rfl rfl (Ev_move rfl) rfl ?_
            refine P_skip rfl rfl rfl rfl rfl rfl ?_
            refine P_skipE rfl rfl rfl rfl rfl rfl ?_ ?_
            rotate_left; exact P_stop
            refine P_skipE rfl rfl rfl rfl rfl rfl ?_ ?_
            rotate_left; exact P_stop
            refine P_p rfl rfl (Ev_pickF rfl rfl) rfl ?_
            refine P_p rfl rfl (Ev_move rfl) rfl ?_
            refine P_skip rfl rfl rfl rfl rfl rfl ?_
            refine P_skipE rfl rfl rfl rfl rfl rfl ?_ ?_
            rotate_left; exact P_stop
            refine P_skipE rfl rfl rfl rfl rfl rfl ?_ ?_
            rotate_left; exact P_stop
            refine P_p rfl rfl (Ev_pickF rfl rfl) rfl ?_
            refine P_x rfl (Wx_val (Ev_assign rfl) rfl ?_) ?_
            rotate_left; exact P_stop
            refine P_done ?_
            exact T_metP false () hx125 trivial (by exact .cons rfl (.nil)) (by exact .drop 0 rfl (.drop 0 rfl (.drop 0 rfl (.drop 0 rfl (.drop 0 rfl (.drop 0 rfl (.drop 0 rfl (.drop 0 rfl (.drop 0 rfl (.drop 0 rfl (.refl)))))))))))
        · have hx126 := ite_f h74 hx65
          refine P_skip rfl rfl rfl rfl rfl rfl ?_
          refine P_skip rfl rfl rfl rfl rfl rfl ?_
          refine P_skip rfl rfl rfl rfl rfl rfl ?_
          refine P_skip rfl rfl rfl rfl rfl rfl ?_
          refine P_p rfl rfl (Ev_pickF rfl rfl) rfl ?_
          refine P_p rfl rfl (Ev_move rfl) rfl ?_
          refine P_skip rfl rfl rfl rfl rfl rfl ?_
          refine P_skip rfl rfl rfl rfl rfl rfl ?_
          refine P_p rfl rfl (Ev_pickF rfl rfl) rfl ?_
          refine P_p rfl rfl (Ev_move rfl) rfl ?_
          refine P_skip rfl rfl rfl rfl rfl rfl ?_
          refine P_skipE rfl rfl rfl rfl rfl rfl ?_ ?_
          rotate_left; exact P_stop
          refine P_skipE rfl rfl rfl rfl rfl rfl ?_ ?_
          rotate_left; exact P_stop
          refine P_p rfl rfl (Ev_pickF rfl rfl) rfl ?_
          refine P_p rfl rfl (Ev_move rfl) rfl ?_
          refine P_skip rfl rfl rfl rfl rfl rfl ?_
          refine P_skipE rfl rfl rfl rfl rfl rfl ?_ ?_
          rotate_left; exact P_stop
          refine P_skipE rfl rfl rfl rfl rfl rfl ?_ ?_
          rotate_left; exact P_stop
          refine P_p rfl rfl (Ev_pickF rfl rfl) rfl ?_
          refine P_x rfl (Wx_val (Ev_assign rfl) rfl ?_) ?_
          rotate_left; exact P_stop
          refine P_done ?_
          exact T_metP false () hx126 trivial (by exact .cons rfl (.nil)) (by exact .drop 0 rfl (.drop 0 rfl (.drop 0 rfl (.drop 0 rfl (.drop 0 rfl (.drop 0 rfl (.drop 0 rfl (.drop 0 rfl (.drop 0 rfl (.drop 0 rfl (.refl)))))))))))
      · have hx127 := ite_f h61 hx60
        refine P_skip rfl rfl rfl rfl rfl rfl ?_
        refine P_skip rfl rfl rfl rfl rfl rfl ?_
        refine P_skip rfl rfl rfl rfl rfl rfl ?_
        refine P_skip rfl rfl rfl rfl rfl rfl ?_
        refine P_p rfl rfl (Ev_pickF rfl rfl) rfl ?_
        refine P_p rfl rfl (Ev_move rfl) rfl ?_
        refine P_skip rfl rfl rfl rfl rfl rfl ?_
        refine P_skip rfl rfl rfl rfl rfl rfl ?_
        refine P_skip rfl rfl rfl rfl rfl rfl ?_
        refine P_skip rfl rfl rfl rfl rfl rfl ?_
        refine P_p rfl rfl (Ev_pickF rfl rfl) rfl ?_
        refine P_p rfl rfl (Ev_move rfl) rfl ?_
        refine P_skip rfl rfl rfl rfl rfl rfl ?_
        refine P_skip rfl rfl rfl rfl rfl rfl ?_
        refine P_p rfl rfl (Ev_pickF rfl rfl) rfl ?_
        refine P_p rfl rfl (Ev_move rfl) rfl ?_
        refine P_skip rfl rfl rfl rfl rfl rfl ?_
        refine P_skipE rfl rfl rfl rfl rfl rfl ?_ ?_
        rotate_left; exact P_stop
        refine P_skipE rfl rfl rfl rfl rfl rfl ?_ ?_
        rotate_left; exact P_stop
        refine P_p rfl rfl (Ev_pickF rfl rfl) rfl ?_
        refine P_p rfl rfl (Ev_move rfl) rfl ?_
        refine P_skip rfl rfl rfl rfl rfl rfl ?_
        refine P_skipE rfl rfl rfl rfl rfl rfl ?_ ?_
        rotate_left; exact P_stop
        refine P_skipE rfl rfl rfl rfl rfl rfl ?_ ?_
        rotate_left; exact P_stop
        refine P_p rfl rfl (Ev_pickF rfl rfl) rfl ?_
        refine P_x rfl (Wx_val (Ev_assign rfl) rfl ?_) ?_
        rotate_left; exact P_stop
        refine P_done ?_
        exact T_metP false () hx127 trivial (by exact .cons rfl (.nil)) (by exact .drop 0 rfl (.drop 0 rfl (.drop 0 rfl (.drop 0 rfl (.drop 0 rfl (.drop 0 rfl (.drop 0 rfl (.drop 0 rfl (.drop 0 rfl (.drop 0 rfl (.refl)))))))))))
    · have hx128 := ite_f h59 hx36
      refine P_skip rfl rfl rfl rfl rfl rfl ?_
      refine P_skip rfl rfl rfl rfl rfl rfl ?_
      refine P_skip rfl rfl rfl rfl rfl rfl ?_
      refine P_p rfl rfl (Ev_pickF rfl rfl) rfl ?_
      refine P_p rfl rfl (Ev_move rfl) rfl ?_
      refine P_skip rfl rfl rfl rfl rfl rfl ?_
      refine P_skip rfl rfl rfl rfl rfl rfl ?_
      refine P_skip rfl rfl rfl rfl rfl rfl ?_
      refine P_skip rfl rfl rfl rfl rfl rfl ?_
      refine P_p rfl rfl (Ev_pickF rfl rfl) rfl ?_
      refine P_p rfl rfl (Ev_move rfl) rfl ?_
      refine P_skip rfl rfl rfl rfl rfl rfl ?_
      refine P_skip rfl rfl rfl rfl rfl rfl ?_
      refine P_skip rfl rfl rfl rfl rfl rfl ?_
      refine P_skip rfl rfl rfl rfl rfl rfl ?_
      refine P_p rfl rfl (Ev_pickF rfl rfl) rfl ?_
      refine P_p rfl rfl (Ev_move rfl) rfl ?_
      refine P_skip rfl rfl rfl rfl rfl rfl ?_
      refine P_skip rfl rfl rfl rfl rfl rfl ?_
      refine P_p rfl rfl (Ev_pickF rfl rfl) rfl ?_
      refine P_p rfl rfl (Ev_move rfl) rfl ?_
      refine P_skip rfl rfl rfl rfl rfl rfl ?_
      refine P_skipE rfl rfl rfl rfl rfl rfl ?_ ?_
      rotate_left; exact P_stop
      refine P_skipE rfl rfl rfl rfl rfl rfl ?_ ?_
      rotate_left; exact P_stop
      refine P_p rfl rfl (Ev_pickF rfl rfl) rfl ?_
      refine P_p rfl rfl (Ev_move rfl) rfl ?_
      refine P_skip rfl rfl rfl rfl rfl rfl ?_
      refine P_skipE rfl rfl rfl rfl rfl rfl ?_ ?_
      rotate_left; exact P_stop
      refine P_skipE rfl rfl rfl rfl rfl rfl ?_ ?_
      rotate_left; exact P_stop
      refine P_p rfl rfl (Ev_pickF rfl rfl) rfl ?_
      refine P_x rfl (Wx_val (Ev_assign rfl) rfl ?_) ?_
      rotate_left; exact P_stop
      refine P_done ?_
      exact T_metP false () hx128 trivial (by exact .cons rfl (.nil)) (by exact .drop 0 rfl (.drop 0 rfl (.drop 0 rfl (.drop 0 rfl (.drop 0 rfl (.drop 0 rfl (.drop 0 rfl (.drop 0 rfl (.drop 0 rfl (.drop 0 rfl (.refl)))))))))))
end Go.Proofs.Ytjhknbpiaikblaa
