/- Walks of the program, with their plain functions: the reference's regions, the law ModelRegions. -/
import Derived.Test.YtjhknbpiaikblaaM8
namespace Go.Proofs.Ytjhknbpiaikblaa
open Go Go.RowKit
theorem bld95_0i641s2abss3abss (x0 : Int) (x1 : Option Addr) (x2 : Nat) (x3 : Nat) (x4 : Bool) (x5 : Option Addr) (x6 : Nat) (x7 : Nat) (x8 : Option Addr) (x9 : Nat) (x10 : Nat) (x11 : Bool) (x12 : Option Addr) (x13 : Nat) (x14 : Nat) (x15 : Option Addr) (x16 : Nat) (x17 : Nat) : BuildOf Try.prog 95 [(0, .int .i64 x0), (1, .slice x1 x2 x3), (2, .agg #[.bool x4, .slice x5 x6 x7, .slice x8 x9 x10]), (3, .agg #[.bool x11, .slice x12 x13 x14, .slice x15 x16 x17])] [.int .i64 x0, .slice x1 x2 x3, .bool x4, .slice x5 x6 x7, .slice x8 x9 x10, .bool x11, .slice x12 x13 x14, .slice x15 x16 x17] := fun w => by kernel_rfl
theorem slc88 : SliceOf Try.prog 88 95 8 := .mk Try.underlying88 (show Try.prog.info? 95 = some Try.t95 from by kernel_rfl) (by kernel_rfl)
theorem fld95_0 : FieldOf Try.prog 95 0 0 := .mk Try.underlying95 rfl rfl (show Try.prog.info? 3 = some Try.t3 from by kernel_rfl) (show Try.t3.size = 1 from by kernel_rfl) rfl
theorem fld95_1 : FieldOf Try.prog 95 1 1 := .mk Try.underlying95 rfl rfl (show Try.prog.info? 27 = some Try.t27 from by kernel_rfl) (show Try.t27.size = 1 from by kernel_rfl) rfl
noncomputable def lidarref09_State (p0 : S_api_Cell) (p1 : S_api_Cell) : Option Int :=
 jn (fun (s3 : Bool) =>
 if s3 = true then (some 2)
 else (if p0.Z.Hi < p1.Z.Lo then (some 1)
 else (if p1.Z.Hi < p0.Z.Lo then (some (-1))
 else (some 0))))
 (fun j3 => if p0.Void = true then (j3 true)
 else (j3 p1.Void))
noncomputable def lidarref09_Changed_l3 (p0 : S_api_Grid) (p1 : S_api_Grid) : ((List Int) × Int) → Option (Sum ((List Int) × Int) (List Int)) := fun s58 =>
 if s58.2 < ((((s58.1).length : Nat) : Int)) then (jn (fun (s12 : List Int) =>
 some (.inl (s12, w64 (s58.2 + 1))))
 (fun j12 => bnd (idx p0.Cells s58.2) fun x62 =>
 bnd (idx p1.Cells s58.2) fun x73 =>
 bnd (lidarref09_State x62 x73) fun r84 =>
 jn (fun (s14 : Bool) =>
 if s14 = true then (bnd (idx s58.1 s58.2) fun x94 =>
 j12 (setI s58.1 s58.2 r84))
 else (j12 s58.1))
 (fun j14 => if r84 = 1 then (j14 true)
 else (j14 (decide (r84 = (-1)))))))
 else (some (.inr s58.1))
noncomputable def lidarref09_Changed_l12 (r114 : List (List Int)) (p2 : Int) (s3 : List Int) : ((List (List Int)) × (List Int) × Int) → Option (Sum ((List (List Int)) × (List Int) × Int) ((List (List Int)) × (List Int))) := fun s311 =>
 if s311.2.2 < ((((r114).length : Nat) : Int)) then (jn (fun (s32 : (List (List Int)) × (List Int)) =>
 some (.inl (s32.1, s32.2, w64 (s311.2.2 + 1))))
 (fun j32 => bnd (idx r114 s311.2.2) fun x318 =>
 if p2 ≤ ((((x318).length : Nat) : Int)) then (bnd (idx r114 s311.2.2) fun x335 =>
 gd (((s311.1).length + 1) * 24 ≤ 140737488355328) <|
 bnd (idx r114 s311.2.2) fun x356 =>
 bnd (idx x356 0) fun x371 =>
 bnd (idx s3 x371) fun x381 =>
 gd (((s311.2.1).length + 1) * 8 ≤ 140737488355328) <|
 j32 (s311.1 ++ [x335], s311.2.1 ++ [x381]))
 else (j32 (s311.1, s311.2.1))))
 else (some (.inr (s311.1, s311.2.1)))
noncomputable def lidarref09_Changed (p0 : S_api_Grid) (p1 : S_api_Grid) (p2 : Int) : Option ((List (List Int)) × (List Int)) :=
 gd ((0 : Int) ≤ ((((p0.Cells).length : Nat) : Int)) ∧ 8 * Int.toNat ((((p0.Cells).length : Nat) : Int)) ≤ 140737488355328) <|
 jn (fun (s3 : List Int) =>
 bnd (lidarref09_groups p0.Raster s3) fun r114 =>
 jn (fun (s18 : (List (List Int)) × (List Int)) =>
 some (s18.1, s18.2))
 (fun j18 => bnd (lfix (lidarref09_Changed_l12 r114 p2 s3) (([] : List (List Int)), ([] : List Int), 0)) fun t311 =>
 j18 t311))
 (fun j3 => bnd (lfix (lidarref09_Changed_l3 p0 p1) (List.replicate (Int.toNat ((((p0.Cells).length : Nat) : Int))) (0 : Int), 0)) fun t58 =>
 j3 t58)
noncomputable def lidarref09_Regions_l9 (r12 : (List (List Int)) × (List Int)) (p0 : S_api_Grid) (p1 : S_api_Grid) : ((List S_api_Region) × Int) → Option (Sum ((List S_api_Region) × Int) (List S_api_Region)) := fun s483 =>
 if s483.2 < ((((r12.1).length : Nat) : Int)) then (jn (fun (s28 : Bool × (List Int) × (List Int) × Bool × (List Int) × (List Int)) =>
 bnd (lidarref01_Out (⟨(⟨s28.1, s28.2.1⟩ : S_lidarref01_Int), s28.2.2.1⟩ : S_lidarref01_Q)) fun r650 =>
 bnd (lidarref01_Out (⟨(⟨s28.2.2.2.1, s28.2.2.2.2.1⟩ : S_lidarref01_Int), s28.2.2.2.2.2⟩ : S_lidarref01_Q)) fun r660 =>
 bnd (idx r12.2 s483.2) fun x668 =>
 bnd (idx r12.1 s483.2) fun x679 =>
 gd (((s483.1).length + 1) * 144 ≤ 140737488355328) <|
 some (.inl (s483.1 ++ [(⟨x668, x679, r650.1, r660.1⟩ : S_api_Region)], w64 (s483.2 + 1))))
 (fun j28 => bnd (idx r12.1 s483.2) fun x489 =>
 bnd (lidarref09_Amount p0 p1 x489) fun r505 =>
 j28 (r505.1.N.Neg, r505.1.N.L, r505.1.D, r505.2.N.Neg, r505.2.N.L, r505.2.D)))
 else (some (.inr s483.1))
noncomputable def lidarref09_Regions (p0 : S_api_Grid) (p1 : S_api_Grid) (p2 : Int) : Option ((List S_api_Region) × Int) :=
 bnd (lidarref09_Pair p0 p1) fun r3 =>
 if r3 = 0 then (if p2 < 1 then (some (([] : List S_api_Region), 2))
 else (bnd (lidarref09_Changed p0 p1 p2) fun r12 =>
 jn (fun (s11 : List S_api_Region) =>
 some (s11, 0))
 (fun j11 => bnd (lfix (lidarref09_Regions_l9 r12 p0 p1) (([] : List S_api_Region), 0)) fun t483 =>
 j11 t483)))
 else (some (([] : List S_api_Region), r3))
noncomputable def lidarlaw09_ModelRegions_l11 (r20 : (List S_api_Region) × Int) (r33 : (List S_api_Region) × Int) (r68 : (List (List Int)) × (List Int)) (p0 : S_api_Grid) (p1 : S_api_Grid) : Int → Option (Sum Int (Sum Unit Bool)) := fun s445 =>
 if s445 < ((((r20.1).length : Nat) : Int)) then (jn (fun (s25 : Bool × (List Int) × (List Int) × Bool × (List Int) × (List Int)) =>
 jn (fun (s26 : Bool) =>
 if s26 = true then (some (.inr (.inr (false))))
 else (some (.inl (w64 (s445 + 1)))))
 (fun j26 => bnd (idx r20.1 s445) fun x608 =>
 bnd (idx r33.1 s445) fun x636 =>
 if x608.State = x636.State then (bnd (idx r20.1 s445) fun x667 =>
 bnd (idx r33.1 s445) fun x695 =>
 bnd (lidarlaw09_sameInts x667.Nodes x695.Nodes) fun r723 =>
 if r723 = true then (bnd (idx r20.1 s445) fun x729 =>
 bnd (lidarref01_Same x729.Lo (⟨(⟨s25.1, s25.2.1⟩ : S_lidarref01_Int), s25.2.2.1⟩ : S_lidarref01_Q)) fun r759 =>
 if r759 = true then (bnd (idx r20.1 s445) fun x765 =>
 bnd (lidarref01_Same x765.Hi (⟨(⟨s25.2.2.2.1, s25.2.2.2.2.1⟩ : S_lidarref01_Int), s25.2.2.2.2.2⟩ : S_lidarref01_Q)) fun r795 =>
 j26 (!(r795)))
 else (j26 true))
 else (j26 true))
 else (j26 true)))
 (fun j25 => bnd (idx r68.1 s445) fun x449 =>
 bnd (lidarref09_Amount p0 p1 x449) fun r465 =>
 j25 (r465.1.N.Neg, r465.1.N.L, r465.1.D, r465.2.N.Neg, r465.2.N.L, r465.2.D)))
 else (some (.inr (.inl ())))
noncomputable def lidarlaw09_ModelRegions (p0 : S_api_Grid) (p1 : S_api_Grid) (p2 : Int) : Option Bool :=
 jn (fun (s3 : Bool) =>
 if s3 = true then (bnd (lidarlaw09_first) fun r16 =>
 some r16)
 else (bnd (model_Regions p0 p1 p2) fun r20 =>
 bnd (lidarref09_Regions p0 p1 p2) fun r33 =>
 jn (fun (s8 : Bool) =>
 if s8 = true then (some false)
 else (if r20.2 = 0 then (bnd (lidarref09_Changed p0 p1 p2) fun r68 =>
 jn (fun (s14 : Unit) =>
 bnd (lidarlaw09_first) fun r805 =>
 some r805)
 (fun j14 => bnd (lfix (lidarlaw09_ModelRegions_l11 r20 r33 r68 p0 p1) 0) fun t445 =>
 (match t445 with
 | (.inl z445) => j14 z445
 | (.inr (z445)) => some z445
 )))
 else (bnd (lidarlaw09_first) fun r64 =>
 some r64)))
 (fun j8 => if r20.2 = r33.2 then (j8 (!(decide (((((r20.1).length : Nat) : Int)) = ((((r33.1).length : Nat) : Int))))))
 else (j8 true))))
 (fun j3 => bnd (lidarlaw09_heavy p0) fun r3 =>
 if r3 = true then (j3 true)
 else (bnd (lidarlaw09_heavy p1) fun r9 =>
 j3 r9))
set_option maxRecDepth 100000 in
theorem lidarref09_State_ok (p0 : S_api_Cell) (p1 : S_api_Cell)  {r : Int} (hx : lidarref09_State p0 p1 = some r) (w : World) : CtL Try.prog 35 [.agg #[.bool (p0.Void), .int .i64 (p0.Z.Lo), .int .i64 (p0.Z.Hi)], .agg #[.bool (p1.Void), .int .i64 (p1.Z.Lo), .int .i64 (p1.Z.Hi)]] w fun v Ln => v = .int .i64 (r) ∧ Ln = [] ∧ True := by
  refine CtL.mk 28 Try.func35 rfl Try.ntmps35 (by kernel_rfl) rfl ?_
  show T 28 _ [(0, .agg #[.bool (p0.Void), .int .i64 (p0.Z.Lo), .int .i64 (p0.Z.Hi)]), (1, .agg #[.bool (p1.Void), .int .i64 (p1.Z.Lo), .int .i64 (p1.Z.Hi)])] _
  unfold lidarref09_State at hx
  refine T_seq ?_
  refine T_reg ?_
  refine T_x (Wx_box rfl rfl rfl (fun g1 => ?_))
  refine T_x (Wx_box rfl rfl rfl (fun g2 => ?_))
  refine T_val (Ev_assign rfl) rfl ?_
  refine T_nil ?_
  refine T_next ?_
  refine T_seq ?_
  refine T_block ?_
  obtain ⟨j3, hj3, hx⟩ := jn_some hx
  refine T_cutP (τ := Bool) (γ := Unit) (J := j3) (out := r) (fun s3 y3 => [(2, .pointer (some ⟨g1, 0, none⟩)), (3, .pointer (some ⟨g2, 0, none⟩)), (5, .bool (s3))]) (fun s3 y3 => [.m g2 41 [.bool (p1.Void), .int .i64 (p1.Z.Lo), .int .i64 (p1.Z.Hi)], .m g1 41 [.bool (p0.Void), .int .i64 (p0.Z.Lo), .int .i64 (p0.Z.Hi)]] ++ [.old w]) (fun s3 y3 => True) ?_ ?_
  · intro s3 y3 hx6 hG7
    subst hj3
    refine T_caseB (s := 5) rfl (fun h8 => ?_) (fun h8 => ?_)
    · have hx9 := ite_t h8 hx6
      refine T_condT rfl ?_
      refine T_seq ?_
      refine T_reg ?_
      refine T_val (Ev_assign rfl) rfl ?_
      refine T_nil ?_
      refine T_next ?_
      refine T_retc ?_
      refine T_inR ?_
      refine T_outR ?_
      obtain rfl := Option.some.inj hx9
      exact T_retP (rs := [.tmp 4]) Try.results35 (.tmp rfl (.nil)) (Ln := []) ⟨rfl, rfl, trivial⟩ (loNil) (by exact .drop 0 rfl (.drop 0 rfl (.refl)))
    · have hx10 := ite_bf h8 hx6
      refine T_condF rfl ?_
      refine T_seq ?_
      refine T_reg ?_
      refine T_val (Ev_field rfl fld41_1 rfl) rfl ?_
      refine T_val (Ev_field rfl fld39_0 rfl) rfl ?_
      refine T_val (Ev_load1 rfl (i := 0) rfl rfl one3) rfl ?_
      refine T_val (Ev_field rfl fld41_1 rfl) rfl ?_
      refine T_val (Ev_field rfl fld39_1 rfl) rfl ?_
      refine T_val (Ev_load1 rfl (i := 1) rfl rfl one3) rfl ?_
      refine T_val (Ev_gtr rfl rfl) rfl ?_
      refine T_val (Ev_assign rfl) rfl ?_
      refine T_nil ?_
      refine T_next ?_
      refine T_caseP (s := 12) rfl (fun h11 => ?_) (fun h11 => ?_)
      · have hx12 := ite_t h11 hx10
        refine T_condT rfl ?_
        refine T_seq ?_
        refine T_reg ?_
        refine T_val (Ev_assign rfl) rfl ?_
        refine T_nil ?_
        refine T_next ?_
        refine T_retc ?_
        refine T_inR ?_
        refine T_outR ?_
        obtain rfl := Option.some.inj hx12
        exact T_retP (rs := [.tmp 4]) Try.results35 (.tmp rfl (.nil)) (Ln := []) ⟨rfl, rfl, trivial⟩ (loNil) (by exact .drop 0 rfl (.drop 0 rfl (.refl)))
      · have hx13 := ite_f h11 hx10
        refine T_condF rfl ?_
        refine T_seq ?_
        refine T_reg ?_
        refine T_val (Ev_field rfl fld41_1 rfl) rfl ?_
        refine T_val (Ev_field rfl fld39_1 rfl) rfl ?_
        refine T_val (Ev_load1 rfl (i := 0) rfl rfl one3) rfl ?_
        refine T_val (Ev_field rfl fld41_1 rfl) rfl ?_
        refine T_val (Ev_field rfl fld39_0 rfl) rfl ?_
        refine T_val (Ev_load1 rfl (i := 1) rfl rfl one3) rfl ?_
        refine T_val (Ev_lss rfl rfl) rfl ?_
        refine T_val (Ev_assign rfl) rfl ?_
        refine T_nil ?_
        refine T_next ?_
        refine T_caseP (s := 20) rfl (fun h14 => ?_) (fun h14 => ?_)
        · have hx15 := ite_t h14 hx13
          refine T_condT rfl ?_
          refine T_seq ?_
          refine T_reg ?_
          refine T_val (Ev_assign rfl) rfl ?_
          refine T_nil ?_
          refine T_next ?_
          refine T_retc ?_
          refine T_inR ?_
          refine T_outR ?_
          obtain rfl := Option.some.inj hx15
          exact T_retP (rs := [.tmp 4]) Try.results35 (.tmp rfl (.nil)) (Ln := []) ⟨rfl, rfl, trivial⟩ (loNil) (by exact .drop 0 rfl (.drop 0 rfl (.refl)))
        · have hx16 := ite_f h14 hx13
          refine T_condF rfl ?_
          refine T_skip ?_
          refine T_inN ?_
          refine T_next ?_
          refine T_seq ?_
          refine T_reg ?_
          refine T_val (Ev_assign rfl) rfl ?_
          refine T_nil ?_
          refine T_next ?_
          refine T_retc ?_
          obtain rfl := Option.some.inj hx16
          exact T_retP (rs := [.tmp 4]) Try.results35 (.tmp rfl (.nil)) (Ln := []) ⟨rfl, rfl, trivial⟩ (loNil) (by exact .drop 0 rfl (.drop 0 rfl (.refl)))
  · skip
    refine T_reg ?_
    refine T_val (Ev_field rfl fld41_0 rfl) rfl ?_
    refine T_val (Ev_load1 rfl (i := 1) rfl rfl one4) rfl ?_
    refine T_val (Ev_move rfl) rfl ?_
    refine T_caseB (s := 8) rfl (fun h3 => ?_) (fun h3 => ?_)
    · have hx4 := ite_t h3 hx
      refine T_skipG rfl rfl rfl rfl rfl ?_
      refine T_skipG rfl rfl rfl rfl rfl ?_
      refine T_val (Ev_pickT rfl rfl) rfl ?_
      refine T_val (Ev_assign rfl) rfl ?_
      refine T_nil ?_
      exact T_metP true () hx4 trivial (by exact .cons rfl (.cons rfl (.cons rfl (.nil)))) (by exact .pick 0 rfl (.pick 0 rfl (.refl)))
    · have hx5 := ite_bf h3 hx
      refine T_valG rfl rfl rfl (Ev_field rfl fld41_0 rfl) rfl ?_
      refine T_valG rfl rfl rfl (Ev_load1 rfl (i := 0) rfl rfl one4) rfl ?_
      refine T_val (Ev_pickF rfl rfl) rfl ?_
      refine T_val (Ev_assign rfl) rfl ?_
      refine T_nil ?_
      exact T_metP p1.Void () hx5 trivial (by exact .cons rfl (.cons rfl (.cons rfl (.nil)))) (by exact .pick 0 rfl (.pick 0 rfl (.refl)))
set_option maxRecDepth 100000 in
theorem lidarref09_Changed_ok (p0 : S_api_Grid) (p1 : S_api_Grid) (p2 : Int) {K : List Ent} {A0_0 : Option Addr} {c0_0 : Nat} {A0_1 : Option Addr} {c0_1 : Nat} (ha0 : Has K A0_0 (p0.Cells).length c0_0 3 e_api_Cell (p0.Cells)) (ha1 : Has K A0_1 (p1.Cells).length c0_1 3 e_api_Cell (p1.Cells)) {r : (List (List Int)) × (List Int)} (hx : lidarref09_Changed p0 p1 p2 = some r) (w : World) (hK : ∀ e ∈ K, Ent.ok w e) : CtL Try.prog 54 [.agg #[.int .i64 (p0.Raster.X0), .int .i64 (p0.Raster.Y0), .int .i64 (p0.Raster.Step), .int .i64 (p0.Raster.NX), .int .i64 (p0.Raster.NY), .slice (A0_0) ((p0.Cells).length) (c0_0)], .agg #[.int .i64 (p1.Raster.X0), .int .i64 (p1.Raster.Y0), .int .i64 (p1.Raster.Step), .int .i64 (p1.Raster.NX), .int .i64 (p1.Raster.NY), .slice (A0_1) ((p1.Cells).length) (c0_1)], .int .i64 (p2)] w fun v Ln => ∃ (A0 : Option Addr) (c0 : Nat) (A2 : Option Addr) (c2 : Nat) (e0 : Ent) (e1 : Ent) (e2 : Ent) (e3 : Ent) (e4 : Ent), v = .tuple #[.slice (A0) ((r.1).length) (c0), .slice (A2) ((r.2).length) (c2)] ∧ Ln = [.r A2 (r.2).length c2 3 1 ((r.2).flatMap e_i64), e0, e1, e2, e3, e4] ∧ HasN (K ++ [e0, e1, e2, e3, e4]) A0 (r.1).length c0 1 n_List_Int (r.1) ∧ True := by
  have ha0' := Has.up0 ha0
  have ha1' := Has.up0 ha1
  refine CtL.mk 84 Try.func54 rfl Try.ntmps54 (by kernel_rfl) rfl ?_
  show T 84 _ [(0, .agg #[.int .i64 (p0.Raster.X0), .int .i64 (p0.Raster.Y0), .int .i64 (p0.Raster.Step), .int .i64 (p0.Raster.NX), .int .i64 (p0.Raster.NY), .slice (A0_0) ((p0.Cells).length) (c0_0)]), (1, .agg #[.int .i64 (p1.Raster.X0), .int .i64 (p1.Raster.Y0), .int .i64 (p1.Raster.Step), .int .i64 (p1.Raster.NX), .int .i64 (p1.Raster.NY), .slice (A0_1) ((p1.Cells).length) (c0_1)]), (2, .int .i64 (p2))] _
  unfold lidarref09_Changed at hx
  refine T_seq ?_
  refine T_reg ?_
  refine T_x (Wx_box rfl rfl rfl (fun g1 => ?_))
  refine T_x (Wx_box rfl rfl rfl (fun g2 => ?_))
  refine T_val (Ev_assign rfl) rfl ?_
  refine T_val (Ev_assign rfl) rfl ?_
  refine T_nil ?_
  refine T_next ?_
  refine T_seq ?_
  refine T_reg ?_
  refine T_val (Ev_field rfl fld26_1 rfl) rfl ?_
  refine T_val (Ev_load1 rfl (i := 1) rfl rfl one24) rfl ?_
  refine T_val (Ev_len rfl 41 Try.underlying24) rfl ?_
  obtain ⟨h4, hx5⟩ := gd_some hx
  refine T_x (Wx_makeP e_i64 (0) (z := .int .i64 (0)) rfl rfl rfl h4.1 Try.underlying27 (show Try.prog.info? 3 = some Try.t3 from by kernel_rfl) (by kernel_rfl) rfl rfl (by kernel_rfl) (show 8 * _ ≤ _ from h4.2) (by decide) rfl (fun A3 => ?_))
  refine T_val (Ev_assign rfl) rfl ?_
  refine T_nil ?_
  refine T_next ?_
  obtain ⟨j3, hj3, hx5⟩ := jn_some hx5
  refine T_cutP (τ := List Int) (γ := (Option Addr) × Nat) (J := j3) (out := r) (fun s3 y3 => [(2, .int .i64 (p2)), (3, .pointer (some ⟨g1, 0, none⟩)), (8, .slice (y3.1) ((s3).length) (y3.2))]) (fun s3 y3 => [.r (y3.1) ((s3).length) (y3.2) 3 1 ((s3).flatMap e_i64), .m g1 26 [.int .i64 (p0.Raster.X0), .int .i64 (p0.Raster.Y0), .int .i64 (p0.Raster.Step), .int .i64 (p0.Raster.NX), .int .i64 (p0.Raster.NY), .slice (A0_0) ((p0.Cells).length) (c0_0)]] ++ [.old w]) (fun s3 y3 => True) ?_ ?_
  · intro s3 y3 hx110 hG111
    subst hj3
    refine T_seq ?_
    refine T_reg ?_
    refine T_val (Ev_field rfl fld26_0 rfl) rfl ?_
    refine T_val (Ev_loadK rfl (i := 1) rfl rfl agg23) rfl ?_
    refine T_val (Ev_move rfl) rfl ?_
    refine T_rowP (k := 0) rfl (by decide) (fun _ => rfl) (fun hn112 hs113 => ?_)
    obtain ⟨r114, h115, hx116⟩ := bnd_some hx110
    refine T_x (Wx_callL rfl (fun w1 hw1 => lidarref09_groups_ok p0.Raster s3 (Has.len' hs113) h115 w1 (okAll (K := ([.r (y3.1) ((s3).length) (y3.2) 3 1 ((s3).flatMap e_i64)] : List Ent)) (by exact (SubE.cons2 (i := 0) rfl (SubE.nil))) hw1)) rfl ?_)
    rintro _ _ hlo ⟨A117, c118, e119, e120, rfl, rfl, hs121, -⟩
    have lo122 := hlo e119 (by simp)
    have lo123 := hlo e120 (by simp)
    refine T_app2 ?_
    have hs124 : HasN ([.r (y3.1) ((s3).length) (y3.2) 3 1 ((s3).flatMap e_i64), e119, e120] : List Ent) _ _ _ _ _ _ := id hs121
    refine T_val (Ev_assign rfl) rfl ?_
    refine T_nil ?_
    refine T_next ?_
    refine T_seq ?_
    refine T_reg ?_
    refine T_val (Ev_assign rfl) rfl ?_
    refine T_nil ?_
    refine T_next ?_
    refine T_seq ?_
    refine T_reg ?_
    refine T_val (Ev_assign rfl) rfl ?_
    refine T_nil ?_
    refine T_next ?_
    obtain ⟨j18, hj18, hx116⟩ := jn_some hx116
    refine T_cutP (τ := (List (List Int)) × (List Int)) (γ := (List (Vec 1)) × (Option Addr) × Nat × Ent × (Option Addr) × Nat) (J := j18) (out := r) (fun s18 y18 => [(12, .slice (y18.2.1) ((s18.1).length) (y18.2.2.1)), (13, .slice (y18.2.2.2.2.1) ((s18.2).length) (y18.2.2.2.2.2))]) (fun s18 y18 => [y18.2.2.2.1, .r (y18.2.1) ((s18.1).length) (y18.2.2.1) 27 1 ((y18.1).flatMap cellsV), .r (y18.2.2.2.2.1) ((s18.2).length) (y18.2.2.2.2.2) 3 1 ((s18.2).flatMap e_i64), e119, e120, .r (y3.1) ((s3).length) (y3.2) 3 1 ((s3).flatMap e_i64)] ++ [.old w]) (fun s18 y18 => y18.2.2.2.1.low = 0 ∧ RowN ([.r (y3.1) ((s3).length) (y3.2) 3 1 ((s3).flatMap e_i64), e119, e120, y18.2.2.2.1] : List Ent) n_List_Int (y18.1) (s18.1) ∧ True) ?_ ?_
    · intro s18 y18 hx404 hG405
      obtain ⟨lo406, hr407, -⟩ := hG405
      subst hj18
      refine T_seq ?_
      refine T_reg ?_
      refine T_val (Ev_move rfl) rfl ?_
      refine T_val (Ev_move rfl) rfl ?_
      refine T_val (Ev_assign rfl) rfl ?_
      refine T_val (Ev_assign rfl) rfl ?_
      refine T_nil ?_
      refine T_next ?_
      refine T_retc ?_
      refine T_rowP (k := 1) rfl (by decide) (fun x => x.2) (fun hn408 hs409 => ?_)
      have hs410 : HasN ([.r (y18.2.1) ((s18.1).length) (y18.2.2.1) 27 1 ((y18.1).flatMap cellsV), .r (y3.1) ((s3).length) (y3.2) 3 1 ((s3).flatMap e_i64), e119, e120, y18.2.2.2.1] : List Ent) _ _ _ _ _ _ := HasN.ofRowN (Has.up (L := ([.r (y18.2.1) ((s18.1).length) (y18.2.2.1) 27 1 ((y18.1).flatMap cellsV), .r (y3.1) ((s3).length) (y3.2) 3 1 ((s3).flatMap e_i64), e119, e120, y18.2.2.2.1] : List Ent)) hs409 (SubE.cons2 (i := 0) rfl (SubE.nil))) (RowN.up (R := n_List_Int) (L := ([.r (y18.2.1) ((s18.1).length) (y18.2.2.1) 27 1 ((y18.1).flatMap cellsV), .r (y3.1) ((s3).length) (y3.2) 3 1 ((s3).flatMap e_i64), e119, e120, y18.2.2.2.1] : List Ent)) n_List_Int_mono hr407 (SubE.cons2 (i := 1) rfl (SubE.cons2 (i := 2) rfl (SubE.cons2 (i := 3) rfl (SubE.cons2 (i := 4) rfl (SubE.nil))))))
      obtain rfl := Option.some.inj hx404
      exact T_retP (rs := [.tmp 6, .tmp 7]) Try.results54 (.tmp rfl (.tmp rfl (.nil))) (Ln := [.r (y18.2.2.2.2.1) ((s18.2).length) (y18.2.2.2.2.2) 3 1 ((s18.2).flatMap e_i64), .r (y18.2.1) ((s18.1).length) (y18.2.2.1) 27 1 ((y18.1).flatMap cellsV), .r (y3.1) ((s3).length) (y3.2) 3 1 ((s3).flatMap e_i64), e119, e120, y18.2.2.2.1]) ⟨y18.2.1, y18.2.2.1, y18.2.2.2.2.1, y18.2.2.2.2.2, (.r (y18.2.1) ((s18.1).length) (y18.2.2.1) 27 1 ((y18.1).flatMap cellsV)), (.r (y3.1) ((s3).length) (y3.2) 3 1 ((s3).flatMap e_i64)), e119, e120, y18.2.2.2.1, rfl, rfl, HasN.len' (HasN.up (L := (K ++ [.r (y18.2.1) ((s18.1).length) (y18.2.2.1) 27 1 ((y18.1).flatMap cellsV), .r (y3.1) ((s3).length) (y3.2) 3 1 ((s3).flatMap e_i64), e119, e120, y18.2.2.2.1])) n_List_Int_mono hs410 (SubE.appR2 (SubE.cons2 (i := 0) rfl (SubE.cons2 (i := 1) rfl (SubE.cons2 (i := 2) rfl (SubE.cons2 (i := 3) rfl (SubE.cons2 (i := 4) rfl (SubE.nil)))))))), trivial⟩ (loCons rfl (loCons rfl (loCons rfl (loCons lo122 (loCons lo123 (loCons lo406 (loNil))))))) (by exact .pick 2 rfl (.pick 1 rfl (.pick 3 rfl (.pick 1 rfl (.pick 1 rfl (.pick 0 rfl (.refl)))))))
    · skip
      refine T_seq ?_
      refine T_reg ?_
      refine T_val (Ev_assign rfl) rfl ?_
      refine T_nil ?_
      refine T_next ?_
      refine T_block ?_
      obtain ⟨t311, hl311, ho311⟩ := bnd_some hx116
      refine T_none 0 1 ?_
      refine T_none 27 1 ?_
      refine T_none 3 1 ?_
      have hn312 : 0 = (([] : List Int)).length := by simp [setI_len, cpy_len, List.length_append] <;> omega
      refine T_ent (.here) (e' := .r (none) ((([] : List Int)).length) (0) 3 1 ((([] : List Int)).flatMap e_i64)) (by first | (rw [← hn312]; done) | rfl) ?_
      refine T_loopP (σ := (List (List Int)) × (List Int) × Int) (γ := (List (Vec 1)) × (Option Addr) × Nat × Ent × (Option Addr) × Nat) hl311 (fun s311 y311 => [(2, .int .i64 (p2)), (8, .slice (y3.1) ((s3).length) (y3.2)), (11, .slice (A117) ((r114).length) (c118)), (12, .slice (y311.2.1) ((s311.1).length) (y311.2.2.1)), (13, .slice (y311.2.2.2.2.1) ((s311.2.1).length) (y311.2.2.2.2.2)), (14, .int .i64 (s311.2.2))]) (fun s311 y311 => [y311.2.2.2.1, .r (y311.2.1) ((s311.1).length) (y311.2.2.1) 27 1 ((y311.1).flatMap cellsV), .r (y311.2.2.2.2.1) ((s311.2.1).length) (y311.2.2.2.2.2) 3 1 ((s311.2.1).flatMap e_i64), e119, e120, .r (y3.1) ((s3).length) (y3.2) 3 1 ((s3).flatMap e_i64)] ++ [.old w]) (fun s311 y311 => y311.2.2.2.1.low = 0 ∧ RowN ([.r (y3.1) ((s3).length) (y3.2) 3 1 ((s3).flatMap e_i64), e119, e120, y311.2.2.2.1] : List Ent) n_List_Int (y311.1) (s311.1) ∧ True) (([] : List (Vec 1)), none, 0, .r none 0 0 0 1 [], none, 0) ((by exact ⟨rfl, RowN.nil, trivial⟩)) (by exact .cons rfl (.cons rfl (.cons rfl (.cons rfl (.cons rfl (.cons rfl (.nil))))))) (by exact .pick 2 rfl (.pick 1 rfl (.pick 0 rfl (.pick 0 rfl (.pick 0 rfl (.pick 0 rfl (.drop 0 rfl (.refl)))))))) ?_
      intro s311 y311 hG311 x311 hx311 ht311
      unfold lidarref09_Changed_l12 at hx311
      obtain ⟨lo313, hr314, -⟩ := hG311
      refine T_seq ?_
      refine T_seq ?_
      refine T_reg ?_
      refine T_val (Ev_move rfl) rfl ?_
      refine T_val (Ev_move rfl) rfl ?_
      refine T_val (Ev_len rfl 27 Try.underlying91) rfl ?_
      refine T_val (Ev_lss rfl rfl) rfl ?_
      refine T_nil ?_
      refine T_next ?_
      refine T_caseP (s := 53) rfl (fun h315 => ?_) (fun h315 => ?_)
      · have hx316 := ite_t h315 hx311
        refine T_condT rfl ?_
        refine T_skip ?_
        refine T_next ?_
        obtain ⟨j32, hj32, hx316⟩ := jn_some hx316
        refine T_cutP (τ := (List (List Int)) × (List Int)) (γ := (List (Vec 1)) × (Option Addr) × Nat × Ent × (Option Addr) × Nat) (J := j32) (out := x311) (fun s32 y32 => [(2, .int .i64 (p2)), (8, .slice (y3.1) ((s3).length) (y3.2)), (11, .slice (A117) ((r114).length) (c118)), (12, .slice (y32.2.1) ((s32.1).length) (y32.2.2.1)), (13, .slice (y32.2.2.2.2.1) ((s32.2).length) (y32.2.2.2.2.2)), (14, .int .i64 (s311.2.2))]) (fun s32 y32 => [y32.2.2.2.1, y311.2.2.2.1, .r (y32.2.1) ((s32.1).length) (y32.2.2.1) 27 1 ((y32.1).flatMap cellsV), .r (y32.2.2.2.2.1) ((s32.2).length) (y32.2.2.2.2.2) 3 1 ((s32.2).flatMap e_i64), e119, e120, .r (y3.1) ((s3).length) (y3.2) 3 1 ((s3).flatMap e_i64)] ++ [.old w]) (fun s32 y32 => y32.2.2.2.1.low = 0 ∧ RowN ([.r (y3.1) ((s3).length) (y3.2) 3 1 ((s3).flatMap e_i64), e119, e120, y311.2.2.2.1, y32.2.2.2.1] : List Ent) n_List_Int (y32.1) (s32.1) ∧ True) ?_ ?_
        · intro s32 y32 hx398 hG399
          obtain ⟨lo400, hr401, -⟩ := hG399
          subst hj32
          refine T_reg ?_
          refine T_val (Ev_move rfl) rfl ?_
          refine T_val (Ev_add_w64 rfl rfl) rfl ?_
          refine T_val (Ev_assign rfl) rfl ?_
          refine T_nil ?_
          refine T_bundle (es := [y311.2.2.2.1, y32.2.2.2.1]) (by exact .pick 1 rfl (.pick 0 rfl (.refl))) (loCons lo313 (loCons lo400 (loNil))) ?_
          exact T_roundP (s32.1, s32.2, w64 (s311.2.2 + 1)) (y32.1, y32.2.1, y32.2.2.1, bun [y311.2.2.2.1, y32.2.2.2.1], y32.2.2.2.2.1, y32.2.2.2.2.2) hx398 ((by exact ⟨rfl, (RowN.up (R := n_List_Int) (L := ([.r (y3.1) ((s3).length) (y3.2) 3 1 ((s3).flatMap e_i64), e119, e120, (bun [y311.2.2.2.1, y32.2.2.2.1])] : List Ent)) n_List_Int_mono hr401 (SubE.cons2 (i := 0) rfl (SubE.cons2 (i := 1) rfl (SubE.cons2 (i := 2) rfl (SubE.consB (i := 3) (j := 0) rfl rfl (SubE.consB (i := 3) (j := 1) rfl rfl (SubE.nil))))))), trivial⟩)) (by exact .cons rfl (.cons rfl (.cons rfl (.cons rfl (.cons rfl (.cons rfl (.nil))))))) (by exact .pick 0 rfl (.pick 0 rfl (.pick 0 rfl (.pick 0 rfl (.pick 0 rfl (.pick 0 rfl (.refl)))))))
        · skip
          refine T_block ?_
          refine T_seq ?_
          refine T_reg ?_
          refine T_val (Ev_move rfl) rfl ?_
          refine T_val (Ev_move rfl) rfl ?_
          obtain ⟨x318, h319, hx320⟩ := bnd_some hx316
          obtain ⟨b321, o322, j323, ys331, hA324, hj325, hl326, hp327, hr332⟩ := HasN.at_idx hs124 h319
          obtain ⟨A328, c329, rfl, hs330⟩ := hr332
          refine T_val (Ev_index rfl rfl hA324 (j := j323) hj325 hl326 slc91) rfl ?_
          refine T_val (Ev_loadP0 rfl hp327 (SubE.cons2 (i := 5) rfl (SubE.cons2 (i := 3) rfl (SubE.cons2 (i := 4) rfl (SubE.nil)))) rfl one27) rfl ?_
          refine T_val (Ev_len rfl 3 Try.underlying27) rfl ?_
          refine T_val (Ev_move rfl) rfl ?_
          refine T_val (Ev_geq rfl rfl) rfl ?_
          refine T_nil ?_
          refine T_next ?_
          refine T_caseP (s := 62) rfl (fun h333 => ?_) (fun h333 => ?_)
          · have hx334 := ite_t h333 hx320
            refine T_condT rfl ?_
            refine T_seq ?_
            refine T_reg ?_
            refine T_val (Ev_move rfl) rfl ?_
            refine T_val (Ev_move rfl) rfl ?_
            refine T_val (Ev_move rfl) rfl ?_
            obtain ⟨x335, h336, hx337⟩ := bnd_some hx334
            obtain ⟨b338, o339, j340, ys348, hA341, hj342, hl343, hp344, hr349⟩ := HasN.at_idx hs124 h336
            obtain ⟨A345, c346, rfl, hs347⟩ := hr349
            refine T_val (Ev_index rfl rfl hA341 (j := j340) hj342 hl343 slc91) rfl ?_
            refine T_val (Ev_loadP0 rfl hp344 (SubE.cons2 (i := 5) rfl (SubE.cons2 (i := 3) rfl (SubE.cons2 (i := 4) rfl (SubE.nil)))) rfl one27) rfl ?_
            refine T_x (Wx_buildSlice rfl (bls91_1_0s _ _ _) rfl (fun g350 => ?_))
            have hr351 : RowN ([.r (y3.1) ((s3).length) (y3.2) 3 1 ((s3).flatMap e_i64), e119, e120, y311.2.2.2.1] : List Ent) n_List_Int (y311.1 ++ [(⟨[.slice (A345) ((x335).length) (c346)], rfl⟩ : Vec 1)]) (s311.1 ++ [x335]) := RowN.snoc (RowN.up (R := n_List_Int) (L := ([.r (y3.1) ((s3).length) (y3.2) 3 1 ((s3).flatMap e_i64), e119, e120, y311.2.2.2.1] : List Ent)) n_List_Int_mono hr314 (SubE.cons2 (i := 0) rfl (SubE.cons2 (i := 1) rfl (SubE.cons2 (i := 2) rfl (SubE.cons2 (i := 3) rfl (SubE.nil)))))) ⟨A345, c346, rfl, Has.len' (Has.up (L := ([.r (y3.1) ((s3).length) (y3.2) 3 1 ((s3).flatMap e_i64), e119, e120, y311.2.2.2.1] : List Ent)) hs347 (SubE.cons2 (i := 0) rfl (SubE.cons2 (i := 1) rfl (SubE.cons2 (i := 2) rfl (SubE.nil)))))⟩
            obtain ⟨h352, hx353⟩ := gd_some hx337
            refine T_h (Wh_appendP cellsV (y311.1) [(⟨[.slice (A345) ((x335).length) (c346)], rfl⟩ : Vec 1)] rfl rfl rfl elm91 (fun x => x.2) (i' := 0) rfl rfl rfl rfl (by have := RowN.len (hr314); have := h352; simp only [List.length_singleton, List.length_nil] at *; omega) rfl (fun _ _ => .there (.there (.here))) (fun _ _ => .drop .refl) (by decide) (fun A354 c355 => ?_))
            refine T_val (Ev_assign rfl) rfl ?_
            refine T_nil ?_
            refine T_next ?_
            refine T_reg ?_
            refine T_val (Ev_move rfl) rfl ?_
            refine T_val (Ev_move rfl) rfl ?_
            refine T_val (Ev_move rfl) rfl ?_
            refine T_val (Ev_move rfl) rfl ?_
            obtain ⟨x356, h357, hx358⟩ := bnd_some hx353
            obtain ⟨b359, o360, j361, ys369, hA362, hj363, hl364, hp365, hr370⟩ := HasN.at_idx hs124 h357
            obtain ⟨A366, c367, rfl, hs368⟩ := hr370
            refine T_val (Ev_index rfl rfl hA362 (j := j361) hj363 hl364 slc91) rfl ?_
            refine T_val (Ev_loadP0 rfl hp365 (SubE.cons2 (i := 5) rfl (SubE.cons2 (i := 3) rfl (SubE.cons2 (i := 4) rfl (SubE.nil)))) rfl one27) rfl ?_
            obtain ⟨x371, h372, hx373⟩ := bnd_some hx358
            obtain ⟨b374, o375, j376, hA377, hj378, hl379, hp380⟩ := Has.at_idx hs368 h372
            refine T_val (Ev_index rfl rfl hA377 (j := j376) hj378 hl379 slc27) rfl ?_
            refine T_val (Ev_loadP0 rfl hp380 (SubE.cons2 (i := 5) rfl (SubE.cons2 (i := 3) rfl (SubE.cons2 (i := 4) rfl (SubE.nil)))) rfl one3) rfl ?_
            obtain ⟨x381, h382, hx383⟩ := bnd_some hx373
            refine T_idxR (k := 5) rfl (by decide) (fun _ => rfl) h382 (fun b384 j386 hA387 hj388 hl389 hm391 hp390 => ?_)
            refine T_val (Ev_index rfl rfl hA387 (j := j386) hj388 hl389 slc27) rfl ?_
            refine T_val (Ev_loadP0 rfl hp390 (SubE.cons2 (i := 5) rfl (SubE.nil)) rfl one3) rfl ?_
            refine T_x (Wx_buildSlice rfl (bls27_1_0i64 _) rfl (fun g392 => ?_))
            obtain ⟨h393, hx394⟩ := gd_some hx383
            refine T_h (Wh_appendP e_i64 (s311.2.1) [x381] rfl rfl rfl elm27 (fun _ => rfl) (i' := 0) rfl rfl rfl rfl h393 rfl (fun _ _ => .there (.there (.there (.here)))) (fun _ _ => .drop .refl) (by decide) (fun A395 c396 => ?_))
            refine T_val (Ev_assign rfl) rfl ?_
            refine T_nil ?_
            refine T_inN ?_
            refine T_none 0 1 ?_
            have hn402 : (y311.1 ++ [(⟨[.slice (A345) ((x335).length) (c346)], rfl⟩ : Vec 1)]).length = (s311.1 ++ [x335]).length := RowN.len hr351
            refine T_ent (.there (.there (.here))) (e' := .r (A354) ((s311.1 ++ [x335]).length) (c355) 27 1 ((y311.1 ++ [(⟨[.slice (A345) ((x335).length) (c346)], rfl⟩ : Vec 1)]).flatMap cellsV)) (by first | (rw [← hn402]; done) | rfl) ?_
            refine T_slot (s := 12) (v' := .slice (A354) ((s311.1 ++ [x335]).length) (c355)) rfl (by have hn403 : ((y311.1 ++ [(⟨[.slice (A345) ((x335).length) (c346)], rfl⟩ : Vec 1)]).length) = (s311.1 ++ [x335]).length := (RowN.len hr351); first | (rw [← hn403]; done) | rfl) ?_
            exact T_metP (s311.1 ++ [x335], s311.2.1 ++ [x381]) (y311.1 ++ [(⟨[.slice (A345) ((x335).length) (c346)], rfl⟩ : Vec 1)], A354, c355, .r none 0 0 0 1 [], A395, c396) hx394 ((by exact ⟨rfl, (RowN.up (R := n_List_Int) (L := ([.r (y3.1) ((s3).length) (y3.2) 3 1 ((s3).flatMap e_i64), e119, e120, y311.2.2.2.1, .r none 0 0 0 1 []] : List Ent)) n_List_Int_mono hr351 (SubE.cons2 (i := 0) rfl (SubE.cons2 (i := 1) rfl (SubE.cons2 (i := 2) rfl (SubE.cons2 (i := 3) rfl (SubE.nil)))))), trivial⟩)) (by exact .cons rfl (.cons rfl (.cons rfl (.cons rfl (.cons rfl (.cons rfl (.nil))))))) (by exact .pick 0 rfl (.pick 0 rfl (.pick 0 rfl (.pick 0 rfl (.pick 0 rfl (.pick 0 rfl (.pick 0 rfl (.refl))))))))
          · have hx397 := ite_f h333 hx320
            refine T_condF rfl ?_
            refine T_skip ?_
            refine T_inN ?_
            refine T_none 0 1 ?_
            exact T_metP (s311.1, s311.2.1) (y311.1, y311.2.1, y311.2.2.1, .r none 0 0 0 1 [], y311.2.2.2.2.1, y311.2.2.2.2.2) hx397 ((by exact ⟨rfl, (RowN.up (R := n_List_Int) (L := ([.r (y3.1) ((s3).length) (y3.2) 3 1 ((s3).flatMap e_i64), e119, e120, y311.2.2.2.1, .r none 0 0 0 1 []] : List Ent)) n_List_Int_mono hr314 (SubE.cons2 (i := 0) rfl (SubE.cons2 (i := 1) rfl (SubE.cons2 (i := 2) rfl (SubE.cons2 (i := 3) rfl (SubE.nil)))))), trivial⟩)) (by exact .cons rfl (.cons rfl (.cons rfl (.cons rfl (.cons rfl (.cons rfl (.nil))))))) (by exact .pick 0 rfl (.pick 0 rfl (.pick 0 rfl (.pick 0 rfl (.pick 0 rfl (.pick 0 rfl (.pick 0 rfl (.refl))))))))
      · have hx317 := ite_f h315 hx311
        refine T_condF rfl ?_
        refine T_exit ?_
        refine T_outX ?_
        obtain rfl := exit_eq ht311 hx317
        refine T_outX ?_
        refine T_here ?_
        exact T_metP (s311.1, s311.2.1) (y311.1, y311.2.1, y311.2.2.1, y311.2.2.2.1, y311.2.2.2.2.1, y311.2.2.2.2.2) ho311 ((by exact ⟨lo313, (RowN.up (R := n_List_Int) (L := ([.r (y3.1) ((s3).length) (y3.2) 3 1 ((s3).flatMap e_i64), e119, e120, y311.2.2.2.1] : List Ent)) n_List_Int_mono hr314 (SubE.cons2 (i := 0) rfl (SubE.cons2 (i := 1) rfl (SubE.cons2 (i := 2) rfl (SubE.cons2 (i := 3) rfl (SubE.nil)))))), trivial⟩)) (by exact .cons rfl (.cons rfl (.nil))) (by exact .pick 0 rfl (.pick 0 rfl (.pick 0 rfl (.pick 0 rfl (.pick 0 rfl (.pick 0 rfl (.refl)))))))
  · skip
    refine T_seq ?_
    refine T_reg ?_
    refine T_val (Ev_assign rfl) rfl ?_
    refine T_nil ?_
    refine T_next ?_
    refine T_block ?_
    obtain ⟨t58, hl58, ho58⟩ := bnd_some hx5
    refine T_loopP (σ := (List Int) × Int) (γ := (Option Addr) × Nat) hl58 (fun s58 y58 => [(2, .int .i64 (p2)), (3, .pointer (some ⟨g1, 0, none⟩)), (4, .pointer (some ⟨g2, 0, none⟩)), (8, .slice (y58.1) ((s58.1).length) (y58.2)), (9, .int .i64 (s58.2))]) (fun s58 y58 => [.r (y58.1) ((s58.1).length) (y58.2) 3 1 ((s58.1).flatMap e_i64), .m g2 26 [.int .i64 (p1.Raster.X0), .int .i64 (p1.Raster.Y0), .int .i64 (p1.Raster.Step), .int .i64 (p1.Raster.NX), .int .i64 (p1.Raster.NY), .slice (A0_1) ((p1.Cells).length) (c0_1)], .m g1 26 [.int .i64 (p0.Raster.X0), .int .i64 (p0.Raster.Y0), .int .i64 (p0.Raster.Step), .int .i64 (p0.Raster.NX), .int .i64 (p0.Raster.NY), .slice (A0_0) ((p0.Cells).length) (c0_0)]] ++ [.old w]) (fun s58 y58 => True) (A3, (List.replicate (Int.toNat ((((p0.Cells).length : Nat) : Int))) (0 : Int)).length) trivial (by exact .cons rfl (.cons rfl (.cons rfl (.cons rfl (.cons rfl (.nil)))))) (by exact .pick 0 rfl (.pick 0 rfl (.pick 0 rfl (.refl)))) ?_
    intro s58 y58 hG58 x58 hx58 ht58
    unfold lidarref09_Changed_l3 at hx58
    refine T_seq ?_
    refine T_seq ?_
    refine T_reg ?_
    refine T_val (Ev_move rfl) rfl ?_
    refine T_val (Ev_move rfl) rfl ?_
    refine T_val (Ev_len rfl 3 Try.underlying27) rfl ?_
    refine T_val (Ev_lss rfl rfl) rfl ?_
    refine T_nil ?_
    refine T_next ?_
    refine T_caseP (s := 22) rfl (fun h59 => ?_) (fun h59 => ?_)
    · have hx60 := ite_t h59 hx58
      refine T_condT rfl ?_
      refine T_skip ?_
      refine T_next ?_
      obtain ⟨j12, hj12, hx60⟩ := jn_some hx60
      refine T_cutP (τ := List Int) (γ := (Option Addr) × Nat) (J := j12) (out := x58) (fun s12 y12 => [(2, .int .i64 (p2)), (3, .pointer (some ⟨g1, 0, none⟩)), (4, .pointer (some ⟨g2, 0, none⟩)), (8, .slice (y12.1) ((s12).length) (y12.2)), (9, .int .i64 (s58.2))]) (fun s12 y12 => [.r (y12.1) ((s12).length) (y12.2) 3 1 ((s12).flatMap e_i64), .m g2 26 [.int .i64 (p1.Raster.X0), .int .i64 (p1.Raster.Y0), .int .i64 (p1.Raster.Step), .int .i64 (p1.Raster.NX), .int .i64 (p1.Raster.NY), .slice (A0_1) ((p1.Cells).length) (c0_1)], .m g1 26 [.int .i64 (p0.Raster.X0), .int .i64 (p0.Raster.Y0), .int .i64 (p0.Raster.Step), .int .i64 (p0.Raster.NX), .int .i64 (p0.Raster.NY), .slice (A0_0) ((p0.Cells).length) (c0_0)]] ++ [.old w]) (fun s12 y12 => True) ?_ ?_
      · intro s12 y12 hx106 hG107
        subst hj12
        refine T_reg ?_
        refine T_val (Ev_move rfl) rfl ?_
        refine T_val (Ev_add_w64 rfl rfl) rfl ?_
        refine T_val (Ev_assign rfl) rfl ?_
        refine T_nil ?_
        exact T_roundP (s12, w64 (s58.2 + 1)) (y12.1, y12.2) hx106 trivial (by exact .cons rfl (.cons rfl (.cons rfl (.cons rfl (.cons rfl (.nil)))))) (by exact .pick 0 rfl (.pick 0 rfl (.pick 0 rfl (.refl))))
      · skip
        refine T_block ?_
        refine T_seq ?_
        refine T_draw [0, 1, 0, 0, 1, 0, 1, 0, 0, 1, 2, 2] [[], [0], [], [0, 1, 2], [0, 1, 2, 3], [], [5], [], [5, 6, 7], [5, 6, 7, 8], [0, 1, 2, 3, 4, 5, 6, 7, 8, 9], [0, 1, 2, 3, 4, 5, 6, 7, 8, 9, 10]] (.q 0 (.q 1 (.q 2 (.q 3 (.q 4 (.q 5 (.q 6 (.q 7 (.q 8 (.q 9 (.e 10 (.e 11 (.done) (.stop)) (.stop)))))))))))) mixed (by kernel_rfl) (by kernel_rfl) ?_
        refine P_p rfl rfl (Ev_field rfl fld26_1 rfl) rfl ?_
        refine P_q rfl rfl (Ev_load1 rfl (i := 2) rfl rfl one24) rfl ?_
        refine P_p rfl rfl (Ev_move rfl) rfl ?_
        obtain ⟨x62, h63, hx64⟩ := bnd_some hx60
        have hw72 := Has.low (E := []) ha0' hK
        obtain ⟨b65, o66, j67, hA68, hj69, hl70, hp71⟩ := Has.at_idx hw72 h63
        refine P_p rfl rfl (Ev_index rfl rfl hA68 (j := j67) hj69 hl70 slc24) rfl ?_
        refine P_q rfl rfl (Ev_loadPK0 rfl hp71 (SubE.cons2 (i := 3) rfl (SubE.nil)) rfl agg41) rfl ?_
        refine P_p rfl rfl (Ev_field rfl fld26_1 rfl) rfl ?_
        refine P_q rfl rfl (Ev_load1 rfl (i := 1) rfl rfl one24) rfl ?_
        refine P_p rfl rfl (Ev_move rfl) rfl ?_
        obtain ⟨x73, h74, hx75⟩ := bnd_some hx64
        have hw83 := Has.low (E := []) ha1' hK
        obtain ⟨b76, o77, j78, hA79, hj80, hl81, hp82⟩ := Has.at_idx hw83 h74
        refine P_p rfl rfl (Ev_index rfl rfl hA79 (j := j78) hj80 hl81 slc24) rfl ?_
        refine P_q rfl rfl (Ev_loadPK0 rfl hp82 (SubE.cons2 (i := 3) rfl (SubE.nil)) rfl agg41) rfl ?_
        obtain ⟨r84, h85, hx86⟩ := bnd_some hx75
        refine P_x rfl (Wx_callL rfl (fun w1 hw1 => lidarref09_State_ok x62 x73  h85 w1) rfl ?_) ?_
        rotate_left; exact P_stop
        rintro _ _ hlo ⟨rfl, rfl, -⟩
        refine T_app0 ?_
        refine P_x rfl (Wx_val (Ev_assign rfl) rfl ?_) ?_
        rotate_left; exact P_stop
        refine P_done ?_
        refine T_next ?_
        obtain ⟨j14, hj14, hx86⟩ := jn_some hx86
        refine T_cutP (τ := Bool) (γ := Unit) (J := j14) (out := x58) (fun s14 y14 => [(2, .int .i64 (p2)), (3, .pointer (some ⟨g1, 0, none⟩)), (4, .pointer (some ⟨g2, 0, none⟩)), (8, .slice (y58.1) ((s58.1).length) (y58.2)), (9, .int .i64 (s58.2)), (10, .int .i64 (r84)), (41, .bool (s14))]) (fun s14 y14 => [.r (y58.1) ((s58.1).length) (y58.2) 3 1 ((s58.1).flatMap e_i64), .m g2 26 [.int .i64 (p1.Raster.X0), .int .i64 (p1.Raster.Y0), .int .i64 (p1.Raster.Step), .int .i64 (p1.Raster.NX), .int .i64 (p1.Raster.NY), .slice (A0_1) ((p1.Cells).length) (c0_1)], .m g1 26 [.int .i64 (p0.Raster.X0), .int .i64 (p0.Raster.Y0), .int .i64 (p0.Raster.Step), .int .i64 (p0.Raster.NX), .int .i64 (p0.Raster.NY), .slice (A0_0) ((p0.Cells).length) (c0_0)]] ++ [.old w]) (fun s14 y14 => True) ?_ ?_
        · intro s14 y14 hx90 hG91
          subst hj14
          refine T_caseB (s := 41) rfl (fun h92 => ?_) (fun h92 => ?_)
          · have hx93 := ite_t h92 hx90
            refine T_condT rfl ?_
            refine T_reg ?_
            refine T_val (Ev_move rfl) rfl ?_
            refine T_val (Ev_move rfl) rfl ?_
            refine T_val (Ev_move rfl) rfl ?_
            obtain ⟨x94, h95, hx96⟩ := bnd_some hx93
            refine T_idxR (k := 0) rfl (by decide) (fun _ => rfl) h95 (fun b97 j99 hA100 hj101 hl102 hm104 hp103 => ?_)
            refine T_val (Ev_index rfl rfl hA100 (j := j99) hj101 hl102 slc27) rfl ?_
            refine T_h (Wh_storeP e_i64 (s58.1) (s58.2) (r84) rfl rfl rfl (.here) hA100 rfl hj101 hl102 (fun _ => rfl) (by decide) rfl one3.2 ?_)
            refine T_nil ?_
            refine T_inN ?_
            have hn108 : (s58.1).length = (setI s58.1 s58.2 r84).length := by simp [setI_len, cpy_len, List.length_append] <;> omega
            refine T_ent (.here) (e' := .r (y58.1) ((setI s58.1 s58.2 r84).length) (y58.2) 3 1 ((setI s58.1 s58.2 r84).flatMap e_i64)) (by first | (rw [← hn108]; done) | rfl) ?_
            refine T_slot (s := 8) (v' := .slice (y58.1) ((setI s58.1 s58.2 r84).length) (y58.2)) rfl (by have hn109 : ((s58.1).length) = (setI s58.1 s58.2 r84).length := (by simp [setI_len, cpy_len, List.length_append] <;> omega); first | (rw [← hn109]; done) | rfl) ?_
            exact T_metP (setI s58.1 s58.2 r84) (y58.1, y58.2) hx96 trivial (by exact .cons rfl (.cons rfl (.cons rfl (.cons rfl (.cons rfl (.nil)))))) (by exact .pick 0 rfl (.pick 0 rfl (.pick 0 rfl (.refl))))
          · have hx105 := ite_bf h92 hx90
            refine T_condF rfl ?_
            refine T_skip ?_
            refine T_inN ?_
            exact T_metP s58.1 (y58.1, y58.2) hx105 trivial (by exact .cons rfl (.cons rfl (.cons rfl (.cons rfl (.cons rfl (.nil)))))) (by exact .pick 0 rfl (.pick 0 rfl (.pick 0 rfl (.refl))))
        · skip
          refine T_reg ?_
          refine T_val (Ev_move rfl) rfl ?_
          refine T_val (Ev_eql rfl rfl) rfl ?_
          refine T_val (Ev_move rfl) rfl ?_
          refine T_caseP (s := 38) rfl (fun h87 => ?_) (fun h87 => ?_)
          · have hx88 := ite_t h87 hx86
            refine T_skipG rfl rfl rfl rfl rfl ?_
            refine T_skipG rfl rfl rfl rfl rfl ?_
            refine T_val (Ev_pickT rfl rfl) rfl ?_
            refine T_nil ?_
            exact T_metP true () hx88 trivial (by exact .cons rfl (.cons rfl (.cons rfl (.cons rfl (.cons rfl (.cons rfl (.cons rfl (.nil)))))))) (by exact .pick 0 rfl (.pick 0 rfl (.pick 0 rfl (.refl))))
          · have hx89 := ite_f h87 hx86
            refine T_valG rfl rfl rfl (Ev_move rfl) rfl ?_
            refine T_valG rfl rfl rfl (Ev_eql rfl rfl) rfl ?_
            refine T_val (Ev_pickF rfl rfl) rfl ?_
            refine T_nil ?_
            exact T_metP (decide (r84 = (-1))) () hx89 trivial (by exact .cons rfl (.cons rfl (.cons rfl (.cons rfl (.cons rfl (.cons rfl (.cons rfl (.nil)))))))) (by exact .pick 0 rfl (.pick 0 rfl (.pick 0 rfl (.refl))))
    · have hx61 := ite_f h59 hx58
      refine T_condF rfl ?_
      refine T_exit ?_
      refine T_outX ?_
      obtain rfl := exit_eq ht58 hx61
      refine T_outX ?_
      refine T_here ?_
      exact T_metP s58.1 (y58.1, y58.2) ho58 trivial (by exact .cons rfl (.cons rfl (.cons rfl (.nil)))) (by exact .pick 0 rfl (.pick 1 rfl (.drop 0 rfl (.refl))))
set_option maxRecDepth 100000 in
theorem lidarref09_Regions_ok (p0 : S_api_Grid) (p1 : S_api_Grid) (p2 : Int) {K : List Ent} {A0_0 : Option Addr} {c0_0 : Nat} {A0_1 : Option Addr} {c0_1 : Nat} (ha0 : Has K A0_0 (p0.Cells).length c0_0 3 e_api_Cell (p0.Cells)) (ha1 : Has K A0_1 (p1.Cells).length c0_1 3 e_api_Cell (p1.Cells)) {r : (List S_api_Region) × Int} (hx : lidarref09_Regions p0 p1 p2 = some r) (w : World) (hK : ∀ e ∈ K, Ent.ok w e) : CtL Try.prog 53 [.agg #[.int .i64 (p0.Raster.X0), .int .i64 (p0.Raster.Y0), .int .i64 (p0.Raster.Step), .int .i64 (p0.Raster.NX), .int .i64 (p0.Raster.NY), .slice (A0_0) ((p0.Cells).length) (c0_0)], .agg #[.int .i64 (p1.Raster.X0), .int .i64 (p1.Raster.Y0), .int .i64 (p1.Raster.Step), .int .i64 (p1.Raster.NX), .int .i64 (p1.Raster.NY), .slice (A0_1) ((p1.Cells).length) (c0_1)], .int .i64 (p2)] w fun v Ln => ∃ (A0 : Option Addr) (c0 : Nat) (e0 : Ent) (e1 : Ent) (e2 : Ent) (e3 : Ent) (e4 : Ent) (e5 : Ent) (e6 : Ent), v = .tuple #[.slice (A0) ((r.1).length) (c0), .int .i64 (r.2)] ∧ Ln = [e0, e1, e2, e3, e4, e5, e6] ∧ HasN (K ++ [e0, e1, e2, e3, e4, e5, e6]) A0 (r.1).length c0 8 n_api_Region (r.1) ∧ True := by
  have ha0' := Has.up0 ha0
  have ha1' := Has.up0 ha1
  refine CtL.mk 75 Try.func53 rfl Try.ntmps53 (by kernel_rfl) rfl ?_
  show T 75 _ [(0, .agg #[.int .i64 (p0.Raster.X0), .int .i64 (p0.Raster.Y0), .int .i64 (p0.Raster.Step), .int .i64 (p0.Raster.NX), .int .i64 (p0.Raster.NY), .slice (A0_0) ((p0.Cells).length) (c0_0)]), (1, .agg #[.int .i64 (p1.Raster.X0), .int .i64 (p1.Raster.Y0), .int .i64 (p1.Raster.Step), .int .i64 (p1.Raster.NX), .int .i64 (p1.Raster.NY), .slice (A0_1) ((p1.Cells).length) (c0_1)]), (2, .int .i64 (p2))] _
  unfold lidarref09_Regions at hx
  refine T_seq ?_
  refine T_reg ?_
  refine T_x (Wx_box rfl rfl rfl (fun g1 => ?_))
  refine T_x (Wx_box rfl rfl rfl (fun g2 => ?_))
  refine T_val (Ev_assign rfl) rfl ?_
  refine T_val (Ev_assign rfl) rfl ?_
  refine T_nil ?_
  refine T_next ?_
  refine T_seq ?_
  refine T_seq ?_
  refine T_reg ?_
  refine T_val (Ev_loadK rfl (i := 1) rfl rfl agg26) rfl ?_
  refine T_val (Ev_loadK rfl (i := 0) rfl rfl agg26) rfl ?_
  obtain ⟨r3, h4, hx5⟩ := bnd_some hx
  refine T_x (Wx_callL rfl (fun w1 hw1 => lidarref09_Pair_ok p0 p1 (Has.len' ha0') (Has.len' ha1') h4 w1 (okApp (K := K) (K2 := []) hK (by exact (SubE.cons2 (i := 2) rfl (SubE.nil))) (by exact (SubE.nil)) hw1)) rfl ?_)
  rintro _ _ hlo ⟨rfl, rfl, -⟩
  refine T_app0 ?_
  refine T_val (Ev_assign rfl) rfl ?_
  refine T_nil ?_
  refine T_next ?_
  refine T_seq ?_
  refine T_reg ?_
  refine T_val (Ev_move rfl) rfl ?_
  refine T_val (Ev_neq rfl rfl) rfl ?_
  refine T_nil ?_
  refine T_next ?_
  refine T_caseNP (s := 23) rfl (fun h6 => ?_) (fun h6 => ?_)
  · have hx7 := ite_f h6 hx5
    refine T_condT rfl ?_
    refine T_seq ?_
    refine T_reg ?_
    refine T_val (Ev_move rfl) rfl ?_
    refine T_val (Ev_assign rfl) rfl ?_
    refine T_val (Ev_assign rfl) rfl ?_
    refine T_nil ?_
    refine T_next ?_
    refine T_retc ?_
    refine T_outR ?_
    refine T_none 0 1 ?_
    refine T_none 0 1 ?_
    refine T_none 0 1 ?_
    refine T_none 0 1 ?_
    refine T_none 0 1 ?_
    refine T_none 0 1 ?_
    refine T_none 0 1 ?_
    obtain rfl := Option.some.inj hx7
    exact T_retP (rs := [.tmp 6, .tmp 7]) Try.results53 (.tmp rfl (.tmp rfl (.nil))) (Ln := [.r none 0 0 0 1 [], .r none 0 0 0 1 [], .r none 0 0 0 1 [], .r none 0 0 0 1 [], .r none 0 0 0 1 [], .r none 0 0 0 1 [], .r none 0 0 0 1 []]) ⟨none, 0, (.r none 0 0 0 1 []), (.r none 0 0 0 1 []), (.r none 0 0 0 1 []), (.r none 0 0 0 1 []), (.r none 0 0 0 1 []), (.r none 0 0 0 1 []), (.r none 0 0 0 1 []), rfl, rfl, HasN.nil, trivial⟩ (loCons rfl (loCons rfl (loCons rfl (loCons rfl (loCons rfl (loCons rfl (loCons rfl (loNil)))))))) (by exact .pick 6 rfl (.pick 5 rfl (.pick 4 rfl (.pick 3 rfl (.pick 2 rfl (.pick 1 rfl (.pick 0 rfl (.drop 0 rfl (.drop 0 rfl (.refl))))))))))
  · have hx8 := ite_t h6 hx5
    refine T_condF rfl ?_
    refine T_skip ?_
    refine T_next ?_
    refine T_seq ?_
    refine T_seq ?_
    refine T_reg ?_
    refine T_val (Ev_move rfl) rfl ?_
    refine T_val (Ev_lss rfl rfl) rfl ?_
    refine T_nil ?_
    refine T_next ?_
    refine T_caseP (s := 26) rfl (fun h9 => ?_) (fun h9 => ?_)
    · have hx10 := ite_t h9 hx8
      refine T_condT rfl ?_
      refine T_seq ?_
      refine T_reg ?_
      refine T_val (Ev_assign rfl) rfl ?_
      refine T_val (Ev_assign rfl) rfl ?_
      refine T_nil ?_
      refine T_next ?_
      refine T_retc ?_
      refine T_outR ?_
      refine T_none 0 1 ?_
      refine T_none 0 1 ?_
      refine T_none 0 1 ?_
      refine T_none 0 1 ?_
      refine T_none 0 1 ?_
      refine T_none 0 1 ?_
      refine T_none 0 1 ?_
      obtain rfl := Option.some.inj hx10
      exact T_retP (rs := [.tmp 6, .tmp 7]) Try.results53 (.tmp rfl (.tmp rfl (.nil))) (Ln := [.r none 0 0 0 1 [], .r none 0 0 0 1 [], .r none 0 0 0 1 [], .r none 0 0 0 1 [], .r none 0 0 0 1 [], .r none 0 0 0 1 [], .r none 0 0 0 1 []]) ⟨none, 0, (.r none 0 0 0 1 []), (.r none 0 0 0 1 []), (.r none 0 0 0 1 []), (.r none 0 0 0 1 []), (.r none 0 0 0 1 []), (.r none 0 0 0 1 []), (.r none 0 0 0 1 []), rfl, rfl, HasN.nil, trivial⟩ (loCons rfl (loCons rfl (loCons rfl (loCons rfl (loCons rfl (loCons rfl (loCons rfl (loNil)))))))) (by exact .pick 6 rfl (.pick 5 rfl (.pick 4 rfl (.pick 3 rfl (.pick 2 rfl (.pick 1 rfl (.pick 0 rfl (.drop 0 rfl (.drop 0 rfl (.refl))))))))))
    · have hx11 := ite_f h9 hx8
      refine T_condF rfl ?_
      refine T_skip ?_
      refine T_next ?_
      refine T_seq ?_
      refine T_reg ?_
      refine T_val (Ev_loadK rfl (i := 1) rfl rfl agg26) rfl ?_
      refine T_val (Ev_loadK rfl (i := 0) rfl rfl agg26) rfl ?_
      refine T_val (Ev_move rfl) rfl ?_
      obtain ⟨r12, h13, hx14⟩ := bnd_some hx11
      refine T_x (Wx_callL rfl (fun w1 hw1 => lidarref09_Changed_ok p0 p1 p2 (Has.len' ha0') (Has.len' ha1') h13 w1 (okApp (K := K) (K2 := []) hK (by exact (SubE.cons2 (i := 2) rfl (SubE.nil))) (by exact (SubE.nil)) hw1)) rfl ?_)
      rintro _ _ hlo ⟨A15, c16, A17, c18, e19, e20, e21, e22, e23, rfl, rfl, hs24, -⟩
      have lo25 := hlo e19 (by simp)
      have lo26 := hlo e20 (by simp)
      have lo27 := hlo e21 (by simp)
      have lo28 := hlo e22 (by simp)
      have lo29 := hlo e23 (by simp)
      refine T_app6 ?_
      have hs30 : HasN (K ++ [e19, e20, e21, e22, e23]) _ _ _ _ _ _ := HasN.assoc hs24
      refine T_val (Ev_move rfl) rfl ?_
      refine T_val (Ev_extract rfl rfl) rfl ?_
      refine T_val (Ev_extract rfl rfl) rfl ?_
      refine T_val (Ev_assign rfl) rfl ?_
      refine T_val (Ev_assign rfl) rfl ?_
      refine T_nil ?_
      refine T_next ?_
      refine T_seq ?_
      refine T_reg ?_
      refine T_val (Ev_assign rfl) rfl ?_
      refine T_nil ?_
      refine T_next ?_
      obtain ⟨j11, hj11, hx14⟩ := jn_some hx14
      refine T_cutP (τ := List S_api_Region) (γ := (List (Vec 8)) × (Option Addr) × Nat × Ent) (J := j11) (out := r) (fun s11 y11 => [(11, .slice (y11.2.1) ((s11).length) (y11.2.2.1))]) (fun s11 y11 => [y11.2.2.2, .r (y11.2.1) ((s11).length) (y11.2.2.1) 95 8 ((y11.1).flatMap cellsV), e19, e20, e21, e22, e23] ++ [.old w]) (fun s11 y11 => y11.2.2.2.low = 0 ∧ RowN (K ++ [e19, e20, e21, e22, e23, y11.2.2.2]) n_api_Region (y11.1) (s11) ∧ True) ?_ ?_
      · intro s11 y11 hx711 hG712
        obtain ⟨lo713, hr714, -⟩ := hG712
        subst hj11
        refine T_seq ?_
        refine T_reg ?_
        refine T_val (Ev_move rfl) rfl ?_
        refine T_val (Ev_assign rfl) rfl ?_
        refine T_val (Ev_assign rfl) rfl ?_
        refine T_nil ?_
        refine T_next ?_
        refine T_retc ?_
        refine T_rowP (k := 1) rfl (by decide) (fun x => x.2) (fun hn715 hs716 => ?_)
        have hs717 : HasN (K ++ [.r (y11.2.1) ((s11).length) (y11.2.2.1) 95 8 ((y11.1).flatMap cellsV), e19, e20, e21, e22, e23, y11.2.2.2]) _ _ _ _ _ _ := HasN.ofRowN (Has.up (L := (K ++ [.r (y11.2.1) ((s11).length) (y11.2.2.1) 95 8 ((y11.1).flatMap cellsV), e19, e20, e21, e22, e23, y11.2.2.2])) hs716 (SubE.appR2 (SubE.cons2 (i := 0) rfl (SubE.nil)))) (RowN.up (R := n_api_Region) (L := (K ++ [.r (y11.2.1) ((s11).length) (y11.2.2.1) 95 8 ((y11.1).flatMap cellsV), e19, e20, e21, e22, e23, y11.2.2.2])) n_api_Region_mono hr714 (SubE.app2 (SubE.cons2 (i := 1) rfl (SubE.cons2 (i := 2) rfl (SubE.cons2 (i := 3) rfl (SubE.cons2 (i := 4) rfl (SubE.cons2 (i := 5) rfl (SubE.cons2 (i := 6) rfl (SubE.nil)))))))))
        obtain rfl := Option.some.inj hx711
        exact T_retP (rs := [.tmp 6, .tmp 7]) Try.results53 (.tmp rfl (.tmp rfl (.nil))) (Ln := [.r (y11.2.1) ((s11).length) (y11.2.2.1) 95 8 ((y11.1).flatMap cellsV), e19, e20, e21, e22, e23, y11.2.2.2]) ⟨y11.2.1, y11.2.2.1, (.r (y11.2.1) ((s11).length) (y11.2.2.1) 95 8 ((y11.1).flatMap cellsV)), e19, e20, e21, e22, e23, y11.2.2.2, rfl, rfl, HasN.len' hs717, trivial⟩ (loCons rfl (loCons lo25 (loCons lo26 (loCons lo27 (loCons lo28 (loCons lo29 (loCons lo713 (loNil)))))))) (by exact .pick 1 rfl (.pick 1 rfl (.pick 1 rfl (.pick 1 rfl (.pick 1 rfl (.pick 1 rfl (.pick 0 rfl (.refl))))))))
      · skip
        refine T_seq ?_
        refine T_reg ?_
        refine T_val (Ev_assign rfl) rfl ?_
        refine T_nil ?_
        refine T_next ?_
        refine T_block ?_
        obtain ⟨t483, hl483, ho483⟩ := bnd_some hx14
        refine T_none 0 1 ?_
        refine T_none 95 8 ?_
        refine T_loopP (σ := (List S_api_Region) × Int) (γ := (List (Vec 8)) × (Option Addr) × Nat × Ent) hl483 (fun s483 y483 => [(3, .pointer (some ⟨g1, 0, none⟩)), (4, .pointer (some ⟨g2, 0, none⟩)), (9, .slice (A15) ((r12.1).length) (c16)), (10, .slice (A17) ((r12.2).length) (c18)), (11, .slice (y483.2.1) ((s483.1).length) (y483.2.2.1)), (12, .int .i64 (s483.2))]) (fun s483 y483 => [y483.2.2.2, .r (y483.2.1) ((s483.1).length) (y483.2.2.1) 95 8 ((y483.1).flatMap cellsV), .r (A17) ((r12.2).length) (c18) 3 1 ((r12.2).flatMap e_i64), e19, e20, e21, e22, e23, .m g2 26 [.int .i64 (p1.Raster.X0), .int .i64 (p1.Raster.Y0), .int .i64 (p1.Raster.Step), .int .i64 (p1.Raster.NX), .int .i64 (p1.Raster.NY), .slice (A0_1) ((p1.Cells).length) (c0_1)], .m g1 26 [.int .i64 (p0.Raster.X0), .int .i64 (p0.Raster.Y0), .int .i64 (p0.Raster.Step), .int .i64 (p0.Raster.NX), .int .i64 (p0.Raster.NY), .slice (A0_0) ((p0.Cells).length) (c0_0)]] ++ [.old w]) (fun s483 y483 => y483.2.2.2.low = 0 ∧ RowN (K ++ [e19, e20, e21, e22, e23, y483.2.2.2]) n_api_Region (y483.1) (s483.1) ∧ True) (([] : List (Vec 8)), none, 0, .r none 0 0 0 1 []) ((by exact ⟨rfl, RowN.nil, trivial⟩)) (by exact .cons rfl (.cons rfl (.cons rfl (.cons rfl (.cons rfl (.cons rfl (.nil))))))) (by exact .pick 1 rfl (.pick 0 rfl (.pick 0 rfl (.pick 0 rfl (.pick 0 rfl (.pick 0 rfl (.pick 0 rfl (.pick 0 rfl (.pick 0 rfl (.pick 0 rfl (.refl))))))))))) ?_
        intro s483 y483 hG483 x483 hx483 ht483
        unfold lidarref09_Regions_l9 at hx483
        obtain ⟨lo484, hr485, -⟩ := hG483
        refine T_seq ?_
        refine T_seq ?_
        refine T_reg ?_
        refine T_val (Ev_move rfl) rfl ?_
        refine T_val (Ev_move rfl) rfl ?_
        refine T_val (Ev_len rfl 27 Try.underlying91) rfl ?_
        refine T_val (Ev_lss rfl rfl) rfl ?_
        refine T_nil ?_
        refine T_next ?_
        refine T_caseP (s := 37) rfl (fun h486 => ?_) (fun h486 => ?_)
        · have hx487 := ite_t h486 hx483
          refine T_condT rfl ?_
          refine T_skip ?_
          refine T_next ?_
          refine T_seq ?_
          refine T_block ?_
          obtain ⟨j28, hj28, hx487⟩ := jn_some hx487
          refine T_cutP (τ := Bool × (List Int) × (List Int) × Bool × (List Int) × (List Int)) (γ := Nat × (Option Addr) × Nat × Ent × (Option Addr) × Nat × Nat × (Option Addr) × Nat × (Option Addr) × Nat) (J := j28) (out := x483) (fun s28 y28 => [(3, .pointer (some ⟨g1, 0, none⟩)), (4, .pointer (some ⟨g2, 0, none⟩)), (9, .slice (A15) ((r12.1).length) (c16)), (10, .slice (A17) ((r12.2).length) (c18)), (11, .slice (y483.2.1) ((s483.1).length) (y483.2.2.1)), (12, .int .i64 (s483.2)), (13, .pointer (some ⟨y28.1, 0, none⟩)), (14, .pointer (some ⟨y28.2.2.2.2.2.2.1, 0, none⟩))]) (fun s28 y28 => [y28.2.2.2.1, .m y28.2.2.2.2.2.2.1 45 [.bool (s28.2.2.2.1), .slice (y28.2.2.2.2.2.2.2.1) ((s28.2.2.2.2.1).length) (y28.2.2.2.2.2.2.2.2.1), .slice (y28.2.2.2.2.2.2.2.2.2.1) ((s28.2.2.2.2.2).length) (y28.2.2.2.2.2.2.2.2.2.2)], .m y28.1 45 [.bool (s28.1), .slice (y28.2.1) ((s28.2.1).length) (y28.2.2.1), .slice (y28.2.2.2.2.1) ((s28.2.2.1).length) (y28.2.2.2.2.2.1)], .r (y28.2.2.2.2.1) ((s28.2.2.1).length) (y28.2.2.2.2.2.1) 3 1 ((s28.2.2.1).flatMap e_i64), .r (y28.2.2.2.2.2.2.2.2.2.1) ((s28.2.2.2.2.2).length) (y28.2.2.2.2.2.2.2.2.2.2) 3 1 ((s28.2.2.2.2.2).flatMap e_i64), y483.2.2.2, .r (y483.2.1) ((s483.1).length) (y483.2.2.1) 95 8 ((y483.1).flatMap cellsV), .r (A17) ((r12.2).length) (c18) 3 1 ((r12.2).flatMap e_i64), e19, e20, e21, e22, e23, .m g2 26 [.int .i64 (p1.Raster.X0), .int .i64 (p1.Raster.Y0), .int .i64 (p1.Raster.Step), .int .i64 (p1.Raster.NX), .int .i64 (p1.Raster.NY), .slice (A0_1) ((p1.Cells).length) (c0_1)], .m g1 26 [.int .i64 (p0.Raster.X0), .int .i64 (p0.Raster.Y0), .int .i64 (p0.Raster.Step), .int .i64 (p0.Raster.NX), .int .i64 (p0.Raster.NY), .slice (A0_0) ((p0.Cells).length) (c0_0)]] ++ [.old w]) (fun s28 y28 => y28.2.2.2.1.low = 0 ∧ Has (K ++ [e19, e20, e21, e22, e23, y28.2.2.2.1]) (y28.2.1) ((s28.2.1).length) (y28.2.2.1) 1 e_i64 (s28.2.1) ∧ Has (K ++ [e19, e20, e21, e22, e23, y28.2.2.2.1]) (y28.2.2.2.2.2.2.2.1) ((s28.2.2.2.2.1).length) (y28.2.2.2.2.2.2.2.2.1) 1 e_i64 (s28.2.2.2.2.1) ∧ True) ?_ ?_
          · intro s28 y28 hx643 hG644
            obtain ⟨lo645, hs646, hs647, -⟩ := hG644
            subst hj28
            refine T_seq ?_
            refine T_reg ?_
            refine T_val (Ev_loadK rfl (i := 2) rfl rfl agg45) rfl ?_
            refine T_rowP (k := 3) rfl (by decide) (fun _ => rfl) (fun hn648 hs649 => ?_)
            obtain ⟨r650, h651, hx652⟩ := bnd_some hx643
            refine T_x (Wx_callL rfl (fun w1 hw1 => lidarref01_Out_ok (⟨(⟨s28.1, s28.2.1⟩ : S_lidarref01_Int), s28.2.2.1⟩ : S_lidarref01_Q) (Has.len' (Has.up (L := (K ++ [e19, e20, e21, e22, e23, y28.2.2.2.1, .r (y28.2.2.2.2.1) ((s28.2.2.1).length) (y28.2.2.2.2.2.1) 3 1 ((s28.2.2.1).flatMap e_i64)])) hs646 (SubE.app2 (SubE.cons2 (i := 0) rfl (SubE.cons2 (i := 1) rfl (SubE.cons2 (i := 2) rfl (SubE.cons2 (i := 3) rfl (SubE.cons2 (i := 4) rfl (SubE.cons2 (i := 5) rfl (SubE.nil)))))))))) (Has.len' (Has.up (L := (K ++ [e19, e20, e21, e22, e23, y28.2.2.2.1, .r (y28.2.2.2.2.1) ((s28.2.2.1).length) (y28.2.2.2.2.2.1) 3 1 ((s28.2.2.1).flatMap e_i64)])) hs649 (SubE.appR2 (SubE.cons2 (i := 6) rfl (SubE.nil))))) h651 w1 (okApp (K := K) (K2 := [e19, e20, e21, e22, e23, y28.2.2.2.1, .r (y28.2.2.2.2.1) ((s28.2.2.1).length) (y28.2.2.2.2.2.1) 3 1 ((s28.2.2.1).flatMap e_i64)]) hK (by exact (SubE.cons2 (i := 15) rfl (SubE.nil))) (by exact (SubE.cons2 (i := 8) rfl (SubE.cons2 (i := 9) rfl (SubE.cons2 (i := 10) rfl (SubE.cons2 (i := 11) rfl (SubE.cons2 (i := 12) rfl (SubE.cons2 (i := 0) rfl (SubE.cons2 (i := 3) rfl (SubE.nil))))))))) hw1)) rfl ?_)
            rintro _ _ hlo ⟨A653, c654, A655, c656, rfl, rfl, -⟩
            refine T_app2 ?_
            refine T_val (Ev_move rfl) rfl ?_
            refine T_val (Ev_extract rfl rfl) rfl ?_
            refine T_val (Ev_extract rfl rfl) rfl ?_
            refine T_x (Wx_alloc zer32 rfl (fun g657 => ?_))
            refine T_h (Wh_store rfl rfl rfl (.here) (.put (.put (.put (.done)))) rfl (List.cons_ne_nil _ _) agg32.2 ?_)
            refine T_val (Ev_assign rfl) rfl ?_
            refine T_nil ?_
            refine T_next ?_
            refine T_seq ?_
            refine T_reg ?_
            refine T_val (Ev_loadK rfl (i := 4) rfl rfl agg45) rfl ?_
            refine T_rowP (k := 7) rfl (by decide) (fun _ => rfl) (fun hn658 hs659 => ?_)
            obtain ⟨r660, h661, hx662⟩ := bnd_some hx652
            refine T_x (Wx_callL rfl (fun w1 hw1 => lidarref01_Out_ok (⟨(⟨s28.2.2.2.1, s28.2.2.2.2.1⟩ : S_lidarref01_Int), s28.2.2.2.2.2⟩ : S_lidarref01_Q) (Has.len' (Has.up (L := (K ++ [e19, e20, e21, e22, e23, y28.2.2.2.1, .r (y28.2.2.2.2.2.2.2.2.2.1) ((s28.2.2.2.2.2).length) (y28.2.2.2.2.2.2.2.2.2.2) 3 1 ((s28.2.2.2.2.2).flatMap e_i64)])) hs647 (SubE.app2 (SubE.cons2 (i := 0) rfl (SubE.cons2 (i := 1) rfl (SubE.cons2 (i := 2) rfl (SubE.cons2 (i := 3) rfl (SubE.cons2 (i := 4) rfl (SubE.cons2 (i := 5) rfl (SubE.nil)))))))))) (Has.len' (Has.up (L := (K ++ [e19, e20, e21, e22, e23, y28.2.2.2.1, .r (y28.2.2.2.2.2.2.2.2.2.1) ((s28.2.2.2.2.2).length) (y28.2.2.2.2.2.2.2.2.2.2) 3 1 ((s28.2.2.2.2.2).flatMap e_i64)])) hs659 (SubE.appR2 (SubE.cons2 (i := 6) rfl (SubE.nil))))) h661 w1 (okApp (K := K) (K2 := [e19, e20, e21, e22, e23, y28.2.2.2.1, .r (y28.2.2.2.2.2.2.2.2.2.1) ((s28.2.2.2.2.2).length) (y28.2.2.2.2.2.2.2.2.2.2) 3 1 ((s28.2.2.2.2.2).flatMap e_i64)]) hK (by exact (SubE.cons2 (i := 18) rfl (SubE.nil))) (by exact (SubE.cons2 (i := 11) rfl (SubE.cons2 (i := 12) rfl (SubE.cons2 (i := 13) rfl (SubE.cons2 (i := 14) rfl (SubE.cons2 (i := 15) rfl (SubE.cons2 (i := 3) rfl (SubE.cons2 (i := 7) rfl (SubE.nil))))))))) hw1)) rfl ?_)
            rintro _ _ hlo ⟨A663, c664, A665, c666, rfl, rfl, -⟩
            refine T_app2 ?_
            refine T_val (Ev_move rfl) rfl ?_
            refine T_val (Ev_extract rfl rfl) rfl ?_
            refine T_val (Ev_extract rfl rfl) rfl ?_
            refine T_x (Wx_alloc zer32 rfl (fun g667 => ?_))
            refine T_h (Wh_store rfl rfl rfl (.here) (.put (.put (.put (.done)))) rfl (List.cons_ne_nil _ _) agg32.2 ?_)
            refine T_val (Ev_assign rfl) rfl ?_
            refine T_nil ?_
            refine T_next ?_
            refine T_draw [0, 0, 0, 0, 1, 0, 0, 0, 1, 1, 1, 0, 2, 3, 2] [[], [], [], [1, 2], [1, 2, 3], [], [], [5, 6], [5, 6, 7], [], [], [1, 2, 3, 4, 5, 6, 7, 8, 9, 10], [1, 2, 3, 4, 5, 6, 7, 8, 9, 10, 11], [0, 1, 2, 3, 4, 5, 6, 7, 8, 9, 10, 11, 12], [0, 1, 2, 3, 4, 5, 6, 7, 8, 9, 10, 11, 12, 13]] (.q 0 (.q 1 (.q 2 (.q 3 (.q 4 (.q 5 (.q 6 (.q 7 (.q 8 (.q 9 (.q 10 (.q 11 (.e 12 (.e 13 (.e 14 (.done) (.stop)) (.stop)) (.stop)))))))))))))) mixed (by kernel_rfl) (by kernel_rfl) ?_
            refine P_p rfl rfl (Ev_move rfl) rfl ?_
            refine P_p rfl rfl (Ev_move rfl) rfl ?_
            refine P_p rfl rfl (Ev_move rfl) rfl ?_
            obtain ⟨x668, h669, hx670⟩ := bnd_some hx662
            refine T_idxR (k := 13) rfl (by decide) (fun _ => rfl) h669 (fun b671 j673 hA674 hj675 hl676 hm678 hp677 => ?_)
            refine P_p rfl rfl (Ev_index rfl rfl hA674 (j := j673) hj675 hl676 slc27) rfl ?_
            refine P_q rfl rfl (Ev_loadP0 rfl hp677 (SubE.cons2 (i := 13) rfl (SubE.nil)) rfl one3) rfl ?_
            refine P_p rfl rfl (Ev_move rfl) rfl ?_
            refine P_p rfl rfl (Ev_move rfl) rfl ?_
            obtain ⟨x679, h680, hx681⟩ := bnd_some hx670
            obtain ⟨b682, o683, j684, ys692, hA685, hj686, hl687, hp688, hr693⟩ := HasN.at_idx hs30 h680
            obtain ⟨A689, c690, rfl, hs691⟩ := hr693
            have hp694 := Pt.low (E := [e19, e20, e21, e22, e23]) hp688 hK
            refine P_p rfl rfl (Ev_index rfl rfl hA685 (j := j684) hj686 hl687 slc91) rfl ?_
            refine P_q rfl rfl (Ev_loadP0 rfl hp694 (SubE.cons2 (i := 21) rfl (SubE.cons2 (i := 14) rfl (SubE.cons2 (i := 15) rfl (SubE.cons2 (i := 16) rfl (SubE.cons2 (i := 17) rfl (SubE.cons2 (i := 18) rfl (SubE.nil))))))) rfl one27) rfl ?_
            refine P_q rfl rfl (Ev_loadK rfl (i := 3) rfl rfl agg32) rfl ?_
            refine P_q rfl rfl (Ev_loadK rfl (i := 0) rfl rfl agg32) rfl ?_
            refine P_p rfl rfl (Ev_build rfl (bld95_0i641s2abss3abss _ _ _ _ _ _ _ _ _ _ _ _ _ _ _ _ _ _)) rfl ?_
            refine P_x rfl (Wx_buildSlice rfl (bls88_1_0ai64sbssbss _ _ _ _ _ _ _ _ _ _ _ _ _ _ _ _ _ _) rfl (fun g695 => ?_)) ?_
            rotate_left; exact P_stop
            refine T_rowP (k := 5) rfl (by decide) (fun _ => rfl) (fun hn696 hs697 => ?_)
            refine T_rowP (k := 6) rfl (by decide) (fun _ => rfl) (fun hn698 hs699 => ?_)
            refine T_rowP (k := 2) rfl (by decide) (fun _ => rfl) (fun hn700 hs701 => ?_)
            refine T_rowP (k := 3) rfl (by decide) (fun _ => rfl) (fun hn702 hs703 => ?_)
            have hr704 : RowN (K ++ [e19, e20, e21, e22, e23, y483.2.2.2, .r (A653) ((r650.1.Num).length) (c654) 105 1 ((r650.1.Num).flatMap e_u32), .r (A655) ((r650.1.Den).length) (c656) 105 1 ((r650.1.Den).flatMap e_u32), .r (A663) ((r660.1.Num).length) (c664) 105 1 ((r660.1.Num).flatMap e_u32), .r (A665) ((r660.1.Den).length) (c666) 105 1 ((r660.1.Den).flatMap e_u32)]) n_api_Region (y483.1 ++ [(⟨[.int .i64 (x668), .slice (A689) ((x679).length) (c690), .bool (r650.1.Neg), .slice (A653) ((r650.1.Num).length) (c654), .slice (A655) ((r650.1.Den).length) (c656), .bool (r660.1.Neg), .slice (A663) ((r660.1.Num).length) (c664), .slice (A665) ((r660.1.Den).length) (c666)], rfl⟩ : Vec 8)]) (s483.1 ++ [(⟨x668, x679, r650.1, r660.1⟩ : S_api_Region)]) := RowN.snoc (RowN.up (R := n_api_Region) (L := (K ++ [e19, e20, e21, e22, e23, y483.2.2.2, .r (A653) ((r650.1.Num).length) (c654) 105 1 ((r650.1.Num).flatMap e_u32), .r (A655) ((r650.1.Den).length) (c656) 105 1 ((r650.1.Den).flatMap e_u32), .r (A663) ((r660.1.Num).length) (c664) 105 1 ((r660.1.Num).flatMap e_u32), .r (A665) ((r660.1.Den).length) (c666) 105 1 ((r660.1.Den).flatMap e_u32)])) n_api_Region_mono hr485 (SubE.app2 (SubE.cons2 (i := 0) rfl (SubE.cons2 (i := 1) rfl (SubE.cons2 (i := 2) rfl (SubE.cons2 (i := 3) rfl (SubE.cons2 (i := 4) rfl (SubE.cons2 (i := 5) rfl (SubE.nil))))))))) ⟨A689, c690, A653, c654, A655, c656, A663, c664, A665, c666, rfl, Has.len' (Has.up (L := (K ++ [e19, e20, e21, e22, e23, y483.2.2.2, .r (A653) ((r650.1.Num).length) (c654) 105 1 ((r650.1.Num).flatMap e_u32), .r (A655) ((r650.1.Den).length) (c656) 105 1 ((r650.1.Den).flatMap e_u32), .r (A663) ((r660.1.Num).length) (c664) 105 1 ((r660.1.Num).flatMap e_u32), .r (A665) ((r660.1.Den).length) (c666) 105 1 ((r660.1.Den).flatMap e_u32)])) hs691 (SubE.app2 (SubE.cons2 (i := 0) rfl (SubE.cons2 (i := 1) rfl (SubE.cons2 (i := 2) rfl (SubE.cons2 (i := 3) rfl (SubE.cons2 (i := 4) rfl (SubE.nil)))))))), Has.len' (Has.up (L := (K ++ [e19, e20, e21, e22, e23, y483.2.2.2, .r (A653) ((r650.1.Num).length) (c654) 105 1 ((r650.1.Num).flatMap e_u32), .r (A655) ((r650.1.Den).length) (c656) 105 1 ((r650.1.Den).flatMap e_u32), .r (A663) ((r660.1.Num).length) (c664) 105 1 ((r660.1.Num).flatMap e_u32), .r (A665) ((r660.1.Den).length) (c666) 105 1 ((r660.1.Den).flatMap e_u32)])) hs697 (SubE.appR2 (SubE.cons2 (i := 6) rfl (SubE.nil)))), Has.len' (Has.up (L := (K ++ [e19, e20, e21, e22, e23, y483.2.2.2, .r (A653) ((r650.1.Num).length) (c654) 105 1 ((r650.1.Num).flatMap e_u32), .r (A655) ((r650.1.Den).length) (c656) 105 1 ((r650.1.Den).flatMap e_u32), .r (A663) ((r660.1.Num).length) (c664) 105 1 ((r660.1.Num).flatMap e_u32), .r (A665) ((r660.1.Den).length) (c666) 105 1 ((r660.1.Den).flatMap e_u32)])) hs699 (SubE.appR2 (SubE.cons2 (i := 7) rfl (SubE.nil)))), Has.len' (Has.up (L := (K ++ [e19, e20, e21, e22, e23, y483.2.2.2, .r (A653) ((r650.1.Num).length) (c654) 105 1 ((r650.1.Num).flatMap e_u32), .r (A655) ((r650.1.Den).length) (c656) 105 1 ((r650.1.Den).flatMap e_u32), .r (A663) ((r660.1.Num).length) (c664) 105 1 ((r660.1.Num).flatMap e_u32), .r (A665) ((r660.1.Den).length) (c666) 105 1 ((r660.1.Den).flatMap e_u32)])) hs701 (SubE.appR2 (SubE.cons2 (i := 8) rfl (SubE.nil)))), Has.len' (Has.up (L := (K ++ [e19, e20, e21, e22, e23, y483.2.2.2, .r (A653) ((r650.1.Num).length) (c654) 105 1 ((r650.1.Num).flatMap e_u32), .r (A655) ((r650.1.Den).length) (c656) 105 1 ((r650.1.Den).flatMap e_u32), .r (A663) ((r660.1.Num).length) (c664) 105 1 ((r660.1.Num).flatMap e_u32), .r (A665) ((r660.1.Den).length) (c666) 105 1 ((r660.1.Den).flatMap e_u32)])) hs703 (SubE.appR2 (SubE.cons2 (i := 9) rfl (SubE.nil))))⟩
            obtain ⟨h705, hx706⟩ := gd_some hx681
            refine P_h rfl rfl (Wh_appendP cellsV (y483.1) [(⟨[.int .i64 (x668), .slice (A689) ((x679).length) (c690), .bool (r650.1.Neg), .slice (A653) ((r650.1.Num).length) (c654), .slice (A655) ((r650.1.Den).length) (c656), .bool (r660.1.Neg), .slice (A663) ((r660.1.Num).length) (c664), .slice (A665) ((r660.1.Den).length) (c666)], rfl⟩ : Vec 8)] rfl rfl rfl elm88 (fun x => x.2) (i' := 0) rfl rfl rfl rfl (by have := RowN.len (hr485); have := h705; simp only [List.length_singleton, List.length_nil] at *; omega) rfl (fun _ _ => .there (.there (.there (.there (.there (.there (.there (.there (.there (.there (.there (.there (.there (.here)))))))))))))) (fun _ _ => .drop .refl) (by decide) (fun A707 c708 => ?_)) ?_
            rotate_left; exact P_stop
            refine P_x rfl (Wx_val (Ev_assign rfl) rfl ?_) ?_
            rotate_left; exact P_stop
            refine P_done ?_
            refine T_inN ?_
            refine T_next ?_
            refine T_reg ?_
            refine T_val (Ev_move rfl) rfl ?_
            refine T_val (Ev_add_w64 rfl rfl) rfl ?_
            refine T_val (Ev_assign rfl) rfl ?_
            refine T_nil ?_
            refine T_bundle (es := [y483.2.2.2, .r (A653) ((r650.1.Num).length) (c654) 105 1 ((r650.1.Num).flatMap e_u32), .r (A655) ((r650.1.Den).length) (c656) 105 1 ((r650.1.Den).flatMap e_u32), .r (A663) ((r660.1.Num).length) (c664) 105 1 ((r660.1.Num).flatMap e_u32), .r (A665) ((r660.1.Den).length) (c666) 105 1 ((r660.1.Den).flatMap e_u32)]) (by exact .pick 11 rfl (.pick 4 rfl (.pick 4 rfl (.pick 1 rfl (.pick 1 rfl (.refl)))))) (loCons lo484 (loCons rfl (loCons rfl (loCons rfl (loCons rfl (loNil)))))) ?_
            have hn709 : (y483.1 ++ [(⟨[.int .i64 (x668), .slice (A689) ((x679).length) (c690), .bool (r650.1.Neg), .slice (A653) ((r650.1.Num).length) (c654), .slice (A655) ((r650.1.Den).length) (c656), .bool (r660.1.Neg), .slice (A663) ((r660.1.Num).length) (c664), .slice (A665) ((r660.1.Den).length) (c666)], rfl⟩ : Vec 8)]).length = (s483.1 ++ [(⟨x668, x679, r650.1, r660.1⟩ : S_api_Region)]).length := RowN.len hr704
            refine T_ent (.there (.there (.there (.there (.there (.there (.there (.there (.here))))))))) (e' := .r (A707) ((s483.1 ++ [(⟨x668, x679, r650.1, r660.1⟩ : S_api_Region)]).length) (c708) 95 8 ((y483.1 ++ [(⟨[.int .i64 (x668), .slice (A689) ((x679).length) (c690), .bool (r650.1.Neg), .slice (A653) ((r650.1.Num).length) (c654), .slice (A655) ((r650.1.Den).length) (c656), .bool (r660.1.Neg), .slice (A663) ((r660.1.Num).length) (c664), .slice (A665) ((r660.1.Den).length) (c666)], rfl⟩ : Vec 8)]).flatMap cellsV)) (by first | (rw [← hn709]; done) | rfl) ?_
            refine T_slot (s := 11) (v' := .slice (A707) ((s483.1 ++ [(⟨x668, x679, r650.1, r660.1⟩ : S_api_Region)]).length) (c708)) rfl (by have hn710 : ((y483.1 ++ [(⟨[.int .i64 (x668), .slice (A689) ((x679).length) (c690), .bool (r650.1.Neg), .slice (A653) ((r650.1.Num).length) (c654), .slice (A655) ((r650.1.Den).length) (c656), .bool (r660.1.Neg), .slice (A663) ((r660.1.Num).length) (c664), .slice (A665) ((r660.1.Den).length) (c666)], rfl⟩ : Vec 8)]).length) = (s483.1 ++ [(⟨x668, x679, r650.1, r660.1⟩ : S_api_Region)]).length := (RowN.len hr704); first | (rw [← hn710]; done) | rfl) ?_
            exact T_roundP (s483.1 ++ [(⟨x668, x679, r650.1, r660.1⟩ : S_api_Region)], w64 (s483.2 + 1)) (y483.1 ++ [(⟨[.int .i64 (x668), .slice (A689) ((x679).length) (c690), .bool (r650.1.Neg), .slice (A653) ((r650.1.Num).length) (c654), .slice (A655) ((r650.1.Den).length) (c656), .bool (r660.1.Neg), .slice (A663) ((r660.1.Num).length) (c664), .slice (A665) ((r660.1.Den).length) (c666)], rfl⟩ : Vec 8)], A707, c708, bun [y483.2.2.2, .r (A653) ((r650.1.Num).length) (c654) 105 1 ((r650.1.Num).flatMap e_u32), .r (A655) ((r650.1.Den).length) (c656) 105 1 ((r650.1.Den).flatMap e_u32), .r (A663) ((r660.1.Num).length) (c664) 105 1 ((r660.1.Num).flatMap e_u32), .r (A665) ((r660.1.Den).length) (c666) 105 1 ((r660.1.Den).flatMap e_u32)]) hx706 ((by exact ⟨rfl, (RowN.up (R := n_api_Region) (L := (K ++ [e19, e20, e21, e22, e23, (bun [y483.2.2.2, .r (A653) ((r650.1.Num).length) (c654) 105 1 ((r650.1.Num).flatMap e_u32), .r (A655) ((r650.1.Den).length) (c656) 105 1 ((r650.1.Den).flatMap e_u32), .r (A663) ((r660.1.Num).length) (c664) 105 1 ((r660.1.Num).flatMap e_u32), .r (A665) ((r660.1.Den).length) (c666) 105 1 ((r660.1.Den).flatMap e_u32)])])) n_api_Region_mono hr704 (SubE.app2 (SubE.cons2 (i := 0) rfl (SubE.cons2 (i := 1) rfl (SubE.cons2 (i := 2) rfl (SubE.cons2 (i := 3) rfl (SubE.cons2 (i := 4) rfl (SubE.consB (i := 5) (j := 0) rfl rfl (SubE.consB (i := 5) (j := 1) rfl rfl (SubE.consB (i := 5) (j := 2) rfl rfl (SubE.consB (i := 5) (j := 3) rfl rfl (SubE.consB (i := 5) (j := 4) rfl rfl (SubE.nil))))))))))))), trivial⟩)) (by exact .cons rfl (.cons rfl (.cons rfl (.cons rfl (.cons rfl (.cons rfl (.nil))))))) (by exact .pick 0 rfl (.pick 7 rfl (.pick 7 rfl (.pick 7 rfl (.pick 7 rfl (.pick 7 rfl (.pick 7 rfl (.pick 7 rfl (.pick 7 rfl (.pick 7 rfl (.drop 0 rfl (.drop 0 rfl (.drop 0 rfl (.drop 0 rfl (.drop 0 rfl (.drop 0 rfl (.drop 0 rfl (.refl))))))))))))))))))
          · skip
            obtain ⟨x489, h490, hx528⟩ := bnd_some hx487
            obtain ⟨r505, h506, hx529⟩ := bnd_some hx528
            refine T_draw [1, 1, 0, 0, 0, 1, 2, 0, 0, 0, 2, 2, 3, 3] [[], [], [], [], [2, 3], [2, 3, 4], [0, 1, 2, 3, 4, 5], [0, 1, 2, 3, 4, 5, 6], [0, 1, 2, 3, 4, 5, 6, 7], [0, 1, 2, 3, 4, 5, 6, 7], [], [], [0, 1, 2, 3, 4, 5, 6, 7, 8, 10, 11], [0, 1, 2, 3, 4, 5, 6, 7, 8, 9, 10, 11, 12]] (.q 0 (.q 1 (.q 2 (.q 3 (.q 4 (.q 5 (.e 6 (.q 7 (.q 8 (.q 9 (.e 10 (.e 11 (.e 12 (.e 13 (.done) (.stop)) (.stop)) (.stop)) (.e 11 (.e 10 (.e 12 (.e 13 (.done) (.stop)) (.stop)) (.stop)) (.stop)))))) (.e 10 (.e 6 (.q 7 (.q 8 (.q 9 (.e 11 (.e 12 (.e 13 (.done) (.stop)) (.stop)) (.stop))))) (.e 11 (.e 6 (.q 7 (.q 8 (.q 9 (.e 12 (.e 13 (.done) (.stop)) (.stop))))) (.stop)) (.stop))) (.e 11 (.e 6 (.q 7 (.q 8 (.q 9 (.e 10 (.e 12 (.e 13 (.done) (.stop)) (.stop)) (.stop))))) (.e 10 (.e 6 (.q 7 (.q 8 (.q 9 (.e 12 (.e 13 (.done) (.stop)) (.stop))))) (.stop)) (.stop))) (.stop)))))))))) mixed (by kernel_rfl) (by kernel_rfl) ?_
            refine P_q rfl rfl (Ev_loadK rfl (i := 9) rfl rfl agg26) rfl ?_
            refine P_q rfl rfl (Ev_loadK rfl (i := 8) rfl rfl agg26) rfl ?_
            refine P_p rfl rfl (Ev_move rfl) rfl ?_
            refine P_p rfl rfl (Ev_move rfl) rfl ?_
            obtain ⟨b530, o531, j532, ys540, hA533, hj534, hl535, hp536, hr541⟩ := HasN.at_idx hs30 h490
            obtain ⟨A537, c538, rfl, hs539⟩ := hr541
            have hp542 := Pt.low (E := [e19, e20, e21, e22, e23]) hp536 hK
            refine P_p rfl rfl (Ev_index rfl rfl hA533 (j := j532) hj534 hl535 slc91) rfl ?_
            refine P_q rfl rfl (Ev_loadP0 rfl hp542 (SubE.cons2 (i := 10) rfl (SubE.cons2 (i := 3) rfl (SubE.cons2 (i := 4) rfl (SubE.cons2 (i := 5) rfl (SubE.cons2 (i := 6) rfl (SubE.cons2 (i := 7) rfl (SubE.nil))))))) rfl one27) rfl ?_
            refine P_x rfl (Wx_callL rfl (fun w1 hw1 => lidarref09_Amount_ok p0 p1 x489 (Has.len' (Has.up (L := (K ++ [e19, e20, e21, e22, e23])) ha0' (SubE.app2 SubE.nil))) (Has.len' (Has.up (L := (K ++ [e19, e20, e21, e22, e23])) ha1' (SubE.app2 SubE.nil))) (Has.len' hs539) h506 w1 (okApp (K := K) (K2 := [e19, e20, e21, e22, e23]) hK (by exact (SubE.cons2 (i := 10) rfl (SubE.nil))) (by exact (SubE.cons2 (i := 3) rfl (SubE.cons2 (i := 4) rfl (SubE.cons2 (i := 5) rfl (SubE.cons2 (i := 6) rfl (SubE.cons2 (i := 7) rfl (SubE.nil))))))) hw1)) rfl ?_) ?_
            · skip
              rintro _ _ hlo ⟨A543, c544, A545, c546, A547, c548, A549, c550, e551, e552, e553, rfl, rfl, hs554, hs555, -⟩
              have lo556 := hlo e551 (by simp)
              have lo557 := hlo e552 (by simp)
              have lo558 := hlo e553 (by simp)
              refine T_app5 ?_
              have hs559 : Has (K ++ [e19, e20, e21, e22, e23, e551, e552, e553]) _ _ _ _ _ _ := Has.assoc hs554
              have hs560 : Has (K ++ [e19, e20, e21, e22, e23, e551, e552, e553]) _ _ _ _ _ _ := Has.assoc hs555
              refine P_p rfl rfl (Ev_move rfl) rfl ?_
              refine P_p rfl rfl (Ev_extract rfl rfl) rfl ?_
              refine P_p rfl rfl (Ev_extract rfl rfl) rfl ?_
              refine P_x rfl (Wx_alloc zer45 rfl (fun g561 => ?_)) ?_
              · skip
                refine P_x rfl (Wx_alloc zer45 rfl (fun g562 => ?_)) ?_
                rotate_left; exact P_stop
                refine P_h rfl rfl (Wh_store rfl rfl rfl (.there (.here)) (.put (.put (.put (.done)))) rfl (List.cons_ne_nil _ _) agg45.2 ?_) ?_
                rotate_left; exact P_stop
                refine P_h rfl rfl (Wh_store rfl rfl rfl (.here) (.put (.put (.put (.done)))) rfl (List.cons_ne_nil _ _) agg45.2 ?_) ?_
                rotate_left; exact P_stop
                refine P_done ?_
                refine T_bundle (es := [e551, e552, e553]) (by exact .pick 4 rfl (.pick 4 rfl (.pick 4 rfl (.refl)))) (loCons lo556 (loCons lo557 (loCons lo558 (loNil)))) ?_
                exact T_metP (r505.1.N.Neg, r505.1.N.L, r505.1.D, r505.2.N.Neg, r505.2.N.L, r505.2.D) (g561, A543, c544, bun [e551, e552, e553], A545, c546, g562, A547, c548, A549, c550) hx529 ((by exact ⟨rfl, Has.len' ((Has.up (L := (K ++ [e19, e20, e21, e22, e23, (bun [e551, e552, e553])])) hs559 (SubE.app2 (SubE.cons2 (i := 0) rfl (SubE.cons2 (i := 1) rfl (SubE.cons2 (i := 2) rfl (SubE.cons2 (i := 3) rfl (SubE.cons2 (i := 4) rfl (SubE.consB (i := 5) (j := 0) rfl rfl (SubE.consB (i := 5) (j := 1) rfl rfl (SubE.consB (i := 5) (j := 2) rfl rfl (SubE.nil)))))))))))), Has.len' ((Has.up (L := (K ++ [e19, e20, e21, e22, e23, (bun [e551, e552, e553])])) hs560 (SubE.app2 (SubE.cons2 (i := 0) rfl (SubE.cons2 (i := 1) rfl (SubE.cons2 (i := 2) rfl (SubE.cons2 (i := 3) rfl (SubE.cons2 (i := 4) rfl (SubE.consB (i := 5) (j := 0) rfl rfl (SubE.consB (i := 5) (j := 1) rfl rfl (SubE.consB (i := 5) (j := 2) rfl rfl (SubE.nil)))))))))))), trivial⟩)) (by exact .cons rfl (.cons rfl (.cons rfl (.cons rfl (.cons rfl (.cons rfl (.cons rfl (.cons rfl (.nil))))))))) (by exact .pick 0 rfl (.pick 0 rfl (.pick 0 rfl (.pick 0 rfl (.pick 0 rfl (.pick 0 rfl (.pick 0 rfl (.pick 0 rfl (.pick 0 rfl (.pick 0 rfl (.pick 0 rfl (.pick 0 rfl (.pick 0 rfl (.pick 0 rfl (.pick 0 rfl (.refl))))))))))))))))
              · skip
                refine P_x rfl (Wx_alloc zer45 rfl (fun g563 => ?_)) ?_
                rotate_left; exact P_stop
                refine P_x rfl (Wx_alloc zer45 rfl (fun g564 => ?_)) ?_
                rotate_left; exact P_stop
                refine P_h rfl rfl (Wh_store rfl rfl rfl (.here) (.put (.put (.put (.done)))) rfl (List.cons_ne_nil _ _) agg45.2 ?_) ?_
                rotate_left; exact P_stop
                refine P_h rfl rfl (Wh_store rfl rfl rfl (.there (.here)) (.put (.put (.put (.done)))) rfl (List.cons_ne_nil _ _) agg45.2 ?_) ?_
                rotate_left; exact P_stop
                refine P_done ?_
                refine T_bundle (es := [e551, e552, e553]) (by exact .pick 4 rfl (.pick 4 rfl (.pick 4 rfl (.refl)))) (loCons lo556 (loCons lo557 (loCons lo558 (loNil)))) ?_
                exact T_metP (r505.1.N.Neg, r505.1.N.L, r505.1.D, r505.2.N.Neg, r505.2.N.L, r505.2.D) (g564, A543, c544, bun [e551, e552, e553], A545, c546, g563, A547, c548, A549, c550) hx529 ((by exact ⟨rfl, Has.len' ((Has.up (L := (K ++ [e19, e20, e21, e22, e23, (bun [e551, e552, e553])])) hs559 (SubE.app2 (SubE.cons2 (i := 0) rfl (SubE.cons2 (i := 1) rfl (SubE.cons2 (i := 2) rfl (SubE.cons2 (i := 3) rfl (SubE.cons2 (i := 4) rfl (SubE.consB (i := 5) (j := 0) rfl rfl (SubE.consB (i := 5) (j := 1) rfl rfl (SubE.consB (i := 5) (j := 2) rfl rfl (SubE.nil)))))))))))), Has.len' ((Has.up (L := (K ++ [e19, e20, e21, e22, e23, (bun [e551, e552, e553])])) hs560 (SubE.app2 (SubE.cons2 (i := 0) rfl (SubE.cons2 (i := 1) rfl (SubE.cons2 (i := 2) rfl (SubE.cons2 (i := 3) rfl (SubE.cons2 (i := 4) rfl (SubE.consB (i := 5) (j := 0) rfl rfl (SubE.consB (i := 5) (j := 1) rfl rfl (SubE.consB (i := 5) (j := 2) rfl rfl (SubE.nil)))))))))))), trivial⟩)) (by exact .cons rfl (.cons rfl (.cons rfl (.cons rfl (.cons rfl (.cons rfl (.cons rfl (.cons rfl (.nil))))))))) (by exact .pick 0 rfl (.pick 1 rfl (.pick 0 rfl (.pick 0 rfl (.pick 0 rfl (.pick 0 rfl (.pick 0 rfl (.pick 0 rfl (.pick 0 rfl (.pick 0 rfl (.pick 0 rfl (.pick 0 rfl (.pick 0 rfl (.pick 0 rfl (.pick 0 rfl (.refl))))))))))))))))
            · skip
              refine P_x rfl (Wx_alloc zer45 rfl (fun g565 => ?_)) ?_
              · skip
                refine P_x rfl (Wx_callL rfl (fun w1 hw1 => lidarref09_Amount_ok p0 p1 x489 (Has.len' (Has.up (L := (K ++ [e19, e20, e21, e22, e23])) ha0' (SubE.app2 SubE.nil))) (Has.len' (Has.up (L := (K ++ [e19, e20, e21, e22, e23])) ha1' (SubE.app2 SubE.nil))) (Has.len' hs539) h506 w1 (okApp (K := K) (K2 := [e19, e20, e21, e22, e23]) hK (by exact (SubE.cons2 (i := 11) rfl (SubE.nil))) (by exact (SubE.cons2 (i := 4) rfl (SubE.cons2 (i := 5) rfl (SubE.cons2 (i := 6) rfl (SubE.cons2 (i := 7) rfl (SubE.cons2 (i := 8) rfl (SubE.nil))))))) hw1)) rfl ?_) ?_
                · skip
                  rintro _ _ hlo ⟨A566, c567, A568, c569, A570, c571, A572, c573, e574, e575, e576, rfl, rfl, hs577, hs578, -⟩
                  have lo579 := hlo e574 (by simp)
                  have lo580 := hlo e575 (by simp)
                  have lo581 := hlo e576 (by simp)
                  refine T_app5 ?_
                  have hs582 : Has (K ++ [e19, e20, e21, e22, e23, e574, e575, e576]) _ _ _ _ _ _ := Has.assoc hs577
                  have hs583 : Has (K ++ [e19, e20, e21, e22, e23, e574, e575, e576]) _ _ _ _ _ _ := Has.assoc hs578
                  refine P_p rfl rfl (Ev_move rfl) rfl ?_
                  refine P_p rfl rfl (Ev_extract rfl rfl) rfl ?_
                  refine P_p rfl rfl (Ev_extract rfl rfl) rfl ?_
                  refine P_x rfl (Wx_alloc zer45 rfl (fun g584 => ?_)) ?_
                  rotate_left; exact P_stop
                  refine P_h rfl rfl (Wh_store rfl rfl rfl (.there (.there (.there (.there (.there (.there (.here))))))) (.put (.put (.put (.done)))) rfl (List.cons_ne_nil _ _) agg45.2 ?_) ?_
                  rotate_left; exact P_stop
                  refine P_h rfl rfl (Wh_store rfl rfl rfl (.here) (.put (.put (.put (.done)))) rfl (List.cons_ne_nil _ _) agg45.2 ?_) ?_
                  rotate_left; exact P_stop
                  refine P_done ?_
                  refine T_bundle (es := [e574, e575, e576]) (by exact .pick 3 rfl (.pick 3 rfl (.pick 3 rfl (.refl)))) (loCons lo579 (loCons lo580 (loCons lo581 (loNil)))) ?_
                  exact T_metP (r505.1.N.Neg, r505.1.N.L, r505.1.D, r505.2.N.Neg, r505.2.N.L, r505.2.D) (g565, A566, c567, bun [e574, e575, e576], A568, c569, g584, A570, c571, A572, c573) hx529 ((by exact ⟨rfl, Has.len' ((Has.up (L := (K ++ [e19, e20, e21, e22, e23, (bun [e574, e575, e576])])) hs582 (SubE.app2 (SubE.cons2 (i := 0) rfl (SubE.cons2 (i := 1) rfl (SubE.cons2 (i := 2) rfl (SubE.cons2 (i := 3) rfl (SubE.cons2 (i := 4) rfl (SubE.consB (i := 5) (j := 0) rfl rfl (SubE.consB (i := 5) (j := 1) rfl rfl (SubE.consB (i := 5) (j := 2) rfl rfl (SubE.nil)))))))))))), Has.len' ((Has.up (L := (K ++ [e19, e20, e21, e22, e23, (bun [e574, e575, e576])])) hs583 (SubE.app2 (SubE.cons2 (i := 0) rfl (SubE.cons2 (i := 1) rfl (SubE.cons2 (i := 2) rfl (SubE.cons2 (i := 3) rfl (SubE.cons2 (i := 4) rfl (SubE.consB (i := 5) (j := 0) rfl rfl (SubE.consB (i := 5) (j := 1) rfl rfl (SubE.consB (i := 5) (j := 2) rfl rfl (SubE.nil)))))))))))), trivial⟩)) (by exact .cons rfl (.cons rfl (.cons rfl (.cons rfl (.cons rfl (.cons rfl (.cons rfl (.cons rfl (.nil))))))))) (by exact .pick 0 rfl (.pick 0 rfl (.pick 2 rfl (.pick 0 rfl (.pick 0 rfl (.pick 0 rfl (.pick 0 rfl (.pick 0 rfl (.pick 0 rfl (.pick 0 rfl (.pick 0 rfl (.pick 0 rfl (.pick 0 rfl (.pick 0 rfl (.pick 0 rfl (.refl))))))))))))))))
                · skip
                  refine P_x rfl (Wx_alloc zer45 rfl (fun g585 => ?_)) ?_
                  rotate_left; exact P_stop
                  refine P_x rfl (Wx_callL rfl (fun w1 hw1 => lidarref09_Amount_ok p0 p1 x489 (Has.len' (Has.up (L := (K ++ [e19, e20, e21, e22, e23])) ha0' (SubE.app2 SubE.nil))) (Has.len' (Has.up (L := (K ++ [e19, e20, e21, e22, e23])) ha1' (SubE.app2 SubE.nil))) (Has.len' hs539) h506 w1 (okApp (K := K) (K2 := [e19, e20, e21, e22, e23]) hK (by exact (SubE.cons2 (i := 12) rfl (SubE.nil))) (by exact (SubE.cons2 (i := 5) rfl (SubE.cons2 (i := 6) rfl (SubE.cons2 (i := 7) rfl (SubE.cons2 (i := 8) rfl (SubE.cons2 (i := 9) rfl (SubE.nil))))))) hw1)) rfl ?_) ?_
                  rotate_left; exact P_stop
                  rintro _ _ hlo ⟨A586, c587, A588, c589, A590, c591, A592, c593, e594, e595, e596, rfl, rfl, hs597, hs598, -⟩
                  have lo599 := hlo e594 (by simp)
                  have lo600 := hlo e595 (by simp)
                  have lo601 := hlo e596 (by simp)
                  refine T_app5 ?_
                  have hs602 : Has (K ++ [e19, e20, e21, e22, e23, e594, e595, e596]) _ _ _ _ _ _ := Has.assoc hs597
                  have hs603 : Has (K ++ [e19, e20, e21, e22, e23, e594, e595, e596]) _ _ _ _ _ _ := Has.assoc hs598
                  refine P_p rfl rfl (Ev_move rfl) rfl ?_
                  refine P_p rfl rfl (Ev_extract rfl rfl) rfl ?_
                  refine P_p rfl rfl (Ev_extract rfl rfl) rfl ?_
                  refine P_h rfl rfl (Wh_store rfl rfl rfl (.there (.there (.there (.there (.there (.there (.here))))))) (.put (.put (.put (.done)))) rfl (List.cons_ne_nil _ _) agg45.2 ?_) ?_
                  rotate_left; exact P_stop
                  refine P_h rfl rfl (Wh_store rfl rfl rfl (.there (.there (.there (.there (.there (.here)))))) (.put (.put (.put (.done)))) rfl (List.cons_ne_nil _ _) agg45.2 ?_) ?_
                  rotate_left; exact P_stop
                  refine P_done ?_
                  refine T_bundle (es := [e594, e595, e596]) (by exact .pick 2 rfl (.pick 2 rfl (.pick 2 rfl (.refl)))) (loCons lo599 (loCons lo600 (loCons lo601 (loNil)))) ?_
                  exact T_metP (r505.1.N.Neg, r505.1.N.L, r505.1.D, r505.2.N.Neg, r505.2.N.L, r505.2.D) (g565, A586, c587, bun [e594, e595, e596], A588, c589, g585, A590, c591, A592, c593) hx529 ((by exact ⟨rfl, Has.len' ((Has.up (L := (K ++ [e19, e20, e21, e22, e23, (bun [e594, e595, e596])])) hs602 (SubE.app2 (SubE.cons2 (i := 0) rfl (SubE.cons2 (i := 1) rfl (SubE.cons2 (i := 2) rfl (SubE.cons2 (i := 3) rfl (SubE.cons2 (i := 4) rfl (SubE.consB (i := 5) (j := 0) rfl rfl (SubE.consB (i := 5) (j := 1) rfl rfl (SubE.consB (i := 5) (j := 2) rfl rfl (SubE.nil)))))))))))), Has.len' ((Has.up (L := (K ++ [e19, e20, e21, e22, e23, (bun [e594, e595, e596])])) hs603 (SubE.app2 (SubE.cons2 (i := 0) rfl (SubE.cons2 (i := 1) rfl (SubE.cons2 (i := 2) rfl (SubE.cons2 (i := 3) rfl (SubE.cons2 (i := 4) rfl (SubE.consB (i := 5) (j := 0) rfl rfl (SubE.consB (i := 5) (j := 1) rfl rfl (SubE.consB (i := 5) (j := 2) rfl rfl (SubE.nil)))))))))))), trivial⟩)) (by exact .cons rfl (.cons rfl (.cons rfl (.cons rfl (.cons rfl (.cons rfl (.cons rfl (.cons rfl (.nil))))))))) (by exact .pick 0 rfl (.pick 2 rfl (.pick 2 rfl (.pick 0 rfl (.pick 0 rfl (.pick 0 rfl (.pick 0 rfl (.pick 0 rfl (.pick 0 rfl (.pick 0 rfl (.pick 0 rfl (.pick 0 rfl (.pick 0 rfl (.pick 0 rfl (.pick 0 rfl (.refl))))))))))))))))
              · skip
                refine P_x rfl (Wx_alloc zer45 rfl (fun g604 => ?_)) ?_
                rotate_left; exact P_stop
                refine P_x rfl (Wx_callL rfl (fun w1 hw1 => lidarref09_Amount_ok p0 p1 x489 (Has.len' (Has.up (L := (K ++ [e19, e20, e21, e22, e23])) ha0' (SubE.app2 SubE.nil))) (Has.len' (Has.up (L := (K ++ [e19, e20, e21, e22, e23])) ha1' (SubE.app2 SubE.nil))) (Has.len' hs539) h506 w1 (okApp (K := K) (K2 := [e19, e20, e21, e22, e23]) hK (by exact (SubE.cons2 (i := 11) rfl (SubE.nil))) (by exact (SubE.cons2 (i := 4) rfl (SubE.cons2 (i := 5) rfl (SubE.cons2 (i := 6) rfl (SubE.cons2 (i := 7) rfl (SubE.cons2 (i := 8) rfl (SubE.nil))))))) hw1)) rfl ?_) ?_
                · skip
                  rintro _ _ hlo ⟨A605, c606, A607, c608, A609, c610, A611, c612, e613, e614, e615, rfl, rfl, hs616, hs617, -⟩
                  have lo618 := hlo e613 (by simp)
                  have lo619 := hlo e614 (by simp)
                  have lo620 := hlo e615 (by simp)
                  refine T_app5 ?_
                  have hs621 : Has (K ++ [e19, e20, e21, e22, e23, e613, e614, e615]) _ _ _ _ _ _ := Has.assoc hs616
                  have hs622 : Has (K ++ [e19, e20, e21, e22, e23, e613, e614, e615]) _ _ _ _ _ _ := Has.assoc hs617
                  refine P_p rfl rfl (Ev_move rfl) rfl ?_
                  refine P_p rfl rfl (Ev_extract rfl rfl) rfl ?_
                  refine P_p rfl rfl (Ev_extract rfl rfl) rfl ?_
                  refine P_x rfl (Wx_alloc zer45 rfl (fun g623 => ?_)) ?_
                  rotate_left; exact P_stop
                  refine P_h rfl rfl (Wh_store rfl rfl rfl (.here) (.put (.put (.put (.done)))) rfl (List.cons_ne_nil _ _) agg45.2 ?_) ?_
                  rotate_left; exact P_stop
                  refine P_h rfl rfl (Wh_store rfl rfl rfl (.there (.there (.there (.there (.there (.there (.here))))))) (.put (.put (.put (.done)))) rfl (List.cons_ne_nil _ _) agg45.2 ?_) ?_
                  rotate_left; exact P_stop
                  refine P_done ?_
                  refine T_bundle (es := [e613, e614, e615]) (by exact .pick 3 rfl (.pick 3 rfl (.pick 3 rfl (.refl)))) (loCons lo618 (loCons lo619 (loCons lo620 (loNil)))) ?_
                  exact T_metP (r505.1.N.Neg, r505.1.N.L, r505.1.D, r505.2.N.Neg, r505.2.N.L, r505.2.D) (g623, A605, c606, bun [e613, e614, e615], A607, c608, g604, A609, c610, A611, c612) hx529 ((by exact ⟨rfl, Has.len' ((Has.up (L := (K ++ [e19, e20, e21, e22, e23, (bun [e613, e614, e615])])) hs621 (SubE.app2 (SubE.cons2 (i := 0) rfl (SubE.cons2 (i := 1) rfl (SubE.cons2 (i := 2) rfl (SubE.cons2 (i := 3) rfl (SubE.cons2 (i := 4) rfl (SubE.consB (i := 5) (j := 0) rfl rfl (SubE.consB (i := 5) (j := 1) rfl rfl (SubE.consB (i := 5) (j := 2) rfl rfl (SubE.nil)))))))))))), Has.len' ((Has.up (L := (K ++ [e19, e20, e21, e22, e23, (bun [e613, e614, e615])])) hs622 (SubE.app2 (SubE.cons2 (i := 0) rfl (SubE.cons2 (i := 1) rfl (SubE.cons2 (i := 2) rfl (SubE.cons2 (i := 3) rfl (SubE.cons2 (i := 4) rfl (SubE.consB (i := 5) (j := 0) rfl rfl (SubE.consB (i := 5) (j := 1) rfl rfl (SubE.consB (i := 5) (j := 2) rfl rfl (SubE.nil)))))))))))), trivial⟩)) (by exact .cons rfl (.cons rfl (.cons rfl (.cons rfl (.cons rfl (.cons rfl (.cons rfl (.cons rfl (.nil))))))))) (by exact .pick 0 rfl (.pick 3 rfl (.pick 0 rfl (.pick 0 rfl (.pick 0 rfl (.pick 0 rfl (.pick 0 rfl (.pick 0 rfl (.pick 0 rfl (.pick 0 rfl (.pick 0 rfl (.pick 0 rfl (.pick 0 rfl (.pick 0 rfl (.pick 0 rfl (.refl))))))))))))))))
                · skip
                  refine P_x rfl (Wx_alloc zer45 rfl (fun g624 => ?_)) ?_
                  rotate_left; exact P_stop
                  refine P_x rfl (Wx_callL rfl (fun w1 hw1 => lidarref09_Amount_ok p0 p1 x489 (Has.len' (Has.up (L := (K ++ [e19, e20, e21, e22, e23])) ha0' (SubE.app2 SubE.nil))) (Has.len' (Has.up (L := (K ++ [e19, e20, e21, e22, e23])) ha1' (SubE.app2 SubE.nil))) (Has.len' hs539) h506 w1 (okApp (K := K) (K2 := [e19, e20, e21, e22, e23]) hK (by exact (SubE.cons2 (i := 12) rfl (SubE.nil))) (by exact (SubE.cons2 (i := 5) rfl (SubE.cons2 (i := 6) rfl (SubE.cons2 (i := 7) rfl (SubE.cons2 (i := 8) rfl (SubE.cons2 (i := 9) rfl (SubE.nil))))))) hw1)) rfl ?_) ?_
                  rotate_left; exact P_stop
                  rintro _ _ hlo ⟨A625, c626, A627, c628, A629, c630, A631, c632, e633, e634, e635, rfl, rfl, hs636, hs637, -⟩
                  have lo638 := hlo e633 (by simp)
                  have lo639 := hlo e634 (by simp)
                  have lo640 := hlo e635 (by simp)
                  refine T_app5 ?_
                  have hs641 : Has (K ++ [e19, e20, e21, e22, e23, e633, e634, e635]) _ _ _ _ _ _ := Has.assoc hs636
                  have hs642 : Has (K ++ [e19, e20, e21, e22, e23, e633, e634, e635]) _ _ _ _ _ _ := Has.assoc hs637
                  refine P_p rfl rfl (Ev_move rfl) rfl ?_
                  refine P_p rfl rfl (Ev_extract rfl rfl) rfl ?_
                  refine P_p rfl rfl (Ev_extract rfl rfl) rfl ?_
                  refine P_h rfl rfl (Wh_store rfl rfl rfl (.there (.there (.there (.there (.there (.here)))))) (.put (.put (.put (.done)))) rfl (List.cons_ne_nil _ _) agg45.2 ?_) ?_
                  rotate_left; exact P_stop
                  refine P_h rfl rfl (Wh_store rfl rfl rfl (.there (.there (.there (.there (.there (.there (.here))))))) (.put (.put (.put (.done)))) rfl (List.cons_ne_nil _ _) agg45.2 ?_) ?_
                  rotate_left; exact P_stop
                  refine P_done ?_
                  refine T_bundle (es := [e633, e634, e635]) (by exact .pick 2 rfl (.pick 2 rfl (.pick 2 rfl (.refl)))) (loCons lo638 (loCons lo639 (loCons lo640 (loNil)))) ?_
                  exact T_metP (r505.1.N.Neg, r505.1.N.L, r505.1.D, r505.2.N.Neg, r505.2.N.L, r505.2.D) (g624, A625, c626, bun [e633, e634, e635], A627, c628, g604, A629, c630, A631, c632) hx529 ((by exact ⟨rfl, Has.len' ((Has.up (L := (K ++ [e19, e20, e21, e22, e23, (bun [e633, e634, e635])])) hs641 (SubE.app2 (SubE.cons2 (i := 0) rfl (SubE.cons2 (i := 1) rfl (SubE.cons2 (i := 2) rfl (SubE.cons2 (i := 3) rfl (SubE.cons2 (i := 4) rfl (SubE.consB (i := 5) (j := 0) rfl rfl (SubE.consB (i := 5) (j := 1) rfl rfl (SubE.consB (i := 5) (j := 2) rfl rfl (SubE.nil)))))))))))), Has.len' ((Has.up (L := (K ++ [e19, e20, e21, e22, e23, (bun [e633, e634, e635])])) hs642 (SubE.app2 (SubE.cons2 (i := 0) rfl (SubE.cons2 (i := 1) rfl (SubE.cons2 (i := 2) rfl (SubE.cons2 (i := 3) rfl (SubE.cons2 (i := 4) rfl (SubE.consB (i := 5) (j := 0) rfl rfl (SubE.consB (i := 5) (j := 1) rfl rfl (SubE.consB (i := 5) (j := 2) rfl rfl (SubE.nil)))))))))))), trivial⟩)) (by exact .cons rfl (.cons rfl (.cons rfl (.cons rfl (.cons rfl (.cons rfl (.cons rfl (.cons rfl (.nil))))))))) (by exact .pick 0 rfl (.pick 3 rfl (.pick 2 rfl (.pick 0 rfl (.pick 0 rfl (.pick 0 rfl (.pick 0 rfl (.pick 0 rfl (.pick 0 rfl (.pick 0 rfl (.pick 0 rfl (.pick 0 rfl (.pick 0 rfl (.pick 0 rfl (.pick 0 rfl (.refl))))))))))))))))
        · have hx488 := ite_f h486 hx483
          refine T_condF rfl ?_
          refine T_exit ?_
          refine T_outX ?_
          obtain rfl := exit_eq ht483 hx488
          refine T_outX ?_
          refine T_here ?_
          exact T_metP s483.1 (y483.1, y483.2.1, y483.2.2.1, y483.2.2.2) ho483 ((by exact ⟨lo484, (RowN.up (R := n_api_Region) (L := (K ++ [e19, e20, e21, e22, e23, y483.2.2.2])) n_api_Region_mono hr485 (SubE.app2 (SubE.cons2 (i := 0) rfl (SubE.cons2 (i := 1) rfl (SubE.cons2 (i := 2) rfl (SubE.cons2 (i := 3) rfl (SubE.cons2 (i := 4) rfl (SubE.cons2 (i := 5) rfl (SubE.nil))))))))), trivial⟩)) (by exact .cons rfl (.nil)) (by exact .pick 0 rfl (.pick 0 rfl (.pick 1 rfl (.pick 1 rfl (.pick 1 rfl (.pick 1 rfl (.pick 1 rfl (.drop 0 rfl (.drop 0 rfl (.drop 0 rfl (.refl)))))))))))
set_option maxRecDepth 100000 in
theorem lidarlaw09_ModelRegions_ok (p0 : S_api_Grid) (p1 : S_api_Grid) (p2 : Int) {K : List Ent} {A0_0 : Option Addr} {c0_0 : Nat} {A0_1 : Option Addr} {c0_1 : Nat} (ha0 : Has K A0_0 (p0.Cells).length c0_0 3 e_api_Cell (p0.Cells)) (ha1 : Has K A0_1 (p1.Cells).length c0_1 3 e_api_Cell (p1.Cells)) {r : Bool} (hx : lidarlaw09_ModelRegions p0 p1 p2 = some r) (w : World) (hK : ∀ e ∈ K, Ent.ok w e) : CtL Try.prog 14 [.agg #[.int .i64 (p0.Raster.X0), .int .i64 (p0.Raster.Y0), .int .i64 (p0.Raster.Step), .int .i64 (p0.Raster.NX), .int .i64 (p0.Raster.NY), .slice (A0_0) ((p0.Cells).length) (c0_0)], .agg #[.int .i64 (p1.Raster.X0), .int .i64 (p1.Raster.Y0), .int .i64 (p1.Raster.Step), .int .i64 (p1.Raster.NX), .int .i64 (p1.Raster.NY), .slice (A0_1) ((p1.Cells).length) (c0_1)], .int .i64 (p2)] w fun v Ln => v = .bool (r) ∧ Ln = [] ∧ True := by
  have ha0' := Has.up0 ha0
  have ha1' := Has.up0 ha1
  refine CtL.mk 119 Try.func14 rfl Try.ntmps14 (by kernel_rfl) rfl ?_
  show T 119 _ [(0, .agg #[.int .i64 (p0.Raster.X0), .int .i64 (p0.Raster.Y0), .int .i64 (p0.Raster.Step), .int .i64 (p0.Raster.NX), .int .i64 (p0.Raster.NY), .slice (A0_0) ((p0.Cells).length) (c0_0)]), (1, .agg #[.int .i64 (p1.Raster.X0), .int .i64 (p1.Raster.Y0), .int .i64 (p1.Raster.Step), .int .i64 (p1.Raster.NX), .int .i64 (p1.Raster.NY), .slice (A0_1) ((p1.Cells).length) (c0_1)]), (2, .int .i64 (p2))] _
  unfold lidarlaw09_ModelRegions at hx
  refine T_seq ?_
  refine T_reg ?_
  refine T_x (Wx_box rfl rfl rfl (fun g1 => ?_))
  refine T_x (Wx_box rfl rfl rfl (fun g2 => ?_))
  refine T_val (Ev_assign rfl) rfl ?_
  refine T_nil ?_
  refine T_next ?_
  refine T_seq ?_
  obtain ⟨j3, hj3, hx⟩ := jn_some hx
  refine T_cutP (τ := Bool) (γ := Unit) (J := j3) (out := r) (fun s3 y3 => [(2, .int .i64 (p2)), (3, .pointer (some ⟨g1, 0, none⟩)), (4, .pointer (some ⟨g2, 0, none⟩)), (21, .bool (s3))]) (fun s3 y3 => [.m g2 26 [.int .i64 (p1.Raster.X0), .int .i64 (p1.Raster.Y0), .int .i64 (p1.Raster.Step), .int .i64 (p1.Raster.NX), .int .i64 (p1.Raster.NY), .slice (A0_1) ((p1.Cells).length) (c0_1)], .m g1 26 [.int .i64 (p0.Raster.X0), .int .i64 (p0.Raster.Y0), .int .i64 (p0.Raster.Step), .int .i64 (p0.Raster.NX), .int .i64 (p0.Raster.NY), .slice (A0_0) ((p0.Cells).length) (c0_0)]] ++ [.old w]) (fun s3 y3 => True) ?_ ?_
  · intro s3 y3 hx12 hG13
    subst hj3
    refine T_caseB (s := 21) rfl (fun h14 => ?_) (fun h14 => ?_)
    · have hx15 := ite_t h14 hx12
      refine T_condT rfl ?_
      refine T_seq ?_
      refine T_reg ?_
      obtain ⟨r16, h17, hx18⟩ := bnd_some hx15
      refine T_x (Wx_callL rfl (fun w1 hw1 => lidarlaw09_first_ok  h17 w1) rfl ?_)
      rintro _ _ hlo ⟨rfl, rfl, -⟩
      refine T_app0 ?_
      refine T_val (Ev_assign rfl) rfl ?_
      refine T_nil ?_
      refine T_next ?_
      refine T_retc ?_
      refine T_outR ?_
      obtain rfl := Option.some.inj hx18
      exact T_retP (rs := [.tmp 6]) Try.results14 (.tmp rfl (.nil)) (Ln := []) ⟨rfl, rfl, trivial⟩ (loNil) (by exact .drop 0 rfl (.drop 0 rfl (.refl)))
    · have hx19 := ite_bf h14 hx12
      refine T_condF rfl ?_
      refine T_skip ?_
      refine T_next ?_
      refine T_seq ?_
      refine T_reg ?_
      refine T_val (Ev_loadK rfl (i := 1) rfl rfl agg26) rfl ?_
      refine T_val (Ev_loadK rfl (i := 0) rfl rfl agg26) rfl ?_
      refine T_val (Ev_move rfl) rfl ?_
      obtain ⟨r20, h21, hx22⟩ := bnd_some hx19
      refine T_x (Wx_callL rfl (fun w1 hw1 => model_Regions_ok p0 p1 p2 (Has.len' ha0') (Has.len' ha1') h21 w1 (okApp (K := K) (K2 := []) hK (by exact (SubE.cons2 (i := 2) rfl (SubE.nil))) (by exact (SubE.nil)) hw1)) rfl ?_)
      rintro _ _ hlo ⟨A23, c24, e25, e26, e27, rfl, rfl, hs28, -⟩
      have lo29 := hlo e25 (by simp)
      have lo30 := hlo e26 (by simp)
      have lo31 := hlo e27 (by simp)
      refine T_app3 ?_
      have hs32 : HasN (K ++ [e25, e26, e27]) _ _ _ _ _ _ := HasN.assoc hs28
      refine T_val (Ev_move rfl) rfl ?_
      refine T_val (Ev_extract rfl rfl) rfl ?_
      refine T_val (Ev_extract rfl rfl) rfl ?_
      refine T_val (Ev_assign rfl) rfl ?_
      refine T_val (Ev_assign rfl) rfl ?_
      refine T_nil ?_
      refine T_next ?_
      refine T_seq ?_
      refine T_reg ?_
      refine T_val (Ev_loadK rfl (i := 4) rfl rfl agg26) rfl ?_
      refine T_val (Ev_loadK rfl (i := 3) rfl rfl agg26) rfl ?_
      refine T_val (Ev_move rfl) rfl ?_
      obtain ⟨r33, h34, hx35⟩ := bnd_some hx22
      refine T_x (Wx_callL rfl (fun w1 hw1 => lidarref09_Regions_ok p0 p1 p2 (Has.len' ha0') (Has.len' ha1') h34 w1 (okApp (K := K) (K2 := []) hK (by exact (SubE.cons2 (i := 5) rfl (SubE.nil))) (by exact (SubE.nil)) hw1)) rfl ?_)
      rintro _ _ hlo ⟨A36, c37, e38, e39, e40, e41, e42, e43, e44, rfl, rfl, hs45, -⟩
      have lo46 := hlo e38 (by simp)
      have lo47 := hlo e39 (by simp)
      have lo48 := hlo e40 (by simp)
      have lo49 := hlo e41 (by simp)
      have lo50 := hlo e42 (by simp)
      have lo51 := hlo e43 (by simp)
      have lo52 := hlo e44 (by simp)
      refine T_app7 ?_
      have hs53 : HasN (K ++ [e38, e39, e40, e41, e42, e43, e44]) _ _ _ _ _ _ := HasN.assoc hs45
      refine T_val (Ev_move rfl) rfl ?_
      refine T_val (Ev_extract rfl rfl) rfl ?_
      refine T_val (Ev_extract rfl rfl) rfl ?_
      refine T_val (Ev_assign rfl) rfl ?_
      refine T_val (Ev_assign rfl) rfl ?_
      refine T_nil ?_
      refine T_next ?_
      refine T_seq ?_
      obtain ⟨j8, hj8, hx35⟩ := jn_some hx35
      refine T_cutP (τ := Bool) (γ := Unit) (J := j8) (out := r) (fun s8 y8 => [(2, .int .i64 (p2)), (3, .pointer (some ⟨g1, 0, none⟩)), (4, .pointer (some ⟨g2, 0, none⟩)), (7, .slice (A23) ((r20.1).length) (c24)), (8, .int .i64 (r20.2)), (9, .slice (A36) ((r33.1).length) (c37)), (46, .bool (s8))]) (fun s8 y8 => [e38, e39, e40, e41, e42, e43, e44, e25, e26, e27, .m g2 26 [.int .i64 (p1.Raster.X0), .int .i64 (p1.Raster.Y0), .int .i64 (p1.Raster.Step), .int .i64 (p1.Raster.NX), .int .i64 (p1.Raster.NY), .slice (A0_1) ((p1.Cells).length) (c0_1)], .m g1 26 [.int .i64 (p0.Raster.X0), .int .i64 (p0.Raster.Y0), .int .i64 (p0.Raster.Step), .int .i64 (p0.Raster.NX), .int .i64 (p0.Raster.NY), .slice (A0_0) ((p0.Cells).length) (c0_0)]] ++ [.old w]) (fun s8 y8 => True) ?_ ?_
      · intro s8 y8 hx57 hG58
        subst hj8
        refine T_caseB (s := 46) rfl (fun h59 => ?_) (fun h59 => ?_)
        · have hx60 := ite_t h59 hx57
          refine T_condT rfl ?_
          refine T_seq ?_
          refine T_reg ?_
          refine T_val (Ev_assign rfl) rfl ?_
          refine T_nil ?_
          refine T_next ?_
          refine T_retc ?_
          refine T_outR ?_
          obtain rfl := Option.some.inj hx60
          exact T_retP (rs := [.tmp 6]) Try.results14 (.tmp rfl (.nil)) (Ln := []) ⟨rfl, rfl, trivial⟩ (loNil) (by exact .drop 0 rfl (.drop 0 rfl (.drop 0 rfl (.drop 0 rfl (.drop 0 rfl (.drop 0 rfl (.drop 0 rfl (.drop 0 rfl (.drop 0 rfl (.drop 0 rfl (.drop 0 rfl (.drop 0 rfl (.refl)))))))))))))
        · have hx61 := ite_bf h59 hx57
          refine T_condF rfl ?_
          refine T_skip ?_
          refine T_next ?_
          refine T_seq ?_
          refine T_seq ?_
          refine T_reg ?_
          refine T_val (Ev_move rfl) rfl ?_
          refine T_val (Ev_neq rfl rfl) rfl ?_
          refine T_nil ?_
          refine T_next ?_
          refine T_caseNP (s := 48) rfl (fun h62 => ?_) (fun h62 => ?_)
          · have hx63 := ite_f h62 hx61
            refine T_condT rfl ?_
            refine T_seq ?_
            refine T_reg ?_
            obtain ⟨r64, h65, hx66⟩ := bnd_some hx63
            refine T_x (Wx_callL rfl (fun w1 hw1 => lidarlaw09_first_ok  h65 w1) rfl ?_)
            rintro _ _ hlo ⟨rfl, rfl, -⟩
            refine T_app0 ?_
            refine T_val (Ev_assign rfl) rfl ?_
            refine T_nil ?_
            refine T_next ?_
            refine T_retc ?_
            refine T_outR ?_
            obtain rfl := Option.some.inj hx66
            exact T_retP (rs := [.tmp 6]) Try.results14 (.tmp rfl (.nil)) (Ln := []) ⟨rfl, rfl, trivial⟩ (loNil) (by exact .drop 0 rfl (.drop 0 rfl (.drop 0 rfl (.drop 0 rfl (.drop 0 rfl (.drop 0 rfl (.drop 0 rfl (.drop 0 rfl (.drop 0 rfl (.drop 0 rfl (.drop 0 rfl (.drop 0 rfl (.refl)))))))))))))
          · have hx67 := ite_t h62 hx61
            refine T_condF rfl ?_
            refine T_skip ?_
            refine T_next ?_
            refine T_seq ?_
            refine T_reg ?_
            refine T_val (Ev_loadK rfl (i := 11) rfl rfl agg26) rfl ?_
            refine T_val (Ev_loadK rfl (i := 10) rfl rfl agg26) rfl ?_
            refine T_val (Ev_move rfl) rfl ?_
            obtain ⟨r68, h69, hx70⟩ := bnd_some hx67
            refine T_x (Wx_callL rfl (fun w1 hw1 => lidarref09_Changed_ok p0 p1 p2 (Has.len' ha0') (Has.len' ha1') h69 w1 (okApp (K := K) (K2 := []) hK (by exact (SubE.cons2 (i := 12) rfl (SubE.nil))) (by exact (SubE.nil)) hw1)) rfl ?_)
            rintro _ _ hlo ⟨A71, c72, A73, c74, e75, e76, e77, e78, e79, rfl, rfl, hs80, -⟩
            have lo81 := hlo e75 (by simp)
            have lo82 := hlo e76 (by simp)
            have lo83 := hlo e77 (by simp)
            have lo84 := hlo e78 (by simp)
            have lo85 := hlo e79 (by simp)
            refine T_app6 ?_
            have hs86 : HasN (K ++ [e75, e76, e77, e78, e79]) _ _ _ _ _ _ := HasN.assoc hs80
            refine T_val (Ev_move rfl) rfl ?_
            refine T_val (Ev_extract rfl rfl) rfl ?_
            refine T_val (Ev_extract rfl rfl) rfl ?_
            refine T_val (Ev_assign rfl) rfl ?_
            refine T_val (Ev_assign rfl) rfl ?_
            refine T_nil ?_
            refine T_next ?_
            obtain ⟨j14, hj14, hx70⟩ := jn_some hx70
            refine T_cutP (τ := Unit) (γ := Unit) (J := j14) (out := r) (fun s14 y14 => []) (fun s14 y14 => [] ++ [.old w]) (fun s14 y14 => True) ?_ ?_
            · intro s14 y14 hx803 hG804
              subst hj14
              refine T_seq ?_
              refine T_reg ?_
              obtain ⟨r805, h806, hx807⟩ := bnd_some hx803
              refine T_x (Wx_callL rfl (fun w1 hw1 => lidarlaw09_first_ok  h806 w1) rfl ?_)
              rintro _ _ hlo ⟨rfl, rfl, -⟩
              refine T_app0 ?_
              refine T_val (Ev_assign rfl) rfl ?_
              refine T_nil ?_
              refine T_next ?_
              refine T_retc ?_
              obtain rfl := Option.some.inj hx807
              exact T_retP (rs := [.tmp 6]) Try.results14 (.tmp rfl (.nil)) (Ln := []) ⟨rfl, rfl, trivial⟩ (loNil) (by exact .refl)
            · skip
              refine T_seq ?_
              refine T_reg ?_
              refine T_val (Ev_assign rfl) rfl ?_
              refine T_nil ?_
              refine T_next ?_
              refine T_block ?_
              obtain ⟨t445, hl445, ho445⟩ := bnd_some hx70
              refine T_loopP (σ := Int) (γ := Unit) hl445 (fun s445 y445 => [(3, .pointer (some ⟨g1, 0, none⟩)), (4, .pointer (some ⟨g2, 0, none⟩)), (7, .slice (A23) ((r20.1).length) (c24)), (9, .slice (A36) ((r33.1).length) (c37)), (11, .slice (A71) ((r68.1).length) (c72)), (13, .int .i64 (s445))]) (fun s445 y445 => [e75, e76, e77, e78, e79, e38, e39, e40, e41, e42, e43, e44, e25, e26, e27, .m g2 26 [.int .i64 (p1.Raster.X0), .int .i64 (p1.Raster.Y0), .int .i64 (p1.Raster.Step), .int .i64 (p1.Raster.NX), .int .i64 (p1.Raster.NY), .slice (A0_1) ((p1.Cells).length) (c0_1)], .m g1 26 [.int .i64 (p0.Raster.X0), .int .i64 (p0.Raster.Y0), .int .i64 (p0.Raster.Step), .int .i64 (p0.Raster.NX), .int .i64 (p0.Raster.NY), .slice (A0_0) ((p0.Cells).length) (c0_0)]] ++ [.old w]) (fun s445 y445 => True) () trivial (by exact .cons rfl (.cons rfl (.cons rfl (.cons rfl (.cons rfl (.cons rfl (.nil))))))) (by exact .pick 1 rfl (.pick 1 rfl (.pick 1 rfl (.pick 1 rfl (.pick 1 rfl (.pick 1 rfl (.pick 1 rfl (.pick 1 rfl (.pick 1 rfl (.pick 1 rfl (.pick 1 rfl (.pick 1 rfl (.pick 1 rfl (.pick 1 rfl (.pick 1 rfl (.pick 1 rfl (.pick 1 rfl (.drop 0 rfl (.refl))))))))))))))))))) ?_
              intro s445 y445 hG445 x445 hx445 ht445
              unfold lidarlaw09_ModelRegions_l11 at hx445
              refine T_seq ?_
              refine T_seq ?_
              refine T_reg ?_
              refine T_val (Ev_move rfl) rfl ?_
              refine T_val (Ev_move rfl) rfl ?_
              refine T_val (Ev_len rfl 95 Try.underlying88) rfl ?_
              refine T_val (Ev_lss rfl rfl) rfl ?_
              refine T_nil ?_
              refine T_next ?_
              refine T_caseP (s := 60) rfl (fun h446 => ?_) (fun h446 => ?_)
              · have hx447 := ite_t h446 hx445
                refine T_condT rfl ?_
                refine T_skip ?_
                refine T_next ?_
                refine T_seq ?_
                refine T_block ?_
                obtain ⟨j25, hj25, hx447⟩ := jn_some hx447
                refine T_cutP (τ := Bool × (List Int) × (List Int) × Bool × (List Int) × (List Int)) (γ := Nat × (Option Addr) × Nat × Ent × (Option Addr) × Nat × Nat × (Option Addr) × Nat × (Option Addr) × Nat) (J := j25) (out := x445) (fun s25 y25 => [(3, .pointer (some ⟨g1, 0, none⟩)), (4, .pointer (some ⟨g2, 0, none⟩)), (7, .slice (A23) ((r20.1).length) (c24)), (9, .slice (A36) ((r33.1).length) (c37)), (11, .slice (A71) ((r68.1).length) (c72)), (13, .int .i64 (s445)), (14, .pointer (some ⟨y25.1, 0, none⟩)), (15, .pointer (some ⟨y25.2.2.2.2.2.2.1, 0, none⟩))]) (fun s25 y25 => [y25.2.2.2.1, .m y25.2.2.2.2.2.2.1 45 [.bool (s25.2.2.2.1), .slice (y25.2.2.2.2.2.2.2.1) ((s25.2.2.2.2.1).length) (y25.2.2.2.2.2.2.2.2.1), .slice (y25.2.2.2.2.2.2.2.2.2.1) ((s25.2.2.2.2.2).length) (y25.2.2.2.2.2.2.2.2.2.2)], .m y25.1 45 [.bool (s25.1), .slice (y25.2.1) ((s25.2.1).length) (y25.2.2.1), .slice (y25.2.2.2.2.1) ((s25.2.2.1).length) (y25.2.2.2.2.2.1)], .r (y25.2.2.2.2.1) ((s25.2.2.1).length) (y25.2.2.2.2.2.1) 3 1 ((s25.2.2.1).flatMap e_i64), .r (y25.2.2.2.2.2.2.2.2.2.1) ((s25.2.2.2.2.2).length) (y25.2.2.2.2.2.2.2.2.2.2) 3 1 ((s25.2.2.2.2.2).flatMap e_i64), e75, e76, e77, e78, e79, e38, e39, e40, e41, e42, e43, e44, e25, e26, e27, .m g2 26 [.int .i64 (p1.Raster.X0), .int .i64 (p1.Raster.Y0), .int .i64 (p1.Raster.Step), .int .i64 (p1.Raster.NX), .int .i64 (p1.Raster.NY), .slice (A0_1) ((p1.Cells).length) (c0_1)], .m g1 26 [.int .i64 (p0.Raster.X0), .int .i64 (p0.Raster.Y0), .int .i64 (p0.Raster.Step), .int .i64 (p0.Raster.NX), .int .i64 (p0.Raster.NY), .slice (A0_0) ((p0.Cells).length) (c0_0)]] ++ [.old w]) (fun s25 y25 => y25.2.2.2.1.low = 0 ∧ Has (K ++ [e75, e76, e77, e78, e79, y25.2.2.2.1]) (y25.2.1) ((s25.2.1).length) (y25.2.2.1) 1 e_i64 (s25.2.1) ∧ Has (K ++ [e75, e76, e77, e78, e79, y25.2.2.2.1]) (y25.2.2.2.2.2.2.2.1) ((s25.2.2.2.2.1).length) (y25.2.2.2.2.2.2.2.2.1) 1 e_i64 (s25.2.2.2.2.1) ∧ True) ?_ ?_
                · intro s25 y25 hx603 hG604
                  obtain ⟨lo605, hs606, hs607, -⟩ := hG604
                  subst hj25
                  obtain ⟨j26, hj26, hx603⟩ := jn_some hx603
                  refine T_cutP (τ := Bool) (γ := Unit) (J := j26) (out := x445) (fun s26 y26 => [(3, .pointer (some ⟨g1, 0, none⟩)), (4, .pointer (some ⟨g2, 0, none⟩)), (7, .slice (A23) ((r20.1).length) (c24)), (9, .slice (A36) ((r33.1).length) (c37)), (11, .slice (A71) ((r68.1).length) (c72)), (13, .int .i64 (s445)), (117, .bool (s26))]) (fun s26 y26 => [e75, e76, e77, e78, e79, e38, e39, e40, e41, e42, e43, e44, e25, e26, e27, .m g2 26 [.int .i64 (p1.Raster.X0), .int .i64 (p1.Raster.Y0), .int .i64 (p1.Raster.Step), .int .i64 (p1.Raster.NX), .int .i64 (p1.Raster.NY), .slice (A0_1) ((p1.Cells).length) (c0_1)], .m g1 26 [.int .i64 (p0.Raster.X0), .int .i64 (p0.Raster.Y0), .int .i64 (p0.Raster.Step), .int .i64 (p0.Raster.NX), .int .i64 (p0.Raster.NY), .slice (A0_0) ((p0.Cells).length) (c0_0)]] ++ [.old w]) (fun s26 y26 => True) ?_ ?_
                  · intro s26 y26 hx798 hG799
                    subst hj26
                    refine T_caseB (s := 117) rfl (fun h800 => ?_) (fun h800 => ?_)
                    · have hx801 := ite_t h800 hx798
                      refine T_condT rfl ?_
                      refine T_seq ?_
                      refine T_reg ?_
                      refine T_val (Ev_assign rfl) rfl ?_
                      refine T_nil ?_
                      refine T_next ?_
                      refine T_retc ?_
                      refine T_inR ?_
                      refine T_outR ?_
                      obtain rfl := exit_eq ht445 hx801
                      refine T_outR ?_
                      refine T_inR ?_
                      refine T_outR ?_
                      obtain rfl := Option.some.inj ho445
                      exact T_retP (rs := [.tmp 6]) Try.results14 (.tmp rfl (.nil)) (Ln := []) ⟨rfl, rfl, trivial⟩ (loNil) (by exact .drop 0 rfl (.drop 0 rfl (.drop 0 rfl (.drop 0 rfl (.drop 0 rfl (.drop 0 rfl (.drop 0 rfl (.drop 0 rfl (.drop 0 rfl (.drop 0 rfl (.drop 0 rfl (.drop 0 rfl (.drop 0 rfl (.drop 0 rfl (.drop 0 rfl (.drop 0 rfl (.drop 0 rfl (.refl))))))))))))))))))
                    · have hx802 := ite_bf h800 hx798
                      refine T_condF rfl ?_
                      refine T_skip ?_
                      refine T_inN ?_
                      refine T_next ?_
                      refine T_reg ?_
                      refine T_val (Ev_move rfl) rfl ?_
                      refine T_val (Ev_add_w64 rfl rfl) rfl ?_
                      refine T_val (Ev_assign rfl) rfl ?_
                      refine T_nil ?_
                      exact T_roundP (w64 (s445 + 1)) () hx802 trivial (by exact .cons rfl (.cons rfl (.cons rfl (.cons rfl (.cons rfl (.cons rfl (.nil))))))) (by exact .pick 0 rfl (.pick 0 rfl (.pick 0 rfl (.pick 0 rfl (.pick 0 rfl (.pick 0 rfl (.pick 0 rfl (.pick 0 rfl (.pick 0 rfl (.pick 0 rfl (.pick 0 rfl (.pick 0 rfl (.pick 0 rfl (.pick 0 rfl (.pick 0 rfl (.pick 0 rfl (.pick 0 rfl (.refl))))))))))))))))))
                  · skip
                    refine T_draw [0, 0, 0, 0, 1, 0, 0, 0, 0, 1, 0, 0, 0, 0, 0, 0, 1, 0, 0, 0, 0, 1, 2, 0, 0, 0, 0, 0, 0, 0, 1, 1, 2, 0, 0, 0, 0, 0, 0, 0, 1, 1, 2, 0, 0] [[], [], [0, 1], [0, 1, 2], [0, 1, 2, 3], [], [], [5, 6], [5, 6, 7], [5, 6, 7, 8], [0, 1, 2, 3, 4, 5, 6, 7, 8, 9], [0, 1, 2, 3, 4, 5, 6, 7, 8, 9, 10], [0, 1, 2, 3, 4, 5, 6, 7, 8, 9, 10, 11], [0, 1, 2, 3, 4, 5, 6, 7, 8, 9, 10, 11], [0, 1, 2, 3, 4, 5, 6, 7, 8, 9, 10, 11, 12, 13], [0, 1, 2, 3, 4, 5, 6, 7, 8, 9, 10, 11, 12, 13, 14], [0, 1, 2, 3, 4, 5, 6, 7, 8, 9, 10, 11, 12, 13, 14, 15], [0, 1, 2, 3, 4, 5, 6, 7, 8, 9, 10, 11], [0, 1, 2, 3, 4, 5, 6, 7, 8, 9, 10, 11], [0, 1, 2, 3, 4, 5, 6, 7, 8, 9, 10, 11, 17, 18], [0, 1, 2, 3, 4, 5, 6, 7, 8, 9, 10, 11, 17, 18, 19], [0, 1, 2, 3, 4, 5, 6, 7, 8, 9, 10, 11, 17, 18, 19, 20], [0, 1, 2, 3, 4, 5, 6, 7, 8, 9, 10, 11, 12, 13, 14, 15, 16, 17, 18, 19, 20, 21], [0, 1, 2, 3, 4, 5, 6, 7, 8, 9, 10, 11, 12, 13, 14, 15, 16, 17, 18, 19, 20, 21, 22], [0, 1, 2, 3, 4, 5, 6, 7, 8, 9, 10, 11, 12, 13, 14, 15, 16, 17, 18, 19, 20, 21, 22, 23], [0, 1, 2, 3, 4, 5, 6, 7, 8, 9, 10, 11, 12, 13, 14, 15, 16, 17, 18, 19, 20, 21, 22, 23, 24], [0, 1, 2, 3, 4, 5, 6, 7, 8, 9, 10, 11, 12, 13, 14, 15, 16, 17, 18, 19, 20, 21, 22, 23, 24, 25], [0, 1, 2, 3, 4, 5, 6, 7, 8, 9, 10, 11, 12, 13, 14, 15, 16, 17, 18, 19, 20, 21, 22, 23, 24, 25], [0, 1, 2, 3, 4, 5, 6, 7, 8, 9, 10, 11, 12, 13, 14, 15, 16, 17, 18, 19, 20, 21, 22, 23, 24, 25, 26, 27], [0, 1, 2, 3, 4, 5, 6, 7, 8, 9, 10, 11, 12, 13, 14, 15, 16, 17, 18, 19, 20, 21, 22, 23, 24, 25, 26, 27, 28], [0, 1, 2, 3, 4, 5, 6, 7, 8, 9, 10, 11, 12, 13, 14, 15, 16, 17, 18, 19, 20, 21, 22, 23, 24, 25, 26, 27, 28, 29], [0, 1, 2, 3, 4, 5, 6, 7, 8, 9, 10, 11, 12, 13, 14, 15, 16, 17, 18, 19, 20, 21, 22, 23, 24, 25], [0, 1, 2, 3, 4, 5, 6, 7, 8, 9, 10, 11, 12, 13, 14, 15, 16, 17, 18, 19, 20, 21, 22, 23, 24, 25, 26, 27, 28, 29, 30, 31], [0, 1, 2, 3, 4, 5, 6, 7, 8, 9, 10, 11, 12, 13, 14, 15, 16, 17, 18, 19, 20, 21, 22, 23, 24, 25, 26, 27, 28, 29, 30, 31, 32], [0, 1, 2, 3, 4, 5, 6, 7, 8, 9, 10, 11, 12, 13, 14, 15, 16, 17, 18, 19, 20, 21, 22, 23, 24, 25, 26, 27, 28, 29, 30, 31, 32, 33], [0, 1, 2, 3, 4, 5, 6, 7, 8, 9, 10, 11, 12, 13, 14, 15, 16, 17, 18, 19, 20, 21, 22, 23, 24, 25, 26, 27, 28, 29, 30, 31, 32, 33, 34], [0, 1, 2, 3, 4, 5, 6, 7, 8, 9, 10, 11, 12, 13, 14, 15, 16, 17, 18, 19, 20, 21, 22, 23, 24, 25, 26, 27, 28, 29, 30, 31, 32, 33, 34, 35], [0, 1, 2, 3, 4, 5, 6, 7, 8, 9, 10, 11, 12, 13, 14, 15, 16, 17, 18, 19, 20, 21, 22, 23, 24, 25, 26, 27, 28, 29, 30, 31, 32, 33, 34, 35], [0, 1, 2, 3, 4, 5, 6, 7, 8, 9, 10, 11, 12, 13, 14, 15, 16, 17, 18, 19, 20, 21, 22, 23, 24, 25, 26, 27, 28, 29, 30, 31, 32, 33, 34, 35, 36, 37], [0, 1, 2, 3, 4, 5, 6, 7, 8, 9, 10, 11, 12, 13, 14, 15, 16, 17, 18, 19, 20, 21, 22, 23, 24, 25, 26, 27, 28, 29, 30, 31, 32, 33, 34, 35, 36, 37, 38], [0, 1, 2, 3, 4, 5, 6, 7, 8, 9, 10, 11, 12, 13, 14, 15, 16, 17, 18, 19, 20, 21, 22, 23, 24, 25, 26, 27, 28, 29, 30, 31, 32, 33, 34, 35, 36, 37, 38, 39], [0, 1, 2, 3, 4, 5, 6, 7, 8, 9, 10, 11, 12, 13, 14, 15, 16, 17, 18, 19, 20, 21, 22, 23, 24, 25, 26, 27, 28, 29, 30, 31, 32, 33, 34, 35], [0, 1, 2, 3, 4, 5, 6, 7, 8, 9, 10, 11, 12, 13, 14, 15, 16, 17, 18, 19, 20, 21, 22, 23, 24, 25, 26, 27, 28, 29, 30, 31, 32, 33, 34, 35, 36, 37, 38, 39, 40, 41], [0, 1, 2, 3, 4, 5, 6, 7, 8, 9, 10, 11, 12, 13, 14, 15, 16, 17, 18, 19, 20, 21, 22, 23, 24, 25, 26, 27, 28, 29, 30, 31, 32, 33, 34, 35, 36, 37, 38, 39, 40, 41, 42], [0, 1, 2, 3, 4, 5, 6, 7, 8, 9, 10, 11, 12, 13, 14, 15, 16, 17, 18, 19, 20, 21, 22, 23, 24, 25, 26, 27, 28, 29, 30, 31, 32, 33, 34, 35, 36, 37, 38, 39, 40, 41, 42, 43]] (.q 0 (.q 1 (.q 2 (.q 3 (.q 4 (.q 5 (.q 6 (.q 7 (.q 8 (.q 9 (.q 10 (.q 11 (.q 12 (.q 13 (.q 14 (.q 15 (.q 16 (.q 17 (.q 18 (.q 19 (.q 20 (.q 21 (.e 22 (.q 23 (.q 24 (.q 25 (.q 26 (.q 27 (.q 28 (.q 29 (.q 30 (.q 31 (.e 32 (.q 33 (.q 34 (.q 35 (.q 36 (.q 37 (.q 38 (.q 39 (.q 40 (.q 41 (.e 42 (.q 43 (.q 44 (.done))) (.stop))))))))))) (.stop))))))))))) (.stop)))))))))))))))))))))))) mixed (by kernel_rfl) (by kernel_rfl) ?_
                    refine P_p rfl rfl (Ev_move rfl) rfl ?_
                    refine P_p rfl rfl (Ev_move rfl) rfl ?_
                    obtain ⟨x608, h609, hx610⟩ := bnd_some hx603
                    obtain ⟨b611, o612, j613, ys633, hA614, hj615, hl616, hp617, hr634⟩ := HasN.at_idx hs32 h609
                    obtain ⟨A618, c619, A621, c622, A624, c625, A627, c628, A630, c631, rfl, hs620, hs623, hs626, hs629, hs632⟩ := hr634
                    have hp635 := Pt.low (E := [e25, e26, e27]) hp617 hK
                    refine P_p rfl rfl (Ev_index rfl rfl hA614 (j := j613) hj615 hl616 slc88) rfl ?_
                    refine P_p rfl rfl (Ev_field rfl fld95_0 rfl) rfl ?_
                    refine P_q rfl rfl (Ev_loadP1 (d := 0) rfl hp635 (SubE.cons2 (i := 22) rfl (SubE.cons2 (i := 17) rfl (SubE.cons2 (i := 18) rfl (SubE.cons2 (i := 19) rfl (SubE.nil))))) rfl one3) rfl ?_
                    refine P_p rfl rfl (Ev_move rfl) rfl ?_
                    refine P_p rfl rfl (Ev_move rfl) rfl ?_
                    obtain ⟨x636, h637, hx638⟩ := bnd_some hx610
                    obtain ⟨b639, o640, j641, ys661, hA642, hj643, hl644, hp645, hr662⟩ := HasN.at_idx hs53 h637
                    obtain ⟨A646, c647, A649, c650, A652, c653, A655, c656, A658, c659, rfl, hs648, hs651, hs654, hs657, hs660⟩ := hr662
                    have hp663 := Pt.low (E := [e38, e39, e40, e41, e42, e43, e44]) hp645 hK
                    refine P_p rfl rfl (Ev_index rfl rfl hA642 (j := j641) hj643 hl644 slc88) rfl ?_
                    refine P_p rfl rfl (Ev_field rfl fld95_0 rfl) rfl ?_
                    refine P_q rfl rfl (Ev_loadP1 (d := 0) rfl hp663 (SubE.cons2 (i := 22) rfl (SubE.cons2 (i := 10) rfl (SubE.cons2 (i := 11) rfl (SubE.cons2 (i := 12) rfl (SubE.cons2 (i := 13) rfl (SubE.cons2 (i := 14) rfl (SubE.cons2 (i := 15) rfl (SubE.cons2 (i := 16) rfl (SubE.nil))))))))) rfl one3) rfl ?_
                    refine P_p rfl rfl (Ev_neq rfl rfl) rfl ?_
                    refine P_p rfl rfl (Ev_move rfl) rfl ?_
                    refine T_caseNP (s := 84) rfl (fun h664 => ?_) (fun h664 => ?_)
                    · have hx665 := ite_f h664 hx638
                      refine P_skip rfl rfl rfl rfl rfl rfl ?_
                      refine P_skip rfl rfl rfl rfl rfl rfl ?_
                      refine P_skip rfl rfl rfl rfl rfl rfl ?_
                      refine P_skip rfl rfl rfl rfl rfl rfl ?_
                      refine P_skip rfl rfl rfl rfl rfl rfl ?_
                      refine P_skip rfl rfl rfl rfl rfl rfl ?_
                      refine P_skip rfl rfl rfl rfl rfl rfl ?_
                      refine P_skip rfl rfl rfl rfl rfl rfl ?_
                      refine P_skip rfl rfl rfl rfl rfl rfl ?_
                      refine P_skip rfl rfl rfl rfl rfl rfl ?_
                      refine P_skipE rfl rfl rfl rfl rfl rfl ?_ ?_
                      rotate_left; exact P_stop
                      refine P_skip rfl rfl rfl rfl rfl rfl ?_
                      refine P_p rfl rfl (Ev_pickT rfl rfl) rfl ?_
                      refine P_p rfl rfl (Ev_move rfl) rfl ?_
                      refine P_skip rfl rfl rfl rfl rfl rfl ?_
                      refine P_skip rfl rfl rfl rfl rfl rfl ?_
                      refine P_skip rfl rfl rfl rfl rfl rfl ?_
                      refine P_skip rfl rfl rfl rfl rfl rfl ?_
                      refine P_skip rfl rfl rfl rfl rfl rfl ?_
                      refine P_skip rfl rfl rfl rfl rfl rfl ?_
                      refine P_skipE rfl rfl rfl rfl rfl rfl ?_ ?_
                      rotate_left; exact P_stop
                      refine P_skip rfl rfl rfl rfl rfl rfl ?_
                      refine P_p rfl rfl (Ev_pickT rfl rfl) rfl ?_
                      refine P_p rfl rfl (Ev_move rfl) rfl ?_
                      refine P_skip rfl rfl rfl rfl rfl rfl ?_
                      refine P_skip rfl rfl rfl rfl rfl rfl ?_
                      refine P_skip rfl rfl rfl rfl rfl rfl ?_
                      refine P_skip rfl rfl rfl rfl rfl rfl ?_
                      refine P_skip rfl rfl rfl rfl rfl rfl ?_
                      refine P_skip rfl rfl rfl rfl rfl rfl ?_
                      refine P_skipE rfl rfl rfl rfl rfl rfl ?_ ?_
                      rotate_left; exact P_stop
                      refine P_skip rfl rfl rfl rfl rfl rfl ?_
                      refine P_p rfl rfl (Ev_pickT rfl rfl) rfl ?_
                      refine P_done ?_
                      exact T_metP true () hx665 trivial (by exact .cons rfl (.cons rfl (.cons rfl (.cons rfl (.cons rfl (.cons rfl (.cons rfl (.nil)))))))) (by exact .pick 5 rfl (.pick 5 rfl (.pick 5 rfl (.pick 5 rfl (.pick 5 rfl (.pick 5 rfl (.pick 5 rfl (.pick 5 rfl (.pick 5 rfl (.pick 5 rfl (.pick 5 rfl (.pick 5 rfl (.pick 5 rfl (.pick 5 rfl (.pick 5 rfl (.pick 5 rfl (.pick 5 rfl (.drop 0 rfl (.drop 0 rfl (.drop 0 rfl (.drop 0 rfl (.drop 0 rfl (.refl)))))))))))))))))))))))
                    · have hx666 := ite_t h664 hx638
                      refine P_pG rfl rfl rfl rfl rfl (Ev_move rfl) rfl ?_
                      refine P_pG rfl rfl rfl rfl rfl (Ev_move rfl) rfl ?_
                      obtain ⟨x667, h668, hx669⟩ := bnd_some hx666
                      obtain ⟨b670, o671, j672, ys692, hA673, hj674, hl675, hp676, hr693⟩ := HasN.at_idx hs32 h668
                      obtain ⟨A677, c678, A680, c681, A683, c684, A686, c687, A689, c690, rfl, hs679, hs682, hs685, hs688, hs691⟩ := hr693
                      have hp694 := Pt.low (E := [e25, e26, e27]) hp676 hK
                      refine P_pG rfl rfl rfl rfl rfl (Ev_index rfl rfl hA673 (j := j672) hj674 hl675 slc88) rfl ?_
                      refine P_pG rfl rfl rfl rfl rfl (Ev_field rfl fld95_1 rfl) rfl ?_
                      refine P_qG rfl rfl rfl rfl rfl (Ev_loadP1 (d := 1) rfl hp694 (SubE.cons2 (i := 22) rfl (SubE.cons2 (i := 17) rfl (SubE.cons2 (i := 18) rfl (SubE.cons2 (i := 19) rfl (SubE.nil))))) rfl one27) rfl ?_
                      refine P_pG rfl rfl rfl rfl rfl (Ev_move rfl) rfl ?_
                      refine P_pG rfl rfl rfl rfl rfl (Ev_move rfl) rfl ?_
                      obtain ⟨x695, h696, hx697⟩ := bnd_some hx669
                      obtain ⟨b698, o699, j700, ys720, hA701, hj702, hl703, hp704, hr721⟩ := HasN.at_idx hs53 h696
                      obtain ⟨A705, c706, A708, c709, A711, c712, A714, c715, A717, c718, rfl, hs707, hs710, hs713, hs716, hs719⟩ := hr721
                      have hp722 := Pt.low (E := [e38, e39, e40, e41, e42, e43, e44]) hp704 hK
                      refine P_pG rfl rfl rfl rfl rfl (Ev_index rfl rfl hA701 (j := j700) hj702 hl703 slc88) rfl ?_
                      refine P_pG rfl rfl rfl rfl rfl (Ev_field rfl fld95_1 rfl) rfl ?_
                      refine P_qG rfl rfl rfl rfl rfl (Ev_loadP1 (d := 1) rfl hp722 (SubE.cons2 (i := 22) rfl (SubE.cons2 (i := 10) rfl (SubE.cons2 (i := 11) rfl (SubE.cons2 (i := 12) rfl (SubE.cons2 (i := 13) rfl (SubE.cons2 (i := 14) rfl (SubE.cons2 (i := 15) rfl (SubE.cons2 (i := 16) rfl (SubE.nil))))))))) rfl one27) rfl ?_
                      obtain ⟨r723, h724, hx725⟩ := bnd_some hx697
                      refine P_xG rfl rfl rfl rfl (Wx_callL rfl (fun w1 hw1 => lidarlaw09_sameInts_ok x667.Nodes x695.Nodes (Has.len' (Has.up (L := (K ++ [e25, e26, e27, e38, e39, e40, e41, e42, e43, e44])) hs679 (SubE.app2 (SubE.cons2 (i := 0) rfl (SubE.cons2 (i := 1) rfl (SubE.cons2 (i := 2) rfl (SubE.nil))))))) (Has.len' (Has.up (L := (K ++ [e25, e26, e27, e38, e39, e40, e41, e42, e43, e44])) hs707 (SubE.app2 (SubE.cons2 (i := 3) rfl (SubE.cons2 (i := 4) rfl (SubE.cons2 (i := 5) rfl (SubE.cons2 (i := 6) rfl (SubE.cons2 (i := 7) rfl (SubE.cons2 (i := 8) rfl (SubE.cons2 (i := 9) rfl (SubE.nil))))))))))) h724 w1 (okApp (K := K) (K2 := [e25, e26, e27, e38, e39, e40, e41, e42, e43, e44]) hK (by exact (SubE.cons2 (i := 22) rfl (SubE.nil))) (by exact (SubE.cons2 (i := 17) rfl (SubE.cons2 (i := 18) rfl (SubE.cons2 (i := 19) rfl (SubE.cons2 (i := 10) rfl (SubE.cons2 (i := 11) rfl (SubE.cons2 (i := 12) rfl (SubE.cons2 (i := 13) rfl (SubE.cons2 (i := 14) rfl (SubE.cons2 (i := 15) rfl (SubE.cons2 (i := 16) rfl (SubE.nil)))))))))))) hw1)) rfl ?_) ?_
                      rotate_left; exact P_stop
                      rintro _ _ hlo ⟨rfl, rfl, -⟩
                      refine T_app0 ?_
                      refine P_pG rfl rfl rfl rfl rfl (Ev_not rfl) rfl ?_
                      refine P_p rfl rfl (Ev_pickF rfl rfl) rfl ?_
                      refine P_p rfl rfl (Ev_move rfl) rfl ?_
                      refine T_caseNB (s := 98) rfl (fun h726 => ?_) (fun h726 => ?_)
                      · have hx727 := ite_bf h726 hx725
                        refine P_skip rfl rfl rfl rfl rfl rfl ?_
                        refine P_skip rfl rfl rfl rfl rfl rfl ?_
                        refine P_skip rfl rfl rfl rfl rfl rfl ?_
                        refine P_skip rfl rfl rfl rfl rfl rfl ?_
                        refine P_skip rfl rfl rfl rfl rfl rfl ?_
                        refine P_skip rfl rfl rfl rfl rfl rfl ?_
                        refine P_skipE rfl rfl rfl rfl rfl rfl ?_ ?_
                        rotate_left; exact P_stop
                        refine P_skip rfl rfl rfl rfl rfl rfl ?_
                        refine P_p rfl rfl (Ev_pickT rfl rfl) rfl ?_
                        refine P_p rfl rfl (Ev_move rfl) rfl ?_
                        refine P_skip rfl rfl rfl rfl rfl rfl ?_
                        refine P_skip rfl rfl rfl rfl rfl rfl ?_
                        refine P_skip rfl rfl rfl rfl rfl rfl ?_
                        refine P_skip rfl rfl rfl rfl rfl rfl ?_
                        refine P_skip rfl rfl rfl rfl rfl rfl ?_
                        refine P_skip rfl rfl rfl rfl rfl rfl ?_
                        refine P_skipE rfl rfl rfl rfl rfl rfl ?_ ?_
                        rotate_left; exact P_stop
                        refine P_skip rfl rfl rfl rfl rfl rfl ?_
                        refine P_p rfl rfl (Ev_pickT rfl rfl) rfl ?_
                        refine P_done ?_
                        exact T_metP true () hx727 trivial (by exact .cons rfl (.cons rfl (.cons rfl (.cons rfl (.cons rfl (.cons rfl (.cons rfl (.nil)))))))) (by exact .pick 5 rfl (.pick 5 rfl (.pick 5 rfl (.pick 5 rfl (.pick 5 rfl (.pick 5 rfl (.pick 5 rfl (.pick 5 rfl (.pick 5 rfl (.pick 5 rfl (.pick 5 rfl (.pick 5 rfl (.pick 5 rfl (.pick 5 rfl (.pick 5 rfl (.pick 5 rfl (.pick 5 rfl (.drop 0 rfl (.drop 0 rfl (.drop 0 rfl (.drop 0 rfl (.drop 0 rfl (.refl)))))))))))))))))))))))
                      · have hx728 := ite_t h726 hx725
                        refine P_pG rfl rfl rfl rfl rfl (Ev_move rfl) rfl ?_
                        refine P_pG rfl rfl rfl rfl rfl (Ev_move rfl) rfl ?_
                        obtain ⟨x729, h730, hx731⟩ := bnd_some hx728
                        obtain ⟨b732, o733, j734, ys754, hA735, hj736, hl737, hp738, hr755⟩ := HasN.at_idx hs32 h730
                        obtain ⟨A739, c740, A742, c743, A745, c746, A748, c749, A751, c752, rfl, hs741, hs744, hs747, hs750, hs753⟩ := hr755
                        have hp756 := Pt.low (E := [e25, e26, e27]) hp738 hK
                        refine P_pG rfl rfl rfl rfl rfl (Ev_index rfl rfl hA735 (j := j734) hj736 hl737 slc88) rfl ?_
                        refine P_pG rfl rfl rfl rfl rfl (Ev_field rfl fld95_2 rfl) rfl ?_
                        refine P_qG rfl rfl rfl rfl rfl (Ev_loadPK (d := 2) rfl hp756 (SubE.cons2 (i := 22) rfl (SubE.cons2 (i := 17) rfl (SubE.cons2 (i := 18) rfl (SubE.cons2 (i := 19) rfl (SubE.nil))))) rfl agg32) rfl ?_
                        refine P_qG rfl rfl rfl rfl rfl (Ev_loadK rfl (i := 2) rfl rfl agg45) rfl ?_
                        refine T_rowP (k := 3) rfl (by decide) (fun _ => rfl) (fun hn757 hs758 => ?_)
                        obtain ⟨r759, h760, hx761⟩ := bnd_some hx731
                        refine P_xG rfl rfl rfl rfl (Wx_callL rfl (fun w1 hw1 => lidarref01_Same_ok x729.Lo (⟨(⟨s25.1, s25.2.1⟩ : S_lidarref01_Int), s25.2.2.1⟩ : S_lidarref01_Q) (Has.len' (Has.up (L := (K ++ [e25, e26, e27, e75, e76, e77, e78, e79, y25.2.2.2.1, .r (y25.2.2.2.2.1) ((s25.2.2.1).length) (y25.2.2.2.2.2.1) 3 1 ((s25.2.2.1).flatMap e_i64)])) hs744 (SubE.app2 (SubE.cons2 (i := 0) rfl (SubE.cons2 (i := 1) rfl (SubE.cons2 (i := 2) rfl (SubE.nil))))))) (Has.len' (Has.up (L := (K ++ [e25, e26, e27, e75, e76, e77, e78, e79, y25.2.2.2.1, .r (y25.2.2.2.2.1) ((s25.2.2.1).length) (y25.2.2.2.2.2.1) 3 1 ((s25.2.2.1).flatMap e_i64)])) hs747 (SubE.app2 (SubE.cons2 (i := 0) rfl (SubE.cons2 (i := 1) rfl (SubE.cons2 (i := 2) rfl (SubE.nil))))))) (Has.len' (Has.up (L := (K ++ [e25, e26, e27, e75, e76, e77, e78, e79, y25.2.2.2.1, .r (y25.2.2.2.2.1) ((s25.2.2.1).length) (y25.2.2.2.2.2.1) 3 1 ((s25.2.2.1).flatMap e_i64)])) hs606 (SubE.app2 (SubE.cons2 (i := 3) rfl (SubE.cons2 (i := 4) rfl (SubE.cons2 (i := 5) rfl (SubE.cons2 (i := 6) rfl (SubE.cons2 (i := 7) rfl (SubE.cons2 (i := 8) rfl (SubE.nil)))))))))) (Has.len' (Has.up (L := (K ++ [e25, e26, e27, e75, e76, e77, e78, e79, y25.2.2.2.1, .r (y25.2.2.2.2.1) ((s25.2.2.1).length) (y25.2.2.2.2.2.1) 3 1 ((s25.2.2.1).flatMap e_i64)])) hs758 (SubE.appR2 (SubE.cons2 (i := 9) rfl (SubE.nil))))) h760 w1 (okApp (K := K) (K2 := [e25, e26, e27, e75, e76, e77, e78, e79, y25.2.2.2.1, .r (y25.2.2.2.2.1) ((s25.2.2.1).length) (y25.2.2.2.2.2.1) 3 1 ((s25.2.2.1).flatMap e_i64)]) hK (by exact (SubE.cons2 (i := 22) rfl (SubE.nil))) (by exact (SubE.cons2 (i := 17) rfl (SubE.cons2 (i := 18) rfl (SubE.cons2 (i := 19) rfl (SubE.cons2 (i := 5) rfl (SubE.cons2 (i := 6) rfl (SubE.cons2 (i := 7) rfl (SubE.cons2 (i := 8) rfl (SubE.cons2 (i := 9) rfl (SubE.cons2 (i := 0) rfl (SubE.cons2 (i := 3) rfl (SubE.nil)))))))))))) hw1)) rfl ?_) ?_
                        rotate_left; exact P_stop
                        rintro _ _ hlo ⟨rfl, rfl, -⟩
                        refine T_app0 ?_
                        refine P_pG rfl rfl rfl rfl rfl (Ev_not rfl) rfl ?_
                        refine P_p rfl rfl (Ev_pickF rfl rfl) rfl ?_
                        refine P_p rfl rfl (Ev_move rfl) rfl ?_
                        refine T_caseNB (s := 108) rfl (fun h762 => ?_) (fun h762 => ?_)
                        · have hx763 := ite_bf h762 hx761
                          refine P_skip rfl rfl rfl rfl rfl rfl ?_
                          refine P_skip rfl rfl rfl rfl rfl rfl ?_
                          refine P_skip rfl rfl rfl rfl rfl rfl ?_
                          refine P_skip rfl rfl rfl rfl rfl rfl ?_
                          refine P_skip rfl rfl rfl rfl rfl rfl ?_
                          refine P_skip rfl rfl rfl rfl rfl rfl ?_
                          refine P_skipE rfl rfl rfl rfl rfl rfl ?_ ?_
                          rotate_left; exact P_stop
                          refine P_skip rfl rfl rfl rfl rfl rfl ?_
                          refine P_p rfl rfl (Ev_pickT rfl rfl) rfl ?_
                          refine P_done ?_
                          exact T_metP true () hx763 trivial (by exact .cons rfl (.cons rfl (.cons rfl (.cons rfl (.cons rfl (.cons rfl (.cons rfl (.nil)))))))) (by exact .pick 5 rfl (.pick 5 rfl (.pick 5 rfl (.pick 5 rfl (.pick 5 rfl (.pick 5 rfl (.pick 5 rfl (.pick 5 rfl (.pick 5 rfl (.pick 5 rfl (.pick 5 rfl (.pick 5 rfl (.pick 5 rfl (.pick 5 rfl (.pick 5 rfl (.pick 5 rfl (.pick 5 rfl (.drop 0 rfl (.drop 0 rfl (.drop 0 rfl (.drop 0 rfl (.drop 0 rfl (.refl)))))))))))))))))))))))
                        · have hx764 := ite_t h762 hx761
                          refine P_pG rfl rfl rfl rfl rfl (Ev_move rfl) rfl ?_
                          refine P_pG rfl rfl rfl rfl rfl (Ev_move rfl) rfl ?_
                          obtain ⟨x765, h766, hx767⟩ := bnd_some hx764
                          obtain ⟨b768, o769, j770, ys790, hA771, hj772, hl773, hp774, hr791⟩ := HasN.at_idx hs32 h766
                          obtain ⟨A775, c776, A778, c779, A781, c782, A784, c785, A787, c788, rfl, hs777, hs780, hs783, hs786, hs789⟩ := hr791
                          have hp792 := Pt.low (E := [e25, e26, e27]) hp774 hK
                          refine P_pG rfl rfl rfl rfl rfl (Ev_index rfl rfl hA771 (j := j770) hj772 hl773 slc88) rfl ?_
                          refine P_pG rfl rfl rfl rfl rfl (Ev_field rfl fld95_3 rfl) rfl ?_
                          refine P_qG rfl rfl rfl rfl rfl (Ev_loadPK (d := 5) rfl hp792 (SubE.cons2 (i := 22) rfl (SubE.cons2 (i := 17) rfl (SubE.cons2 (i := 18) rfl (SubE.cons2 (i := 19) rfl (SubE.nil))))) rfl agg32) rfl ?_
                          refine P_qG rfl rfl rfl rfl rfl (Ev_loadK rfl (i := 1) rfl rfl agg45) rfl ?_
                          refine T_rowP (k := 4) rfl (by decide) (fun _ => rfl) (fun hn793 hs794 => ?_)
                          obtain ⟨r795, h796, hx797⟩ := bnd_some hx767
                          refine P_xG rfl rfl rfl rfl (Wx_callL rfl (fun w1 hw1 => lidarref01_Same_ok x765.Hi (⟨(⟨s25.2.2.2.1, s25.2.2.2.2.1⟩ : S_lidarref01_Int), s25.2.2.2.2.2⟩ : S_lidarref01_Q) (Has.len' (Has.up (L := (K ++ [e25, e26, e27, e75, e76, e77, e78, e79, y25.2.2.2.1, .r (y25.2.2.2.2.2.2.2.2.2.1) ((s25.2.2.2.2.2).length) (y25.2.2.2.2.2.2.2.2.2.2) 3 1 ((s25.2.2.2.2.2).flatMap e_i64)])) hs786 (SubE.app2 (SubE.cons2 (i := 0) rfl (SubE.cons2 (i := 1) rfl (SubE.cons2 (i := 2) rfl (SubE.nil))))))) (Has.len' (Has.up (L := (K ++ [e25, e26, e27, e75, e76, e77, e78, e79, y25.2.2.2.1, .r (y25.2.2.2.2.2.2.2.2.2.1) ((s25.2.2.2.2.2).length) (y25.2.2.2.2.2.2.2.2.2.2) 3 1 ((s25.2.2.2.2.2).flatMap e_i64)])) hs789 (SubE.app2 (SubE.cons2 (i := 0) rfl (SubE.cons2 (i := 1) rfl (SubE.cons2 (i := 2) rfl (SubE.nil))))))) (Has.len' (Has.up (L := (K ++ [e25, e26, e27, e75, e76, e77, e78, e79, y25.2.2.2.1, .r (y25.2.2.2.2.2.2.2.2.2.1) ((s25.2.2.2.2.2).length) (y25.2.2.2.2.2.2.2.2.2.2) 3 1 ((s25.2.2.2.2.2).flatMap e_i64)])) hs607 (SubE.app2 (SubE.cons2 (i := 3) rfl (SubE.cons2 (i := 4) rfl (SubE.cons2 (i := 5) rfl (SubE.cons2 (i := 6) rfl (SubE.cons2 (i := 7) rfl (SubE.cons2 (i := 8) rfl (SubE.nil)))))))))) (Has.len' (Has.up (L := (K ++ [e25, e26, e27, e75, e76, e77, e78, e79, y25.2.2.2.1, .r (y25.2.2.2.2.2.2.2.2.2.1) ((s25.2.2.2.2.2).length) (y25.2.2.2.2.2.2.2.2.2.2) 3 1 ((s25.2.2.2.2.2).flatMap e_i64)])) hs794 (SubE.appR2 (SubE.cons2 (i := 9) rfl (SubE.nil))))) h796 w1 (okApp (K := K) (K2 := [e25, e26, e27, e75, e76, e77, e78, e79, y25.2.2.2.1, .r (y25.2.2.2.2.2.2.2.2.2.1) ((s25.2.2.2.2.2).length) (y25.2.2.2.2.2.2.2.2.2.2) 3 1 ((s25.2.2.2.2.2).flatMap e_i64)]) hK (by exact (SubE.cons2 (i := 22) rfl (SubE.nil))) (by exact (SubE.cons2 (i := 17) rfl (SubE.cons2 (i := 18) rfl (SubE.cons2 (i := 19) rfl (SubE.cons2 (i := 5) rfl (SubE.cons2 (i := 6) rfl (SubE.cons2 (i := 7) rfl (SubE.cons2 (i := 8) rfl (SubE.cons2 (i := 9) rfl (SubE.cons2 (i := 0) rfl (SubE.cons2 (i := 4) rfl (SubE.nil)))))))))))) hw1)) rfl ?_) ?_
                          rotate_left; exact P_stop
                          rintro _ _ hlo ⟨rfl, rfl, -⟩
                          refine T_app0 ?_
                          refine P_pG rfl rfl rfl rfl rfl (Ev_not rfl) rfl ?_
                          refine P_p rfl rfl (Ev_pickF rfl rfl) rfl ?_
                          refine P_done ?_
                          exact T_metP (!(r795)) () hx797 trivial (by exact .cons rfl (.cons rfl (.cons rfl (.cons rfl (.cons rfl (.cons rfl (.cons rfl (.nil)))))))) (by exact .pick 5 rfl (.pick 5 rfl (.pick 5 rfl (.pick 5 rfl (.pick 5 rfl (.pick 5 rfl (.pick 5 rfl (.pick 5 rfl (.pick 5 rfl (.pick 5 rfl (.pick 5 rfl (.pick 5 rfl (.pick 5 rfl (.pick 5 rfl (.pick 5 rfl (.pick 5 rfl (.pick 5 rfl (.drop 0 rfl (.drop 0 rfl (.drop 0 rfl (.drop 0 rfl (.drop 0 rfl (.refl)))))))))))))))))))))))
                · skip
                  obtain ⟨x449, h450, hx488⟩ := bnd_some hx447
                  obtain ⟨r465, h466, hx489⟩ := bnd_some hx488
                  refine T_draw [1, 1, 0, 0, 0, 1, 2, 0, 0, 0, 2, 2, 3, 3] [[], [], [], [], [2, 3], [2, 3, 4], [0, 1, 2, 3, 4, 5], [0, 1, 2, 3, 4, 5, 6], [0, 1, 2, 3, 4, 5, 6, 7], [0, 1, 2, 3, 4, 5, 6, 7], [], [], [0, 1, 2, 3, 4, 5, 6, 7, 8, 10, 11], [0, 1, 2, 3, 4, 5, 6, 7, 8, 9, 10, 11, 12]] (.q 0 (.q 1 (.q 2 (.q 3 (.q 4 (.q 5 (.e 6 (.q 7 (.q 8 (.q 9 (.e 10 (.e 11 (.e 12 (.e 13 (.done) (.stop)) (.stop)) (.stop)) (.e 11 (.e 10 (.e 12 (.e 13 (.done) (.stop)) (.stop)) (.stop)) (.stop)))))) (.e 10 (.e 6 (.q 7 (.q 8 (.q 9 (.e 11 (.e 12 (.e 13 (.done) (.stop)) (.stop)) (.stop))))) (.e 11 (.e 6 (.q 7 (.q 8 (.q 9 (.e 12 (.e 13 (.done) (.stop)) (.stop))))) (.stop)) (.stop))) (.e 11 (.e 6 (.q 7 (.q 8 (.q 9 (.e 10 (.e 12 (.e 13 (.done) (.stop)) (.stop)) (.stop))))) (.e 10 (.e 6 (.q 7 (.q 8 (.q 9 (.e 12 (.e 13 (.done) (.stop)) (.stop))))) (.stop)) (.stop))) (.stop)))))))))) mixed (by kernel_rfl) (by kernel_rfl) ?_
                  refine P_q rfl rfl (Ev_loadK rfl (i := 16) rfl rfl agg26) rfl ?_
                  refine P_q rfl rfl (Ev_loadK rfl (i := 15) rfl rfl agg26) rfl ?_
                  refine P_p rfl rfl (Ev_move rfl) rfl ?_
                  refine P_p rfl rfl (Ev_move rfl) rfl ?_
                  obtain ⟨b490, o491, j492, ys500, hA493, hj494, hl495, hp496, hr501⟩ := HasN.at_idx hs86 h450
                  obtain ⟨A497, c498, rfl, hs499⟩ := hr501
                  have hp502 := Pt.low (E := [e75, e76, e77, e78, e79]) hp496 hK
                  refine P_p rfl rfl (Ev_index rfl rfl hA493 (j := j492) hj494 hl495 slc91) rfl ?_
                  refine P_q rfl rfl (Ev_loadP0 rfl hp502 (SubE.cons2 (i := 17) rfl (SubE.cons2 (i := 0) rfl (SubE.cons2 (i := 1) rfl (SubE.cons2 (i := 2) rfl (SubE.cons2 (i := 3) rfl (SubE.cons2 (i := 4) rfl (SubE.nil))))))) rfl one27) rfl ?_
                  refine P_x rfl (Wx_callL rfl (fun w1 hw1 => lidarref09_Amount_ok p0 p1 x449 (Has.len' (Has.up (L := (K ++ [e75, e76, e77, e78, e79])) ha0' (SubE.app2 SubE.nil))) (Has.len' (Has.up (L := (K ++ [e75, e76, e77, e78, e79])) ha1' (SubE.app2 SubE.nil))) (Has.len' hs499) h466 w1 (okApp (K := K) (K2 := [e75, e76, e77, e78, e79]) hK (by exact (SubE.cons2 (i := 17) rfl (SubE.nil))) (by exact (SubE.cons2 (i := 0) rfl (SubE.cons2 (i := 1) rfl (SubE.cons2 (i := 2) rfl (SubE.cons2 (i := 3) rfl (SubE.cons2 (i := 4) rfl (SubE.nil))))))) hw1)) rfl ?_) ?_
                  · skip
                    rintro _ _ hlo ⟨A503, c504, A505, c506, A507, c508, A509, c510, e511, e512, e513, rfl, rfl, hs514, hs515, -⟩
                    have lo516 := hlo e511 (by simp)
                    have lo517 := hlo e512 (by simp)
                    have lo518 := hlo e513 (by simp)
                    refine T_app5 ?_
                    have hs519 : Has (K ++ [e75, e76, e77, e78, e79, e511, e512, e513]) _ _ _ _ _ _ := Has.assoc hs514
                    have hs520 : Has (K ++ [e75, e76, e77, e78, e79, e511, e512, e513]) _ _ _ _ _ _ := Has.assoc hs515
                    refine P_p rfl rfl (Ev_move rfl) rfl ?_
                    refine P_p rfl rfl (Ev_extract rfl rfl) rfl ?_
                    refine P_p rfl rfl (Ev_extract rfl rfl) rfl ?_
                    refine P_x rfl (Wx_alloc zer45 rfl (fun g521 => ?_)) ?_
                    · skip
                      refine P_x rfl (Wx_alloc zer45 rfl (fun g522 => ?_)) ?_
                      rotate_left; exact P_stop
                      refine P_h rfl rfl (Wh_store rfl rfl rfl (.there (.here)) (.put (.put (.put (.done)))) rfl (List.cons_ne_nil _ _) agg45.2 ?_) ?_
                      rotate_left; exact P_stop
                      refine P_h rfl rfl (Wh_store rfl rfl rfl (.here) (.put (.put (.put (.done)))) rfl (List.cons_ne_nil _ _) agg45.2 ?_) ?_
                      rotate_left; exact P_stop
                      refine P_done ?_
                      refine T_bundle (es := [e511, e512, e513]) (by exact .pick 4 rfl (.pick 4 rfl (.pick 4 rfl (.refl)))) (loCons lo516 (loCons lo517 (loCons lo518 (loNil)))) ?_
                      exact T_metP (r465.1.N.Neg, r465.1.N.L, r465.1.D, r465.2.N.Neg, r465.2.N.L, r465.2.D) (g521, A503, c504, bun [e511, e512, e513], A505, c506, g522, A507, c508, A509, c510) hx489 ((by exact ⟨rfl, Has.len' ((Has.up (L := (K ++ [e75, e76, e77, e78, e79, (bun [e511, e512, e513])])) hs519 (SubE.app2 (SubE.cons2 (i := 0) rfl (SubE.cons2 (i := 1) rfl (SubE.cons2 (i := 2) rfl (SubE.cons2 (i := 3) rfl (SubE.cons2 (i := 4) rfl (SubE.consB (i := 5) (j := 0) rfl rfl (SubE.consB (i := 5) (j := 1) rfl rfl (SubE.consB (i := 5) (j := 2) rfl rfl (SubE.nil)))))))))))), Has.len' ((Has.up (L := (K ++ [e75, e76, e77, e78, e79, (bun [e511, e512, e513])])) hs520 (SubE.app2 (SubE.cons2 (i := 0) rfl (SubE.cons2 (i := 1) rfl (SubE.cons2 (i := 2) rfl (SubE.cons2 (i := 3) rfl (SubE.cons2 (i := 4) rfl (SubE.consB (i := 5) (j := 0) rfl rfl (SubE.consB (i := 5) (j := 1) rfl rfl (SubE.consB (i := 5) (j := 2) rfl rfl (SubE.nil)))))))))))), trivial⟩)) (by exact .cons rfl (.cons rfl (.cons rfl (.cons rfl (.cons rfl (.cons rfl (.cons rfl (.cons rfl (.nil))))))))) (by exact .pick 0 rfl (.pick 0 rfl (.pick 0 rfl (.pick 0 rfl (.pick 0 rfl (.pick 0 rfl (.pick 0 rfl (.pick 0 rfl (.pick 0 rfl (.pick 0 rfl (.pick 0 rfl (.pick 0 rfl (.pick 0 rfl (.pick 0 rfl (.pick 0 rfl (.pick 0 rfl (.pick 0 rfl (.pick 0 rfl (.pick 0 rfl (.pick 0 rfl (.pick 0 rfl (.pick 0 rfl (.refl)))))))))))))))))))))))
                    · skip
                      refine P_x rfl (Wx_alloc zer45 rfl (fun g523 => ?_)) ?_
                      rotate_left; exact P_stop
                      refine P_x rfl (Wx_alloc zer45 rfl (fun g524 => ?_)) ?_
                      rotate_left; exact P_stop
                      refine P_h rfl rfl (Wh_store rfl rfl rfl (.here) (.put (.put (.put (.done)))) rfl (List.cons_ne_nil _ _) agg45.2 ?_) ?_
                      rotate_left; exact P_stop
                      refine P_h rfl rfl (Wh_store rfl rfl rfl (.there (.here)) (.put (.put (.put (.done)))) rfl (List.cons_ne_nil _ _) agg45.2 ?_) ?_
                      rotate_left; exact P_stop
                      refine P_done ?_
                      refine T_bundle (es := [e511, e512, e513]) (by exact .pick 4 rfl (.pick 4 rfl (.pick 4 rfl (.refl)))) (loCons lo516 (loCons lo517 (loCons lo518 (loNil)))) ?_
                      exact T_metP (r465.1.N.Neg, r465.1.N.L, r465.1.D, r465.2.N.Neg, r465.2.N.L, r465.2.D) (g524, A503, c504, bun [e511, e512, e513], A505, c506, g523, A507, c508, A509, c510) hx489 ((by exact ⟨rfl, Has.len' ((Has.up (L := (K ++ [e75, e76, e77, e78, e79, (bun [e511, e512, e513])])) hs519 (SubE.app2 (SubE.cons2 (i := 0) rfl (SubE.cons2 (i := 1) rfl (SubE.cons2 (i := 2) rfl (SubE.cons2 (i := 3) rfl (SubE.cons2 (i := 4) rfl (SubE.consB (i := 5) (j := 0) rfl rfl (SubE.consB (i := 5) (j := 1) rfl rfl (SubE.consB (i := 5) (j := 2) rfl rfl (SubE.nil)))))))))))), Has.len' ((Has.up (L := (K ++ [e75, e76, e77, e78, e79, (bun [e511, e512, e513])])) hs520 (SubE.app2 (SubE.cons2 (i := 0) rfl (SubE.cons2 (i := 1) rfl (SubE.cons2 (i := 2) rfl (SubE.cons2 (i := 3) rfl (SubE.cons2 (i := 4) rfl (SubE.consB (i := 5) (j := 0) rfl rfl (SubE.consB (i := 5) (j := 1) rfl rfl (SubE.consB (i := 5) (j := 2) rfl rfl (SubE.nil)))))))))))), trivial⟩)) (by exact .cons rfl (.cons rfl (.cons rfl (.cons rfl (.cons rfl (.cons rfl (.cons rfl (.cons rfl (.nil))))))))) (by exact .pick 0 rfl (.pick 1 rfl (.pick 0 rfl (.pick 0 rfl (.pick 0 rfl (.pick 0 rfl (.pick 0 rfl (.pick 0 rfl (.pick 0 rfl (.pick 0 rfl (.pick 0 rfl (.pick 0 rfl (.pick 0 rfl (.pick 0 rfl (.pick 0 rfl (.pick 0 rfl (.pick 0 rfl (.pick 0 rfl (.pick 0 rfl (.pick 0 rfl (.pick 0 rfl (.pick 0 rfl (.refl)))))))))))))))))))))))
                  · skip
                    refine P_x rfl (Wx_alloc zer45 rfl (fun g525 => ?_)) ?_
                    · skip
                      refine P_x rfl (Wx_callL rfl (fun w1 hw1 => lidarref09_Amount_ok p0 p1 x449 (Has.len' (Has.up (L := (K ++ [e75, e76, e77, e78, e79])) ha0' (SubE.app2 SubE.nil))) (Has.len' (Has.up (L := (K ++ [e75, e76, e77, e78, e79])) ha1' (SubE.app2 SubE.nil))) (Has.len' hs499) h466 w1 (okApp (K := K) (K2 := [e75, e76, e77, e78, e79]) hK (by exact (SubE.cons2 (i := 18) rfl (SubE.nil))) (by exact (SubE.cons2 (i := 1) rfl (SubE.cons2 (i := 2) rfl (SubE.cons2 (i := 3) rfl (SubE.cons2 (i := 4) rfl (SubE.cons2 (i := 5) rfl (SubE.nil))))))) hw1)) rfl ?_) ?_
                      · skip
                        rintro _ _ hlo ⟨A526, c527, A528, c529, A530, c531, A532, c533, e534, e535, e536, rfl, rfl, hs537, hs538, -⟩
                        have lo539 := hlo e534 (by simp)
                        have lo540 := hlo e535 (by simp)
                        have lo541 := hlo e536 (by simp)
                        refine T_app5 ?_
                        have hs542 : Has (K ++ [e75, e76, e77, e78, e79, e534, e535, e536]) _ _ _ _ _ _ := Has.assoc hs537
                        have hs543 : Has (K ++ [e75, e76, e77, e78, e79, e534, e535, e536]) _ _ _ _ _ _ := Has.assoc hs538
                        refine P_p rfl rfl (Ev_move rfl) rfl ?_
                        refine P_p rfl rfl (Ev_extract rfl rfl) rfl ?_
                        refine P_p rfl rfl (Ev_extract rfl rfl) rfl ?_
                        refine P_x rfl (Wx_alloc zer45 rfl (fun g544 => ?_)) ?_
                        rotate_left; exact P_stop
                        refine P_h rfl rfl (Wh_store rfl rfl rfl (.there (.there (.there (.there (.there (.there (.here))))))) (.put (.put (.put (.done)))) rfl (List.cons_ne_nil _ _) agg45.2 ?_) ?_
                        rotate_left; exact P_stop
                        refine P_h rfl rfl (Wh_store rfl rfl rfl (.here) (.put (.put (.put (.done)))) rfl (List.cons_ne_nil _ _) agg45.2 ?_) ?_
                        rotate_left; exact P_stop
                        refine P_done ?_
                        refine T_bundle (es := [e534, e535, e536]) (by exact .pick 3 rfl (.pick 3 rfl (.pick 3 rfl (.refl)))) (loCons lo539 (loCons lo540 (loCons lo541 (loNil)))) ?_
                        exact T_metP (r465.1.N.Neg, r465.1.N.L, r465.1.D, r465.2.N.Neg, r465.2.N.L, r465.2.D) (g525, A526, c527, bun [e534, e535, e536], A528, c529, g544, A530, c531, A532, c533) hx489 ((by exact ⟨rfl, Has.len' ((Has.up (L := (K ++ [e75, e76, e77, e78, e79, (bun [e534, e535, e536])])) hs542 (SubE.app2 (SubE.cons2 (i := 0) rfl (SubE.cons2 (i := 1) rfl (SubE.cons2 (i := 2) rfl (SubE.cons2 (i := 3) rfl (SubE.cons2 (i := 4) rfl (SubE.consB (i := 5) (j := 0) rfl rfl (SubE.consB (i := 5) (j := 1) rfl rfl (SubE.consB (i := 5) (j := 2) rfl rfl (SubE.nil)))))))))))), Has.len' ((Has.up (L := (K ++ [e75, e76, e77, e78, e79, (bun [e534, e535, e536])])) hs543 (SubE.app2 (SubE.cons2 (i := 0) rfl (SubE.cons2 (i := 1) rfl (SubE.cons2 (i := 2) rfl (SubE.cons2 (i := 3) rfl (SubE.cons2 (i := 4) rfl (SubE.consB (i := 5) (j := 0) rfl rfl (SubE.consB (i := 5) (j := 1) rfl rfl (SubE.consB (i := 5) (j := 2) rfl rfl (SubE.nil)))))))))))), trivial⟩)) (by exact .cons rfl (.cons rfl (.cons rfl (.cons rfl (.cons rfl (.cons rfl (.cons rfl (.cons rfl (.nil))))))))) (by exact .pick 0 rfl (.pick 0 rfl (.pick 2 rfl (.pick 0 rfl (.pick 0 rfl (.pick 0 rfl (.pick 0 rfl (.pick 0 rfl (.pick 0 rfl (.pick 0 rfl (.pick 0 rfl (.pick 0 rfl (.pick 0 rfl (.pick 0 rfl (.pick 0 rfl (.pick 0 rfl (.pick 0 rfl (.pick 0 rfl (.pick 0 rfl (.pick 0 rfl (.pick 0 rfl (.pick 0 rfl (.refl)))))))))))))))))))))))
                      · skip
                        refine P_x rfl (Wx_alloc zer45 rfl (fun g545 => ?_)) ?_
                        rotate_left; exact P_stop
                        refine P_x rfl (Wx_callL rfl (fun w1 hw1 => lidarref09_Amount_ok p0 p1 x449 (Has.len' (Has.up (L := (K ++ [e75, e76, e77, e78, e79])) ha0' (SubE.app2 SubE.nil))) (Has.len' (Has.up (L := (K ++ [e75, e76, e77, e78, e79])) ha1' (SubE.app2 SubE.nil))) (Has.len' hs499) h466 w1 (okApp (K := K) (K2 := [e75, e76, e77, e78, e79]) hK (by exact (SubE.cons2 (i := 19) rfl (SubE.nil))) (by exact (SubE.cons2 (i := 2) rfl (SubE.cons2 (i := 3) rfl (SubE.cons2 (i := 4) rfl (SubE.cons2 (i := 5) rfl (SubE.cons2 (i := 6) rfl (SubE.nil))))))) hw1)) rfl ?_) ?_
                        rotate_left; exact P_stop
                        rintro _ _ hlo ⟨A546, c547, A548, c549, A550, c551, A552, c553, e554, e555, e556, rfl, rfl, hs557, hs558, -⟩
                        have lo559 := hlo e554 (by simp)
                        have lo560 := hlo e555 (by simp)
                        have lo561 := hlo e556 (by simp)
                        refine T_app5 ?_
                        have hs562 : Has (K ++ [e75, e76, e77, e78, e79, e554, e555, e556]) _ _ _ _ _ _ := Has.assoc hs557
                        have hs563 : Has (K ++ [e75, e76, e77, e78, e79, e554, e555, e556]) _ _ _ _ _ _ := Has.assoc hs558
                        refine P_p rfl rfl (Ev_move rfl) rfl ?_
                        refine P_p rfl rfl (Ev_extract rfl rfl) rfl ?_
                        refine P_p rfl rfl (Ev_extract rfl rfl) rfl ?_
                        refine P_h rfl rfl (Wh_store rfl rfl rfl (.there (.there (.there (.there (.there (.there (.here))))))) (.put (.put (.put (.done)))) rfl (List.cons_ne_nil _ _) agg45.2 ?_) ?_
                        rotate_left; exact P_stop
                        refine P_h rfl rfl (Wh_store rfl rfl rfl (.there (.there (.there (.there (.there (.here)))))) (.put (.put (.put (.done)))) rfl (List.cons_ne_nil _ _) agg45.2 ?_) ?_
                        rotate_left; exact P_stop
                        refine P_done ?_
                        refine T_bundle (es := [e554, e555, e556]) (by exact .pick 2 rfl (.pick 2 rfl (.pick 2 rfl (.refl)))) (loCons lo559 (loCons lo560 (loCons lo561 (loNil)))) ?_
                        exact T_metP (r465.1.N.Neg, r465.1.N.L, r465.1.D, r465.2.N.Neg, r465.2.N.L, r465.2.D) (g525, A546, c547, bun [e554, e555, e556], A548, c549, g545, A550, c551, A552, c553) hx489 ((by exact ⟨rfl, Has.len' ((Has.up (L := (K ++ [e75, e76, e77, e78, e79, (bun [e554, e555, e556])])) hs562 (SubE.app2 (SubE.cons2 (i := 0) rfl (SubE.cons2 (i := 1) rfl (SubE.cons2 (i := 2) rfl (SubE.cons2 (i := 3) rfl (SubE.cons2 (i := 4) rfl (SubE.consB (i := 5) (j := 0) rfl rfl (SubE.consB (i := 5) (j := 1) rfl rfl (SubE.consB (i := 5) (j := 2) rfl rfl (SubE.nil)))))))))))), Has.len' ((Has.up (L := (K ++ [e75, e76, e77, e78, e79, (bun [e554, e555, e556])])) hs563 (SubE.app2 (SubE.cons2 (i := 0) rfl (SubE.cons2 (i := 1) rfl (SubE.cons2 (i := 2) rfl (SubE.cons2 (i := 3) rfl (SubE.cons2 (i := 4) rfl (SubE.consB (i := 5) (j := 0) rfl rfl (SubE.consB (i := 5) (j := 1) rfl rfl (SubE.consB (i := 5) (j := 2) rfl rfl (SubE.nil)))))))))))), trivial⟩)) (by exact .cons rfl (.cons rfl (.cons rfl (.cons rfl (.cons rfl (.cons rfl (.cons rfl (.cons rfl (.nil))))))))) (by exact .pick 0 rfl (.pick 2 rfl (.pick 2 rfl (.pick 0 rfl (.pick 0 rfl (.pick 0 rfl (.pick 0 rfl (.pick 0 rfl (.pick 0 rfl (.pick 0 rfl (.pick 0 rfl (.pick 0 rfl (.pick 0 rfl (.pick 0 rfl (.pick 0 rfl (.pick 0 rfl (.pick 0 rfl (.pick 0 rfl (.pick 0 rfl (.pick 0 rfl (.pick 0 rfl (.pick 0 rfl (.refl)))))))))))))))))))))))
                    · skip
                      refine P_x rfl (Wx_alloc zer45 rfl (fun g564 => ?_)) ?_
                      rotate_left; exact P_stop
                      refine P_x rfl (Wx_callL rfl (fun w1 hw1 => lidarref09_Amount_ok p0 p1 x449 (Has.len' (Has.up (L := (K ++ [e75, e76, e77, e78, e79])) ha0' (SubE.app2 SubE.nil))) (Has.len' (Has.up (L := (K ++ [e75, e76, e77, e78, e79])) ha1' (SubE.app2 SubE.nil))) (Has.len' hs499) h466 w1 (okApp (K := K) (K2 := [e75, e76, e77, e78, e79]) hK (by exact (SubE.cons2 (i := 18) rfl (SubE.nil))) (by exact (SubE.cons2 (i := 1) rfl (SubE.cons2 (i := 2) rfl (SubE.cons2 (i := 3) rfl (SubE.cons2 (i := 4) rfl (SubE.cons2 (i := 5) rfl (SubE.nil))))))) hw1)) rfl ?_) ?_
                      · skip
                        rintro _ _ hlo ⟨A565, c566, A567, c568, A569, c570, A571, c572, e573, e574, e575, rfl, rfl, hs576, hs577, -⟩
                        have lo578 := hlo e573 (by simp)
                        have lo579 := hlo e574 (by simp)
                        have lo580 := hlo e575 (by simp)
                        refine T_app5 ?_
                        have hs581 : Has (K ++ [e75, e76, e77, e78, e79, e573, e574, e575]) _ _ _ _ _ _ := Has.assoc hs576
                        have hs582 : Has (K ++ [e75, e76, e77, e78, e79, e573, e574, e575]) _ _ _ _ _ _ := Has.assoc hs577
                        refine P_p rfl rfl (Ev_move rfl) rfl ?_
                        refine P_p rfl rfl (Ev_extract rfl rfl) rfl ?_
                        refine P_p rfl rfl (Ev_extract rfl rfl) rfl ?_
                        refine P_x rfl (Wx_alloc zer45 rfl (fun g583 => ?_)) ?_
                        rotate_left; exact P_stop
                        refine P_h rfl rfl (Wh_store rfl rfl rfl (.here) (.put (.put (.put (.done)))) rfl (List.cons_ne_nil _ _) agg45.2 ?_) ?_
                        rotate_left; exact P_stop
                        refine P_h rfl rfl (Wh_store rfl rfl rfl (.there (.there (.there (.there (.there (.there (.here))))))) (.put (.put (.put (.done)))) rfl (List.cons_ne_nil _ _) agg45.2 ?_) ?_
                        rotate_left; exact P_stop
                        refine P_done ?_
                        refine T_bundle (es := [e573, e574, e575]) (by exact .pick 3 rfl (.pick 3 rfl (.pick 3 rfl (.refl)))) (loCons lo578 (loCons lo579 (loCons lo580 (loNil)))) ?_
                        exact T_metP (r465.1.N.Neg, r465.1.N.L, r465.1.D, r465.2.N.Neg, r465.2.N.L, r465.2.D) (g583, A565, c566, bun [e573, e574, e575], A567, c568, g564, A569, c570, A571, c572) hx489 ((by exact ⟨rfl, Has.len' ((Has.up (L := (K ++ [e75, e76, e77, e78, e79, (bun [e573, e574, e575])])) hs581 (SubE.app2 (SubE.cons2 (i := 0) rfl (SubE.cons2 (i := 1) rfl (SubE.cons2 (i := 2) rfl (SubE.cons2 (i := 3) rfl (SubE.cons2 (i := 4) rfl (SubE.consB (i := 5) (j := 0) rfl rfl (SubE.consB (i := 5) (j := 1) rfl rfl (SubE.consB (i := 5) (j := 2) rfl rfl (SubE.nil)))))))))))), Has.len' ((Has.up (L := (K ++ [e75, e76, e77, e78, e79, (bun [e573, e574, e575])])) hs582 (SubE.app2 (SubE.cons2 (i := 0) rfl (SubE.cons2 (i := 1) rfl (SubE.cons2 (i := 2) rfl (SubE.cons2 (i := 3) rfl (SubE.cons2 (i := 4) rfl (SubE.consB (i := 5) (j := 0) rfl rfl (SubE.consB (i := 5) (j := 1) rfl rfl (SubE.consB (i := 5) (j := 2) rfl rfl (SubE.nil)))))))))))), trivial⟩)) (by exact .cons rfl (.cons rfl (.cons rfl (.cons rfl (.cons rfl (.cons rfl (.cons rfl (.cons rfl (.nil))))))))) (by exact .pick 0 rfl (.pick 3 rfl (.pick 0 rfl (.pick 0 rfl (.pick 0 rfl (.pick 0 rfl (.pick 0 rfl (.pick 0 rfl (.pick 0 rfl (.pick 0 rfl (.pick 0 rfl (.pick 0 rfl (.pick 0 rfl (.pick 0 rfl (.pick 0 rfl (.pick 0 rfl (.pick 0 rfl (.pick 0 rfl (.pick 0 rfl (.pick 0 rfl (.pick 0 rfl (.pick 0 rfl (.refl)))))))))))))))))))))))
                      · skip
                        refine P_x rfl (Wx_alloc zer45 rfl (fun g584 => ?_)) ?_
                        rotate_left; exact P_stop
                        refine P_x rfl (Wx_callL rfl (fun w1 hw1 => lidarref09_Amount_ok p0 p1 x449 (Has.len' (Has.up (L := (K ++ [e75, e76, e77, e78, e79])) ha0' (SubE.app2 SubE.nil))) (Has.len' (Has.up (L := (K ++ [e75, e76, e77, e78, e79])) ha1' (SubE.app2 SubE.nil))) (Has.len' hs499) h466 w1 (okApp (K := K) (K2 := [e75, e76, e77, e78, e79]) hK (by exact (SubE.cons2 (i := 19) rfl (SubE.nil))) (by exact (SubE.cons2 (i := 2) rfl (SubE.cons2 (i := 3) rfl (SubE.cons2 (i := 4) rfl (SubE.cons2 (i := 5) rfl (SubE.cons2 (i := 6) rfl (SubE.nil))))))) hw1)) rfl ?_) ?_
                        rotate_left; exact P_stop
                        rintro _ _ hlo ⟨A585, c586, A587, c588, A589, c590, A591, c592, e593, e594, e595, rfl, rfl, hs596, hs597, -⟩
                        have lo598 := hlo e593 (by simp)
                        have lo599 := hlo e594 (by simp)
                        have lo600 := hlo e595 (by simp)
                        refine T_app5 ?_
                        have hs601 : Has (K ++ [e75, e76, e77, e78, e79, e593, e594, e595]) _ _ _ _ _ _ := Has.assoc hs596
                        have hs602 : Has (K ++ [e75, e76, e77, e78, e79, e593, e594, e595]) _ _ _ _ _ _ := Has.assoc hs597
                        refine P_p rfl rfl (Ev_move rfl) rfl ?_
                        refine P_p rfl rfl (Ev_extract rfl rfl) rfl ?_
                        refine P_p rfl rfl (Ev_extract rfl rfl) rfl ?_
                        refine P_h rfl rfl (Wh_store rfl rfl rfl (.there (.there (.there (.there (.there (.here)))))) (.put (.put (.put (.done)))) rfl (List.cons_ne_nil _ _) agg45.2 ?_) ?_
                        rotate_left; exact P_stop
                        refine P_h rfl rfl (Wh_store rfl rfl rfl (.there (.there (.there (.there (.there (.there (.here))))))) (.put (.put (.put (.done)))) rfl (List.cons_ne_nil _ _) agg45.2 ?_) ?_
                        rotate_left; exact P_stop
                        refine P_done ?_
                        refine T_bundle (es := [e593, e594, e595]) (by exact .pick 2 rfl (.pick 2 rfl (.pick 2 rfl (.refl)))) (loCons lo598 (loCons lo599 (loCons lo600 (loNil)))) ?_
                        exact T_metP (r465.1.N.Neg, r465.1.N.L, r465.1.D, r465.2.N.Neg, r465.2.N.L, r465.2.D) (g584, A585, c586, bun [e593, e594, e595], A587, c588, g564, A589, c590, A591, c592) hx489 ((by exact ⟨rfl, Has.len' ((Has.up (L := (K ++ [e75, e76, e77, e78, e79, (bun [e593, e594, e595])])) hs601 (SubE.app2 (SubE.cons2 (i := 0) rfl (SubE.cons2 (i := 1) rfl (SubE.cons2 (i := 2) rfl (SubE.cons2 (i := 3) rfl (SubE.cons2 (i := 4) rfl (SubE.consB (i := 5) (j := 0) rfl rfl (SubE.consB (i := 5) (j := 1) rfl rfl (SubE.consB (i := 5) (j := 2) rfl rfl (SubE.nil)))))))))))), Has.len' ((Has.up (L := (K ++ [e75, e76, e77, e78, e79, (bun [e593, e594, e595])])) hs602 (SubE.app2 (SubE.cons2 (i := 0) rfl (SubE.cons2 (i := 1) rfl (SubE.cons2 (i := 2) rfl (SubE.cons2 (i := 3) rfl (SubE.cons2 (i := 4) rfl (SubE.consB (i := 5) (j := 0) rfl rfl (SubE.consB (i := 5) (j := 1) rfl rfl (SubE.consB (i := 5) (j := 2) rfl rfl (SubE.nil)))))))))))), trivial⟩)) (by exact .cons rfl (.cons rfl (.cons rfl (.cons rfl (.cons rfl (.cons rfl (.cons rfl (.cons rfl (.nil))))))))) (by exact .pick 0 rfl (.pick 3 rfl (.pick 2 rfl (.pick 0 rfl (.pick 0 rfl (.pick 0 rfl (.pick 0 rfl (.pick 0 rfl (.pick 0 rfl (.pick 0 rfl (.pick 0 rfl (.pick 0 rfl (.pick 0 rfl (.pick 0 rfl (.pick 0 rfl (.pick 0 rfl (.pick 0 rfl (.pick 0 rfl (.pick 0 rfl (.pick 0 rfl (.pick 0 rfl (.pick 0 rfl (.refl)))))))))))))))))))))))
              · have hx448 := ite_f h446 hx445
                refine T_condF rfl ?_
                refine T_exit ?_
                refine T_outX ?_
                obtain rfl := exit_eq ht445 hx448
                refine T_outX ?_
                refine T_here ?_
                exact T_metP () () ho445 trivial (by exact .nil) (by exact .drop 0 rfl (.drop 0 rfl (.drop 0 rfl (.drop 0 rfl (.drop 0 rfl (.drop 0 rfl (.drop 0 rfl (.drop 0 rfl (.drop 0 rfl (.drop 0 rfl (.drop 0 rfl (.drop 0 rfl (.drop 0 rfl (.drop 0 rfl (.drop 0 rfl (.drop 0 rfl (.drop 0 rfl (.refl))))))))))))))))))
      · skip
        refine T_reg ?_
        refine T_val (Ev_move rfl) rfl ?_
        refine T_val (Ev_move rfl) rfl ?_
        refine T_val (Ev_neq rfl rfl) rfl ?_
        refine T_val (Ev_move rfl) rfl ?_
        refine T_caseNP (s := 40) rfl (fun h54 => ?_) (fun h54 => ?_)
        · have hx55 := ite_f h54 hx35
          refine T_skipG rfl rfl rfl rfl rfl ?_
          refine T_skipG rfl rfl rfl rfl rfl ?_
          refine T_skipG rfl rfl rfl rfl rfl ?_
          refine T_skipG rfl rfl rfl rfl rfl ?_
          refine T_skipG rfl rfl rfl rfl rfl ?_
          refine T_val (Ev_pickT rfl rfl) rfl ?_
          refine T_nil ?_
          exact T_metP true () hx55 trivial (by exact .cons rfl (.cons rfl (.cons rfl (.cons rfl (.cons rfl (.cons rfl (.cons rfl (.nil)))))))) (by exact .pick 0 rfl (.pick 0 rfl (.pick 0 rfl (.pick 0 rfl (.pick 0 rfl (.pick 0 rfl (.pick 0 rfl (.pick 0 rfl (.pick 0 rfl (.pick 0 rfl (.pick 0 rfl (.pick 0 rfl (.refl)))))))))))))
        · have hx56 := ite_t h54 hx35
          refine T_valG rfl rfl rfl (Ev_move rfl) rfl ?_
          refine T_valG rfl rfl rfl (Ev_len rfl 95 Try.underlying88) rfl ?_
          refine T_valG rfl rfl rfl (Ev_move rfl) rfl ?_
          refine T_valG rfl rfl rfl (Ev_len rfl 95 Try.underlying88) rfl ?_
          refine T_valG rfl rfl rfl (Ev_neq rfl rfl) rfl ?_
          refine T_val (Ev_pickF rfl rfl) rfl ?_
          refine T_nil ?_
          exact T_metP (!(decide (((((r20.1).length : Nat) : Int)) = ((((r33.1).length : Nat) : Int))))) () hx56 trivial (by exact .cons rfl (.cons rfl (.cons rfl (.cons rfl (.cons rfl (.cons rfl (.cons rfl (.nil)))))))) (by exact .pick 0 rfl (.pick 0 rfl (.pick 0 rfl (.pick 0 rfl (.pick 0 rfl (.pick 0 rfl (.pick 0 rfl (.pick 0 rfl (.pick 0 rfl (.pick 0 rfl (.pick 0 rfl (.pick 0 rfl (.refl)))))))))))))
  · skip
    refine T_reg ?_
    refine T_val (Ev_loadK rfl (i := 1) rfl rfl agg26) rfl ?_
    obtain ⟨r3, h4, hx5⟩ := bnd_some hx
    refine T_x (Wx_callL rfl (fun w1 hw1 => lidarlaw09_heavy_ok p0 (Has.len' ha0') h4 w1 (okApp (K := K) (K2 := []) hK (by exact (SubE.cons2 (i := 2) rfl (SubE.nil))) (by exact (SubE.nil)) hw1)) rfl ?_)
    rintro _ _ hlo ⟨rfl, rfl, -⟩
    refine T_app0 ?_
    refine T_val (Ev_move rfl) rfl ?_
    refine T_caseB (s := 18) rfl (fun h6 => ?_) (fun h6 => ?_)
    · have hx7 := ite_t h6 hx5
      refine T_skipG rfl rfl rfl rfl rfl ?_
      refine T_skipG rfl rfl rfl rfl rfl ?_
      refine T_val (Ev_pickT rfl rfl) rfl ?_
      refine T_nil ?_
      exact T_metP true () hx7 trivial (by exact .cons rfl (.cons rfl (.cons rfl (.cons rfl (.nil))))) (by exact .pick 0 rfl (.pick 0 rfl (.refl)))
    · have hx8 := ite_bf h6 hx5
      refine T_valG rfl rfl rfl (Ev_loadK rfl (i := 0) rfl rfl agg26) rfl ?_
      obtain ⟨r9, h10, hx11⟩ := bnd_some hx8
      refine T_xG rfl rfl rfl (Wx_callL rfl (fun w1 hw1 => lidarlaw09_heavy_ok p1 (Has.len' ha1') h10 w1 (okApp (K := K) (K2 := []) hK (by exact (SubE.cons2 (i := 2) rfl (SubE.nil))) (by exact (SubE.nil)) hw1)) rfl ?_)
      rintro _ _ hlo ⟨rfl, rfl, -⟩
      refine T_app0 ?_
      refine T_val (Ev_pickF rfl rfl) rfl ?_
      refine T_nil ?_
      exact T_metP r9 () hx11 trivial (by exact .cons rfl (.cons rfl (.cons rfl (.cons rfl (.nil))))) (by exact .pick 0 rfl (.pick 0 rfl (.refl)))
end Go.Proofs.Ytjhknbpiaikblaa
