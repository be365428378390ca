/- Walks of the laws: awake. -/
import Derived.Test.YtlkgeeppfifeeaaGreatD6
namespace Go.Proofs.YtlkgeeppfifeeaaGreat
open Go Go.RowKit
theorem bld43_  : BuildOf Tryz.prog 43 [] [.int .i64 (0), .int .i64 (0), .int .i64 (0), .int .i64 (0)] := fun w => by kernel_rfl
theorem bld43_0i64 (x0 : Int) : BuildOf Tryz.prog 43 [(0, .int .i64 x0)] [.int .i64 x0, .int .i64 (0), .int .i64 (0), .int .i64 (0)] := fun w => by kernel_rfl
theorem bld43_1i64 (x0 : Int) : BuildOf Tryz.prog 43 [(1, .int .i64 x0)] [.int .i64 (0), .int .i64 x0, .int .i64 (0), .int .i64 (0)] := fun w => by kernel_rfl
theorem bld43_0i641i64 (x0 : Int) (x1 : Int) : BuildOf Tryz.prog 43 [(0, .int .i64 x0), (1, .int .i64 x1)] [.int .i64 x0, .int .i64 x1, .int .i64 (0), .int .i64 (0)] := fun w => by kernel_rfl
theorem bls22_4_0ai64i64i64i641ai64i64i64i642ai64i64i64i643ai64i64i64i64 (x0 : Int) (x1 : Int) (x2 : Int) (x3 : Int) (x4 : Int) (x5 : Int) (x6 : Int) (x7 : Int) (x8 : Int) (x9 : Int) (x10 : Int) (x11 : Int) (x12 : Int) (x13 : Int) (x14 : Int) (x15 : Int) : BuildSliceOf Tryz.prog 22 4 [(0, .agg #[.int .i64 x0, .int .i64 x1, .int .i64 x2, .int .i64 x3]), (1, .agg #[.int .i64 x4, .int .i64 x5, .int .i64 x6, .int .i64 x7]), (2, .agg #[.int .i64 x8, .int .i64 x9, .int .i64 x10, .int .i64 x11]), (3, .agg #[.int .i64 x12, .int .i64 x13, .int .i64 x14, .int .i64 x15])] 43 [.int .i64 x0, .int .i64 x1, .int .i64 x2, .int .i64 x3, .int .i64 x4, .int .i64 x5, .int .i64 x6, .int .i64 x7, .int .i64 x8, .int .i64 x9, .int .i64 x10, .int .i64 x11, .int .i64 x12, .int .i64 x13, .int .i64 x14, .int .i64 x15] := fun w => by kernel_rfl
theorem fld32_1 : FieldOf Tryz.prog 32 1 1 := .mk Tryz.underlying32 rfl rfl (show Tryz.prog.info? 30 = some Tryz.t30 from by kernel_rfl) (show Tryz.t30.size = 1 from by kernel_rfl) rfl
theorem one30 : OneOf Tryz.prog 30 := .mk Tryz.underlying30 rfl (show Tryz.prog.info? 30 = some Tryz.t30 from by kernel_rfl) (by kernel_rfl)
theorem slc30 : SliceOf Tryz.prog 30 35 3 := .mk Tryz.underlying30 (show Tryz.prog.info? 35 = some Tryz.t35 from by kernel_rfl) (by kernel_rfl)
theorem agg35 : AggOf Tryz.prog 35 3 := .arr Tryz.underlying35 (show Tryz.prog.info? 35 = some Tryz.t35 from by kernel_rfl) (by kernel_rfl)
theorem seq35 (a0 : Int) (a1 : Int) (a2 : Int) (b0 : Int) (b1 : Int) (b2 : Int) : ∀ w, (Op.equalIn 10000 35 (.agg #[.int .i64 (a0), .int .i64 (a1), .int .i64 (a2)]) (.agg #[.int .i64 (b0), .int .i64 (b1), .int .i64 (b2)])).run Tryz.prog w = .ok ((((a0) == (b0)) && (((a1) == (b1)) && (((a2) == (b2)) && true)))) w :=
  EqI.array (c := 1) Tryz.underlying35 (show Tryz.prog.info? 3 = some Tryz.t3 from by kernel_rfl) (by kernel_rfl) (.cons (fun w => by kernel_rfl) (fun w => by kernel_rfl) (fun w => run_equalIn_int w 9998 3 .i64 .i64 _ _ Tryz.underlying3) (.cons (fun w => by kernel_rfl) (fun w => by kernel_rfl) (fun w => run_equalIn_int w 9998 3 .i64 .i64 _ _ Tryz.underlying3) (.cons (fun w => by kernel_rfl) (fun w => by kernel_rfl) (fun w => run_equalIn_int w 9998 3 .i64 .i64 _ _ Tryz.underlying3) (EqI.nil))))
noncomputable def lidarlaw06_awake  : Option Bool :=
 bnd (mesh_Build ([(⟨0, 0, (⟨0, 0⟩ : S_api_Span)⟩ : S_api_Vertex), (⟨2, 0, (⟨0, 0⟩ : S_api_Span)⟩ : S_api_Vertex), (⟨0, 2, (⟨0, 0⟩ : S_api_Span)⟩ : S_api_Vertex), (⟨2, 2, (⟨0, 0⟩ : S_api_Span)⟩ : S_api_Vertex)]) ([] : List S_arr2_int)) fun r3 =>
 jn (fun (s3 : Bool) =>
 some s3)
 (fun j3 => if r3.2 = 0 then (if ((((r3.1.T).length : Nat) : Int)) = 2 then (bnd (idx r3.1.T 0) fun x17 =>
 if ((((x17.a0) == (0)) && (((x17.a1) == (1)) && (((x17.a2) == (2)) && true)))) = true then (bnd (idx r3.1.T 1) fun x30 =>
 j3 (((x30.a0) == (1)) && (((x30.a1) == (3)) && (((x30.a2) == (2)) && true))))
 else (j3 false))
 else (j3 false))
 else (j3 false))
set_option maxRecDepth 100000 in
theorem lidarlaw06_awake_ok   {r : Bool} (hx : lidarlaw06_awake = some r) (w : World) : CtL Tryz.prog 10 [] w fun v Ln => v = .bool (r) ∧ Ln = [] ∧ True := by
  refine CtL.mk 36 Tryz.func10 rfl Tryz.ntmps10 (by kernel_rfl) rfl ?_
  unfold lidarlaw06_awake at hx
  refine T_seq ?_
  refine T_reg ?_
  refine T_val (Ev_assign rfl) rfl ?_
  refine T_nil ?_
  refine T_next ?_
  refine T_seq ?_
  refine T_reg ?_
  refine T_val (Ev_build rfl (bld43_)) rfl ?_
  refine T_val (Ev_build rfl (bld43_0i64 _)) rfl ?_
  refine T_val (Ev_build rfl (bld43_1i64 _)) rfl ?_
  refine T_val (Ev_build rfl (bld43_0i641i64 _ _)) rfl ?_
  refine T_x (Wx_buildSlice rfl (bls22_4_0ai64i64i64i641ai64i64i64i642ai64i64i64i643ai64i64i64i64 _ _ _ _ _ _ _ _ _ _ _ _ _ _ _ _) rfl (fun g1 => ?_))
  have hs2 : Has [.m g1 43 [.int .i64 (0), .int .i64 (0), .int .i64 (0), .int .i64 (0), .int .i64 (2), .int .i64 (0), .int .i64 (0), .int .i64 (0), .int .i64 (0), .int .i64 (2), .int .i64 (0), .int .i64 (0), .int .i64 (2), .int .i64 (2), .int .i64 (0), .int .i64 (0)]] (some ⟨g1, 0, none⟩) 4 4 4 e_api_Vertex [(⟨0, 0, (⟨0, 0⟩ : S_api_Span)⟩ : S_api_Vertex), (⟨2, 0, (⟨0, 0⟩ : S_api_Span)⟩ : S_api_Vertex), (⟨0, 2, (⟨0, 0⟩ : S_api_Span)⟩ : S_api_Vertex), (⟨2, 2, (⟨0, 0⟩ : S_api_Span)⟩ : S_api_Vertex)] := Has.ofM (fun _ _ => rfl) rfl (by decide) rfl
  obtain ⟨r3, h4, hx5⟩ := bnd_some hx
  refine T_x (Wx_callL rfl (fun w1 hw1 => mesh_Build_ok ([(⟨0, 0, (⟨0, 0⟩ : S_api_Span)⟩ : S_api_Vertex), (⟨2, 0, (⟨0, 0⟩ : S_api_Span)⟩ : S_api_Vertex), (⟨0, 2, (⟨0, 0⟩ : S_api_Span)⟩ : S_api_Vertex), (⟨2, 2, (⟨0, 0⟩ : S_api_Span)⟩ : S_api_Vertex)]) ([] : List S_arr2_int) (Has.len' hs2) (Has.nil (K := ([.m g1 43 [.int .i64 (0), .int .i64 (0), .int .i64 (0), .int .i64 (0), .int .i64 (2), .int .i64 (0), .int .i64 (0), .int .i64 (0), .int .i64 (0), .int .i64 (2), .int .i64 (0), .int .i64 (0), .int .i64 (2), .int .i64 (2), .int .i64 (0), .int .i64 (0)]] : List Ent))) h4 w1 (okAll (K := ([.m g1 43 [.int .i64 (0), .int .i64 (0), .int .i64 (0), .int .i64 (0), .int .i64 (2), .int .i64 (0), .int .i64 (0), .int .i64 (0), .int .i64 (0), .int .i64 (2), .int .i64 (0), .int .i64 (0), .int .i64 (2), .int .i64 (2), .int .i64 (0), .int .i64 (0)]] : List Ent)) (by exact (SubE.cons2 (i := 0) rfl (SubE.nil))) hw1)) rfl ?_)
  rintro _ _ hlo ⟨A6, c7, A8, c9, A10, c11, rfl, rfl, -⟩
  refine T_app3 ?_
  refine T_val (Ev_move rfl) rfl ?_
  refine T_val (Ev_extract rfl rfl) rfl ?_
  refine T_val (Ev_extract rfl rfl) rfl ?_
  refine T_x (Wx_alloc zer32 rfl (fun g12 => ?_))
  refine T_h (Wh_store rfl rfl rfl (.here) (.put (.put (.put (.done)))) rfl (List.cons_ne_nil _ _) agg32.2 ?_)
  refine T_val (Ev_assign rfl) rfl ?_
  refine T_nil ?_
  refine T_next ?_
  obtain ⟨j3, hj3, hx5⟩ := jn_some hx5
  refine T_cutP (τ := Bool) (γ := Unit) (J := j3) (out := r) (fun s3 y3 => [(0, .bool (s3))]) (fun s3 y3 => [] ++ [.old w]) (fun s3 y3 => True) ?_ ?_
  · intro s3 y3 hx44 hG45
    subst hj3
    refine T_retc ?_
    obtain rfl := Option.some.inj hx44
    exact T_retP (rs := [.tmp 0]) Tryz.results10 (.tmp rfl (.nil)) (Ln := []) ⟨rfl, rfl, trivial⟩ (loNil) (by exact .refl)
  · skip
    refine T_reg ?_
    refine T_val (Ev_move rfl) rfl ?_
    refine T_val (Ev_eql rfl rfl) rfl ?_
    refine T_val (Ev_move rfl) rfl ?_
    refine T_caseP (s := 14) rfl (fun h13 => ?_) (fun h13 => ?_)
    · have hx14 := ite_t h13 hx5
      refine T_valG rfl rfl rfl (Ev_field rfl fld32_1 rfl) rfl ?_
      refine T_valG rfl rfl rfl (Ev_load1 rfl (i := 0) rfl rfl one30) rfl ?_
      refine T_valG rfl rfl rfl (Ev_len rfl 35 Tryz.underlying30) rfl ?_
      refine T_valG rfl rfl rfl (Ev_eql rfl rfl) rfl ?_
      refine T_val (Ev_pickT rfl rfl) rfl ?_
      refine T_val (Ev_move rfl) rfl ?_
      refine T_caseP (s := 20) rfl (fun h15 => ?_) (fun h15 => ?_)
      · have hx16 := ite_t h15 hx14
        refine T_valG rfl rfl rfl (Ev_field rfl fld32_1 rfl) rfl ?_
        refine T_valG rfl rfl rfl (Ev_load1 rfl (i := 0) rfl rfl one30) rfl ?_
        obtain ⟨x17, h18, hx19⟩ := bnd_some hx16
        refine T_idxR (k := 2) rfl (by decide) (fun _ => rfl) h18 (fun b20 j22 hA23 hj24 hl25 hm27 hp26 => ?_)
        refine T_valG rfl rfl rfl (Ev_index rfl rfl hA23 (j := j22) hj24 hl25 slc30) rfl ?_
        refine T_valG rfl rfl rfl (Ev_loadPK0 rfl hp26 (SubE.cons2 (i := 2) rfl (SubE.nil)) rfl agg35) rfl ?_
        refine T_valG rfl rfl rfl (Ev_build rfl (bld35_0i641i642i64 _ _ _)) rfl ?_
        refine T_valG rfl rfl rfl (Ev_eqlS rfl rfl (by kernel_rfl) (seq35 _ _ _ _ _ _)) rfl ?_
        refine T_val (Ev_pickT rfl rfl) rfl ?_
        refine T_val (Ev_move rfl) rfl ?_
        refine T_caseB (s := 28) rfl (fun h28 => ?_) (fun h28 => ?_)
        · have hx29 := ite_t h28 hx19
          refine T_valG rfl rfl rfl (Ev_field rfl fld32_1 rfl) rfl ?_
          refine T_valG rfl rfl rfl (Ev_load1 rfl (i := 0) rfl rfl one30) rfl ?_
          obtain ⟨x30, h31, hx32⟩ := bnd_some hx29
          refine T_idxR (k := 2) rfl (by decide) (fun _ => rfl) h31 (fun b33 j35 hA36 hj37 hl38 hm40 hp39 => ?_)
          refine T_valG rfl rfl rfl (Ev_index rfl rfl hA36 (j := j35) hj37 hl38 slc30) rfl ?_
          refine T_valG rfl rfl rfl (Ev_loadPK0 rfl hp39 (SubE.cons2 (i := 2) rfl (SubE.nil)) rfl agg35) rfl ?_
          refine T_valG rfl rfl rfl (Ev_build rfl (bld35_0i641i642i64 _ _ _)) rfl ?_
          refine T_valG rfl rfl rfl (Ev_eqlS rfl rfl (by kernel_rfl) (seq35 _ _ _ _ _ _)) rfl ?_
          refine T_val (Ev_pickT rfl rfl) rfl ?_
          refine T_val (Ev_assign rfl) rfl ?_
          refine T_nil ?_
          exact T_metP (((x30.a0) == (1)) && (((x30.a1) == (3)) && (((x30.a2) == (2)) && true))) () hx32 trivial (by exact .cons rfl (.nil)) (by exact .drop 0 rfl (.drop 0 rfl (.drop 0 rfl (.drop 0 rfl (.drop 0 rfl (.refl))))))
        · have hx41 := ite_bf h28 hx19
          refine T_skipG rfl rfl rfl rfl rfl ?_
          refine T_skipG rfl rfl rfl rfl rfl ?_
          refine T_skipG rfl rfl rfl rfl rfl ?_
          refine T_skipG rfl rfl rfl rfl rfl ?_
          refine T_skipG rfl rfl rfl rfl rfl ?_
          refine T_skipG rfl rfl rfl rfl rfl ?_
          refine T_val (Ev_pickF rfl rfl) rfl ?_
          refine T_val (Ev_assign rfl) rfl ?_
          refine T_nil ?_
          exact T_metP false () hx41 trivial (by exact .cons rfl (.nil)) (by exact .drop 0 rfl (.drop 0 rfl (.drop 0 rfl (.drop 0 rfl (.drop 0 rfl (.refl))))))
      · have hx42 := ite_f h15 hx14
        refine T_skipG rfl rfl rfl rfl rfl ?_
        refine T_skipG rfl rfl rfl rfl rfl ?_
        refine T_skipG rfl rfl rfl rfl rfl ?_
        refine T_skipG rfl rfl rfl rfl rfl ?_
        refine T_skipG rfl rfl rfl rfl rfl ?_
        refine T_skipG rfl rfl rfl rfl rfl ?_
        refine T_val (Ev_pickF rfl rfl) rfl ?_
        refine T_val (Ev_move rfl) rfl ?_
        refine T_skipG rfl rfl rfl rfl rfl ?_
        refine T_skipG rfl rfl rfl rfl rfl ?_
        refine T_skipG rfl rfl rfl rfl rfl ?_
        refine T_skipG rfl rfl rfl rfl rfl ?_
        refine T_skipG rfl rfl rfl rfl rfl ?_
        refine T_skipG rfl rfl rfl rfl rfl ?_
        refine T_val (Ev_pickF rfl rfl) rfl ?_
        refine T_val (Ev_assign rfl) rfl ?_
        refine T_nil ?_
        exact T_metP false () hx42 trivial (by exact .cons rfl (.nil)) (by exact .drop 0 rfl (.drop 0 rfl (.drop 0 rfl (.drop 0 rfl (.drop 0 rfl (.refl))))))
    · have hx43 := ite_f h13 hx5
      refine T_skipG rfl rfl rfl rfl rfl ?_
      refine T_skipG rfl rfl rfl rfl rfl ?_
      refine T_skipG rfl rfl rfl rfl rfl ?_
      refine T_skipG rfl rfl rfl rfl rfl ?_
      refine T_val (Ev_pickF rfl rfl) rfl ?_
      refine T_val (Ev_move rfl) rfl ?_
      refine T_skipG rfl rfl rfl rfl rfl ?_
      refine T_skipG rfl rfl rfl rfl rfl ?_
      refine T_skipG rfl rfl rfl rfl rfl ?_
      refine T_skipG rfl rfl rfl rfl rfl ?_
      refine T_skipG rfl rfl rfl rfl rfl ?_
      refine T_skipG rfl rfl rfl rfl rfl ?_
      refine T_val (Ev_pickF rfl rfl) rfl ?_
      refine T_val (Ev_move rfl) rfl ?_
      refine T_skipG rfl rfl rfl rfl rfl ?_
      refine T_skipG rfl rfl rfl rfl rfl ?_
      refine T_skipG rfl rfl rfl rfl rfl ?_
      refine T_skipG rfl rfl rfl rfl rfl ?_
      refine T_skipG rfl rfl rfl rfl rfl ?_
      refine T_skipG rfl rfl rfl rfl rfl ?_
      refine T_val (Ev_pickF rfl rfl) rfl ?_
      refine T_val (Ev_assign rfl) rfl ?_
      refine T_nil ?_
      exact T_metP false () hx43 trivial (by exact .cons rfl (.nil)) (by exact .drop 0 rfl (.drop 0 rfl (.drop 0 rfl (.drop 0 rfl (.drop 0 rfl (.refl))))))
end Go.Proofs.YtlkgeeppfifeeaaGreat
