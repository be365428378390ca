/- Walks of the laws: MeshLegal. -/
import Derived.Test.YtlkgeeppfifeeaaGreatE1
namespace Go.Proofs.YtlkgeeppfifeeaaGreat
open Go Go.RowKit
theorem arr52 : ArrOf Tryz.prog 52 4 2 := .mk Tryz.underlying52 (show Tryz.prog.info? 38 = some Tryz.t38 from by kernel_rfl) (by kernel_rfl)
structure S_arr4_api_XY where
  a0 : S_api_XY
  a1 : S_api_XY
  a2 : S_api_XY
  a3 : S_api_XY
noncomputable def lidarlaw06_MeshLegal (p0 : S_arr4_api_XY) : Option Bool :=
 bnd (mesh_Legal (⟨p0.a0.X, p0.a0.Y⟩ : S_api_XY) (⟨p0.a1.X, p0.a1.Y⟩ : S_api_XY) (⟨p0.a2.X, p0.a2.Y⟩ : S_api_XY) (⟨p0.a3.X, p0.a3.Y⟩ : S_api_XY)) fun r2 =>
 bnd (lidarref06_Legal (⟨p0.a0.X, p0.a0.Y⟩ : S_api_XY) (⟨p0.a1.X, p0.a1.Y⟩ : S_api_XY) (⟨p0.a2.X, p0.a2.Y⟩ : S_api_XY) (⟨p0.a3.X, p0.a3.Y⟩ : S_api_XY)) fun r5 =>
 bnd (mesh_Legal (⟨p0.a1.X, p0.a1.Y⟩ : S_api_XY) (⟨p0.a0.X, p0.a0.Y⟩ : S_api_XY) (⟨p0.a3.X, p0.a3.Y⟩ : S_api_XY) (⟨p0.a2.X, p0.a2.Y⟩ : S_api_XY)) fun r8 =>
 jn (fun (s5 : Bool) =>
 some s5)
 (fun j5 => if ((r2.1) == (r5.1)) = true then (if r2.2 = r5.2 then (if ((r8.1) == (r5.1)) = true then (if r8.2 = r5.2 then (bnd (lidarlaw06_awake) fun r19 =>
 j5 r19)
 else (j5 false))
 else (j5 false))
 else (j5 false))
 else (j5 false))
set_option maxRecDepth 100000 in
theorem lidarlaw06_MeshLegal_ok (p0 : S_arr4_api_XY)  {r : Bool} (hx : lidarlaw06_MeshLegal p0 = some r) (w : World) : CtL Tryz.prog 4 [.agg #[.int .i64 (p0.a0.X), .int .i64 (p0.a0.Y), .int .i64 (p0.a1.X), .int .i64 (p0.a1.Y), .int .i64 (p0.a2.X), .int .i64 (p0.a2.Y), .int .i64 (p0.a3.X), .int .i64 (p0.a3.Y)]] w fun v Ln => v = .bool (r) ∧ Ln = [] ∧ True := by
  refine CtL.mk 66 Tryz.func4 rfl Tryz.ntmps4 (by kernel_rfl) rfl ?_
  show T 66 _ [(0, .agg #[.int .i64 (p0.a0.X), .int .i64 (p0.a0.Y), .int .i64 (p0.a1.X), .int .i64 (p0.a1.Y), .int .i64 (p0.a2.X), .int .i64 (p0.a2.Y), .int .i64 (p0.a3.X), .int .i64 (p0.a3.Y)])] _
  unfold lidarlaw06_MeshLegal at hx
  refine T_seq ?_
  refine T_reg ?_
  refine T_x (Wx_box rfl rfl rfl (fun g1 => ?_))
  refine T_val (Ev_assign rfl) rfl ?_
  refine T_nil ?_
  refine T_next ?_
  refine T_seq ?_
  refine T_reg ?_
  refine T_val (Ev_indexP rfl rfl arr52 (by decide) (by decide) rfl) rfl ?_
  refine T_val (Ev_loadK rfl (i := 0) rfl rfl agg38) rfl ?_
  refine T_val (Ev_indexP rfl rfl arr52 (by decide) (by decide) rfl) rfl ?_
  refine T_val (Ev_loadK rfl (i := 0) rfl rfl agg38) rfl ?_
  refine T_val (Ev_indexP rfl rfl arr52 (by decide) (by decide) rfl) rfl ?_
  refine T_val (Ev_loadK rfl (i := 0) rfl rfl agg38) rfl ?_
  refine T_val (Ev_indexP rfl rfl arr52 (by decide) (by decide) rfl) rfl ?_
  refine T_val (Ev_loadK rfl (i := 0) rfl rfl agg38) rfl ?_
  obtain ⟨r2, h3, hx4⟩ := bnd_some hx
  refine T_x (Wx_callL rfl (fun w1 hw1 => mesh_Legal_ok (⟨p0.a0.X, p0.a0.Y⟩ : S_api_XY) (⟨p0.a1.X, p0.a1.Y⟩ : S_api_XY) (⟨p0.a2.X, p0.a2.Y⟩ : S_api_XY) (⟨p0.a3.X, p0.a3.Y⟩ : S_api_XY)  h3 w1) rfl ?_)
  rintro _ _ hlo ⟨rfl, rfl, -⟩
  refine T_app0 ?_
  refine T_val (Ev_move rfl) rfl ?_
  refine T_val (Ev_extract rfl rfl) rfl ?_
  refine T_val (Ev_extract rfl rfl) rfl ?_
  refine T_val (Ev_assign rfl) rfl ?_
  refine T_val (Ev_assign rfl) rfl ?_
  refine T_nil ?_
  refine T_next ?_
  refine T_seq ?_
  refine T_reg ?_
  refine T_val (Ev_indexP rfl rfl arr52 (by decide) (by decide) rfl) rfl ?_
  refine T_val (Ev_loadK rfl (i := 0) rfl rfl agg38) rfl ?_
  refine T_val (Ev_indexP rfl rfl arr52 (by decide) (by decide) rfl) rfl ?_
  refine T_val (Ev_loadK rfl (i := 0) rfl rfl agg38) rfl ?_
  refine T_val (Ev_indexP rfl rfl arr52 (by decide) (by decide) rfl) rfl ?_
  refine T_val (Ev_loadK rfl (i := 0) rfl rfl agg38) rfl ?_
  refine T_val (Ev_indexP rfl rfl arr52 (by decide) (by decide) rfl) rfl ?_
  refine T_val (Ev_loadK rfl (i := 0) rfl rfl agg38) rfl ?_
  obtain ⟨r5, h6, hx7⟩ := bnd_some hx4
  refine T_x (Wx_callL rfl (fun w1 hw1 => lidarref06_Legal_ok (⟨p0.a0.X, p0.a0.Y⟩ : S_api_XY) (⟨p0.a1.X, p0.a1.Y⟩ : S_api_XY) (⟨p0.a2.X, p0.a2.Y⟩ : S_api_XY) (⟨p0.a3.X, p0.a3.Y⟩ : S_api_XY)  h6 w1) rfl ?_)
  rintro _ _ hlo ⟨rfl, rfl, -⟩
  refine T_app0 ?_
  refine T_val (Ev_move rfl) rfl ?_
  refine T_val (Ev_extract rfl rfl) rfl ?_
  refine T_val (Ev_extract rfl rfl) rfl ?_
  refine T_val (Ev_assign rfl) rfl ?_
  refine T_val (Ev_assign rfl) rfl ?_
  refine T_nil ?_
  refine T_next ?_
  refine T_seq ?_
  refine T_reg ?_
  refine T_val (Ev_indexP rfl rfl arr52 (by decide) (by decide) rfl) rfl ?_
  refine T_val (Ev_loadK rfl (i := 0) rfl rfl agg38) rfl ?_
  refine T_val (Ev_indexP rfl rfl arr52 (by decide) (by decide) rfl) rfl ?_
  refine T_val (Ev_loadK rfl (i := 0) rfl rfl agg38) rfl ?_
  refine T_val (Ev_indexP rfl rfl arr52 (by decide) (by decide) rfl) rfl ?_
  refine T_val (Ev_loadK rfl (i := 0) rfl rfl agg38) rfl ?_
  refine T_val (Ev_indexP rfl rfl arr52 (by decide) (by decide) rfl) rfl ?_
  refine T_val (Ev_loadK rfl (i := 0) rfl rfl agg38) rfl ?_
  obtain ⟨r8, h9, hx10⟩ := bnd_some hx7
  refine T_x (Wx_callL rfl (fun w1 hw1 => mesh_Legal_ok (⟨p0.a1.X, p0.a1.Y⟩ : S_api_XY) (⟨p0.a0.X, p0.a0.Y⟩ : S_api_XY) (⟨p0.a3.X, p0.a3.Y⟩ : S_api_XY) (⟨p0.a2.X, p0.a2.Y⟩ : S_api_XY)  h9 w1) rfl ?_)
  rintro _ _ hlo ⟨rfl, rfl, -⟩
  refine T_app0 ?_
  refine T_val (Ev_move rfl) rfl ?_
  refine T_val (Ev_extract rfl rfl) rfl ?_
  refine T_val (Ev_extract rfl rfl) rfl ?_
  refine T_val (Ev_assign rfl) rfl ?_
  refine T_val (Ev_assign rfl) rfl ?_
  refine T_nil ?_
  refine T_next ?_
  obtain ⟨j5, hj5, hx10⟩ := jn_some hx10
  refine T_cutP (τ := Bool) (γ := Unit) (J := j5) (out := r) (fun s5 y5 => [(2, .bool (s5))]) (fun s5 y5 => [] ++ [.old w]) (fun s5 y5 => True) ?_ ?_
  · intro s5 y5 hx26 hG27
    subst hj5
    refine T_retc ?_
    obtain rfl := Option.some.inj hx26
    exact T_retP (rs := [.tmp 2]) Tryz.results4 (.tmp rfl (.nil)) (Ln := []) ⟨rfl, rfl, trivial⟩ (loNil) (by exact .refl)
  · skip
    refine T_reg ?_
    refine T_val (Ev_move rfl) rfl ?_
    refine T_val (Ev_move rfl) rfl ?_
    refine T_val (Ev_eqlB rfl rfl (by kernel_rfl)) rfl ?_
    refine T_val (Ev_move rfl) rfl ?_
    refine T_caseB (s := 48) rfl (fun h11 => ?_) (fun h11 => ?_)
    · have hx12 := ite_t h11 hx10
      refine T_valG rfl rfl rfl (Ev_move rfl) rfl ?_
      refine T_valG rfl rfl rfl (Ev_move rfl) rfl ?_
      refine T_valG rfl rfl rfl (Ev_eql rfl rfl) rfl ?_
      refine T_val (Ev_pickT rfl rfl) rfl ?_
      refine T_val (Ev_move rfl) rfl ?_
      refine T_caseP (s := 53) rfl (fun h13 => ?_) (fun h13 => ?_)
      · have hx14 := ite_t h13 hx12
        refine T_valG rfl rfl rfl (Ev_move rfl) rfl ?_
        refine T_valG rfl rfl rfl (Ev_move rfl) rfl ?_
        refine T_valG rfl rfl rfl (Ev_eqlB rfl rfl (by kernel_rfl)) rfl ?_
        refine T_val (Ev_pickT rfl rfl) rfl ?_
        refine T_val (Ev_move rfl) rfl ?_
        refine T_caseB (s := 58) rfl (fun h15 => ?_) (fun h15 => ?_)
        · have hx16 := ite_t h15 hx14
          refine T_valG rfl rfl rfl (Ev_move rfl) rfl ?_
          refine T_valG rfl rfl rfl (Ev_move rfl) rfl ?_
          refine T_valG rfl rfl rfl (Ev_eql rfl rfl) rfl ?_
          refine T_val (Ev_pickT rfl rfl) rfl ?_
          refine T_val (Ev_move rfl) rfl ?_
          refine T_caseP (s := 63) rfl (fun h17 => ?_) (fun h17 => ?_)
          · have hx18 := ite_t h17 hx16
            obtain ⟨r19, h20, hx21⟩ := bnd_some hx18
            refine T_xG rfl rfl rfl (Wx_callL rfl (fun w1 hw1 => lidarlaw06_awake_ok  h20 w1) rfl ?_)
            rintro _ _ hlo ⟨rfl, rfl, -⟩
            refine T_app0 ?_
            refine T_val (Ev_pickT rfl rfl) rfl ?_
            refine T_val (Ev_assign rfl) rfl ?_
            refine T_nil ?_
            exact T_metP r19 () hx21 trivial (by exact .cons rfl (.nil)) (by exact .drop 0 rfl (.refl))
          · have hx22 := ite_f h17 hx16
            refine T_skipG rfl rfl rfl rfl rfl ?_
            refine T_val (Ev_pickF rfl rfl) rfl ?_
            refine T_val (Ev_assign rfl) rfl ?_
            refine T_nil ?_
            exact T_metP false () hx22 trivial (by exact .cons rfl (.nil)) (by exact .drop 0 rfl (.refl))
        · have hx23 := ite_bf h15 hx14
          refine T_skipG rfl rfl rfl rfl rfl ?_
          refine T_skipG rfl rfl rfl rfl rfl ?_
          refine T_skipG rfl rfl rfl rfl rfl ?_
          refine T_val (Ev_pickF rfl rfl) rfl ?_
          refine T_val (Ev_move rfl) rfl ?_
          refine T_skipG rfl rfl rfl rfl rfl ?_
          refine T_val (Ev_pickF rfl rfl) rfl ?_
          refine T_val (Ev_assign rfl) rfl ?_
          refine T_nil ?_
          exact T_metP false () hx23 trivial (by exact .cons rfl (.nil)) (by exact .drop 0 rfl (.refl))
      · have hx24 := ite_f h13 hx12
        refine T_skipG rfl rfl rfl rfl rfl ?_
        refine T_skipG rfl rfl rfl rfl rfl ?_
        refine T_skipG rfl rfl rfl rfl rfl ?_
        refine T_val (Ev_pickF rfl rfl) rfl ?_
        refine T_val (Ev_move rfl) rfl ?_
        refine T_skipG rfl rfl rfl rfl rfl ?_
        refine T_skipG rfl rfl rfl rfl rfl ?_
        refine T_skipG rfl rfl rfl rfl rfl ?_
        refine T_val (Ev_pickF rfl rfl) rfl ?_
        refine T_val (Ev_move rfl) rfl ?_
        refine T_skipG rfl rfl rfl rfl rfl ?_
        refine T_val (Ev_pickF rfl rfl) rfl ?_
        refine T_val (Ev_assign rfl) rfl ?_
        refine T_nil ?_
        exact T_metP false () hx24 trivial (by exact .cons rfl (.nil)) (by exact .drop 0 rfl (.refl))
    · have hx25 := ite_bf h11 hx10
      refine T_skipG rfl rfl rfl rfl rfl ?_
      refine T_skipG rfl rfl rfl rfl rfl ?_
      refine T_skipG rfl rfl rfl rfl rfl ?_
      refine T_val (Ev_pickF rfl rfl) rfl ?_
      refine T_val (Ev_move rfl) rfl ?_
      refine T_skipG rfl rfl rfl rfl rfl ?_
      refine T_skipG rfl rfl rfl rfl rfl ?_
      refine T_skipG rfl rfl rfl rfl rfl ?_
      refine T_val (Ev_pickF rfl rfl) rfl ?_
      refine T_val (Ev_move rfl) rfl ?_
      refine T_skipG rfl rfl rfl rfl rfl ?_
      refine T_skipG rfl rfl rfl rfl rfl ?_
      refine T_skipG rfl rfl rfl rfl rfl ?_
      refine T_val (Ev_pickF rfl rfl) rfl ?_
      refine T_val (Ev_move rfl) rfl ?_
      refine T_skipG rfl rfl rfl rfl rfl ?_
      refine T_val (Ev_pickF rfl rfl) rfl ?_
      refine T_val (Ev_assign rfl) rfl ?_
      refine T_nil ?_
      exact T_metP false () hx25 trivial (by exact .cons rfl (.nil)) (by exact .drop 0 rfl (.refl))
end Go.Proofs.YtlkgeeppfifeeaaGreat
