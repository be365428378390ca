/- Walks of the program, with their plain functions: the references on places. -/
import Derived.Test.YtlkgeeppfifeeaaGreatFa
namespace Go.Proofs.YtlkgeeppfifeeaaGreat
open Go Go.RowKit
noncomputable def lidarref06_Place (p0 : S_api_Vertex) : Option S_api_XY :=
 some (⟨p0.X, p0.Y⟩ : S_api_XY)
noncomputable def lidarref06_ValidPlace (p0 : S_api_XY) : Option Bool :=
 jn (fun (s2 : Bool) =>
 some s2)
 (fun j2 => if (-268435456) ≤ p0.X then (if p0.X ≤ 268435456 then (if (-268435456) ≤ p0.Y then (j2 (decide (p0.Y ≤ 268435456)))
 else (j2 false))
 else (j2 false))
 else (j2 false))
noncomputable def lidarref06_validVertex (p0 : S_api_Vertex) : Option Bool :=
 jn (fun (s2 : Bool) =>
 some s2)
 (fun j2 => bnd (lidarref06_Place p0) fun r2 =>
 bnd (lidarref06_ValidPlace r2) fun r5 =>
 if r5 = true then (if (-268435456) ≤ p0.Z.Lo then (if p0.Z.Lo ≤ p0.Z.Hi then (j2 (decide (p0.Z.Hi ≤ 268435456)))
 else (j2 false))
 else (j2 false))
 else (j2 false))
noncomputable def lidarref06_Before (p0 : S_api_XY) (p1 : S_api_XY) : Option Bool :=
 jn (fun (s2 : Bool) =>
 some s2)
 (fun j2 => if p0.X < p1.X then (j2 true)
 else (if p0.X = p1.X then (j2 (decide (p0.Y < p1.Y)))
 else (j2 false)))
noncomputable def lidarref06_Twice (p0 : S_api_XY) (p1 : S_api_XY) (p2 : S_api_XY) : Option Int :=
 some (w64 ((w64 ((w64 (p1.X - p0.X)) * (w64 (p2.Y - p0.Y)))) - (w64 ((w64 (p1.Y - p0.Y)) * (w64 (p2.X - p0.X))))))
noncomputable def lidarref06_sign (p0 : Int) : Option Int :=
 if p0 < 0 then (some (-1))
 else (if 0 < p0 then (some 1)
 else (some 0))
noncomputable def lidarref06_Turn (p0 : S_api_XY) (p1 : S_api_XY) (p2 : S_api_XY) : Option Int :=
 bnd (lidarref06_Twice p0 p1 p2) fun r4 =>
 bnd (lidarref06_sign r4) fun r7 =>
 some r7
structure S_lidarref06_wide where
  high : Int
  middle : Int
  low : Int
set_option maxRecDepth 100000 in
theorem lidarref06_Place_ok (p0 : S_api_Vertex)  {r : S_api_XY} (hx : lidarref06_Place p0 = some r) (w : World) : CtL Tryz.prog 13 [.agg #[.int .i64 (p0.X), .int .i64 (p0.Y), .int .i64 (p0.Z.Lo), .int .i64 (p0.Z.Hi)]] w fun v Ln => v = .agg #[.int .i64 (r.X), .int .i64 (r.Y)] ∧ Ln = [] ∧ True := by
  refine CtL.mk 8 Tryz.func13 rfl Tryz.ntmps13 (by kernel_rfl) rfl ?_
  show T 8 _ [(0, .agg #[.int .i64 (p0.X), .int .i64 (p0.Y), .int .i64 (p0.Z.Lo), .int .i64 (p0.Z.Hi)])] _
  unfold lidarref06_Place at hx
  refine T_seq ?_
  refine T_reg ?_
  refine T_x (Wx_box rfl rfl rfl (fun g1 => ?_))
  refine T_x (Wx_alloc zer38 rfl (fun g2 => ?_))
  refine T_nil ?_
  refine T_next ?_
  refine T_seq ?_
  refine T_reg ?_
  refine T_val (Ev_field rfl fld43_0 rfl) rfl ?_
  refine T_val (Ev_load1 rfl (i := 1) rfl rfl one3) rfl ?_
  refine T_val (Ev_field rfl fld43_1 rfl) rfl ?_
  refine T_val (Ev_load1 rfl (i := 1) rfl rfl one3) rfl ?_
  refine T_val (Ev_build rfl (bld38_0i641i64 _ _)) rfl ?_
  refine T_h (Wh_store rfl rfl rfl (.here) (.put (.put (.done))) rfl (List.cons_ne_nil _ _) agg38.2 ?_)
  refine T_nil ?_
  refine T_next ?_
  refine T_retc ?_
  obtain rfl := Option.some.inj hx
  exact T_retP (rs := [.cell 2 38]) Tryz.results13 (.cell rfl (i := 0) rfl rfl agg38 (.nil)) (Ln := []) ⟨rfl, rfl, trivial⟩ (loNil) (by exact .drop 0 rfl (.drop 0 rfl (.refl)))
set_option maxRecDepth 100000 in
theorem lidarref06_ValidPlace_ok (p0 : S_api_XY)  {r : Bool} (hx : lidarref06_ValidPlace p0 = some r) (w : World) : CtL Tryz.prog 44 [.agg #[.int .i64 (p0.X), .int .i64 (p0.Y)]] w fun v Ln => v = .bool (r) ∧ Ln = [] ∧ True := by
  refine CtL.mk 21 Tryz.func44 rfl Tryz.ntmps44 (by kernel_rfl) rfl ?_
  show T 21 _ [(0, .agg #[.int .i64 (p0.X), .int .i64 (p0.Y)])] _
  unfold lidarref06_ValidPlace at hx
  refine T_seq ?_
  refine T_reg ?_
  refine T_x (Wx_box rfl rfl rfl (fun g1 => ?_))
  refine T_val (Ev_assign rfl) rfl ?_
  refine T_nil ?_
  refine T_next ?_
  obtain ⟨j2, hj2, hx⟩ := jn_some hx
  refine T_cutP (τ := Bool) (γ := Unit) (J := j2) (out := r) (fun s2 y2 => [(2, .bool (s2))]) (fun s2 y2 => [] ++ [.old w]) (fun s2 y2 => True) ?_ ?_
  · intro s2 y2 hx11 hG12
    subst hj2
    refine T_retc ?_
    obtain rfl := Option.some.inj hx11
    exact T_retP (rs := [.tmp 2]) Tryz.results44 (.tmp rfl (.nil)) (Ln := []) ⟨rfl, rfl, trivial⟩ (loNil) (by exact .refl)
  · skip
    refine T_reg ?_
    refine T_val (Ev_field rfl fld38_0 rfl) rfl ?_
    refine T_val (Ev_load1 rfl (i := 0) rfl rfl one3) rfl ?_
    refine T_val (Ev_geq rfl rfl) rfl ?_
    refine T_val (Ev_move rfl) rfl ?_
    refine T_caseP (s := 6) rfl (fun h2 => ?_) (fun h2 => ?_)
    · have hx3 := ite_t h2 hx
      refine T_valG rfl rfl rfl (Ev_field rfl fld38_0 rfl) rfl ?_
      refine T_valG rfl rfl rfl (Ev_load1 rfl (i := 0) rfl rfl one3) rfl ?_
      refine T_valG rfl rfl rfl (Ev_leq rfl rfl) rfl ?_
      refine T_val (Ev_pickT rfl rfl) rfl ?_
      refine T_val (Ev_move rfl) rfl ?_
      refine T_caseP (s := 11) rfl (fun h4 => ?_) (fun h4 => ?_)
      · have hx5 := ite_t h4 hx3
        refine T_valG rfl rfl rfl (Ev_field rfl fld38_1 rfl) rfl ?_
        refine T_valG rfl rfl rfl (Ev_load1 rfl (i := 0) rfl rfl one3) rfl ?_
        refine T_valG rfl rfl rfl (Ev_geq rfl rfl) rfl ?_
        refine T_val (Ev_pickT rfl rfl) rfl ?_
        refine T_val (Ev_move rfl) rfl ?_
        refine T_caseP (s := 16) rfl (fun h6 => ?_) (fun h6 => ?_)
        · have hx7 := ite_t h6 hx5
          refine T_valG rfl rfl rfl (Ev_field rfl fld38_1 rfl) rfl ?_
          refine T_valG rfl rfl rfl (Ev_load1 rfl (i := 0) rfl rfl one3) rfl ?_
          refine T_valG rfl rfl rfl (Ev_leq rfl rfl) rfl ?_
          refine T_val (Ev_pickT rfl rfl) rfl ?_
          refine T_val (Ev_assign rfl) rfl ?_
          refine T_nil ?_
          exact T_metP (decide (p0.Y ≤ 268435456)) () hx7 trivial (by exact .cons rfl (.nil)) (by exact .drop 0 rfl (.refl))
        · have hx8 := ite_f h6 hx5
          refine T_skipG rfl rfl rfl rfl rfl ?_
          refine T_skipG rfl rfl rfl rfl rfl ?_
          refine T_skipG rfl rfl rfl rfl rfl ?_
          refine T_val (Ev_pickF rfl rfl) rfl ?_
          refine T_val (Ev_assign rfl) rfl ?_
          refine T_nil ?_
          exact T_metP false () hx8 trivial (by exact .cons rfl (.nil)) (by exact .drop 0 rfl (.refl))
      · have hx9 := ite_f h4 hx3
        refine T_skipG rfl rfl rfl rfl rfl ?_
        refine T_skipG rfl rfl rfl rfl rfl ?_
        refine T_skipG rfl rfl rfl rfl rfl ?_
        refine T_val (Ev_pickF rfl rfl) rfl ?_
        refine T_val (Ev_move rfl) rfl ?_
        refine T_skipG rfl rfl rfl rfl rfl ?_
        refine T_skipG rfl rfl rfl rfl rfl ?_
        refine T_skipG rfl rfl rfl rfl rfl ?_
        refine T_val (Ev_pickF rfl rfl) rfl ?_
        refine T_val (Ev_assign rfl) rfl ?_
        refine T_nil ?_
        exact T_metP false () hx9 trivial (by exact .cons rfl (.nil)) (by exact .drop 0 rfl (.refl))
    · have hx10 := ite_f h2 hx
      refine T_skipG rfl rfl rfl rfl rfl ?_
      refine T_skipG rfl rfl rfl rfl rfl ?_
      refine T_skipG rfl rfl rfl rfl rfl ?_
      refine T_val (Ev_pickF rfl rfl) rfl ?_
      refine T_val (Ev_move rfl) rfl ?_
      refine T_skipG rfl rfl rfl rfl rfl ?_
      refine T_skipG rfl rfl rfl rfl rfl ?_
      refine T_skipG rfl rfl rfl rfl rfl ?_
      refine T_val (Ev_pickF rfl rfl) rfl ?_
      refine T_val (Ev_move rfl) rfl ?_
      refine T_skipG rfl rfl rfl rfl rfl ?_
      refine T_skipG rfl rfl rfl rfl rfl ?_
      refine T_skipG rfl rfl rfl rfl rfl ?_
      refine T_val (Ev_pickF rfl rfl) rfl ?_
      refine T_val (Ev_assign rfl) rfl ?_
      refine T_nil ?_
      exact T_metP false () hx10 trivial (by exact .cons rfl (.nil)) (by exact .drop 0 rfl (.refl))
set_option maxRecDepth 100000 in
theorem lidarref06_validVertex_ok (p0 : S_api_Vertex)  {r : Bool} (hx : lidarref06_validVertex p0 = some r) (w : World) : CtL Tryz.prog 55 [.agg #[.int .i64 (p0.X), .int .i64 (p0.Y), .int .i64 (p0.Z.Lo), .int .i64 (p0.Z.Hi)]] w fun v Ln => v = .bool (r) ∧ Ln = [] ∧ True := by
  refine CtL.mk 27 Tryz.func55 rfl Tryz.ntmps55 (by kernel_rfl) rfl ?_
  show T 27 _ [(0, .agg #[.int .i64 (p0.X), .int .i64 (p0.Y), .int .i64 (p0.Z.Lo), .int .i64 (p0.Z.Hi)])] _
  unfold lidarref06_validVertex at hx
  refine T_seq ?_
  refine T_reg ?_
  refine T_x (Wx_box rfl rfl rfl (fun g1 => ?_))
  refine T_val (Ev_assign rfl) rfl ?_
  refine T_nil ?_
  refine T_next ?_
  obtain ⟨j2, hj2, hx⟩ := jn_some hx
  refine T_cutP (τ := Bool) (γ := Unit) (J := j2) (out := r) (fun s2 y2 => [(2, .bool (s2))]) (fun s2 y2 => [] ++ [.old w]) (fun s2 y2 => True) ?_ ?_
  · intro s2 y2 hx17 hG18
    subst hj2
    refine T_retc ?_
    obtain rfl := Option.some.inj hx17
    exact T_retP (rs := [.tmp 2]) Tryz.results55 (.tmp rfl (.nil)) (Ln := []) ⟨rfl, rfl, trivial⟩ (loNil) (by exact .refl)
  · skip
    refine T_reg ?_
    refine T_val (Ev_loadK rfl (i := 0) rfl rfl agg43) rfl ?_
    obtain ⟨r2, h3, hx4⟩ := bnd_some hx
    refine T_x (Wx_callL rfl (fun w1 hw1 => lidarref06_Place_ok p0  h3 w1) rfl ?_)
    rintro _ _ hlo ⟨rfl, rfl, -⟩
    refine T_app0 ?_
    obtain ⟨r5, h6, hx7⟩ := bnd_some hx4
    refine T_x (Wx_callL rfl (fun w1 hw1 => lidarref06_ValidPlace_ok r2  h6 w1) rfl ?_)
    rintro _ _ hlo ⟨rfl, rfl, -⟩
    refine T_app0 ?_
    refine T_val (Ev_move rfl) rfl ?_
    refine T_caseB (s := 6) rfl (fun h8 => ?_) (fun h8 => ?_)
    · have hx9 := ite_t h8 hx7
      refine T_valG rfl rfl rfl (Ev_field rfl fld43_2 rfl) rfl ?_
      refine T_valG rfl rfl rfl (Ev_field rfl fld41_0 rfl) rfl ?_
      refine T_valG rfl rfl rfl (Ev_load1 rfl (i := 0) rfl rfl one3) rfl ?_
      refine T_valG rfl rfl rfl (Ev_geq rfl rfl) rfl ?_
      refine T_val (Ev_pickT rfl rfl) rfl ?_
      refine T_val (Ev_move rfl) rfl ?_
      refine T_caseP (s := 12) rfl (fun h10 => ?_) (fun h10 => ?_)
      · have hx11 := ite_t h10 hx9
        refine T_valG rfl rfl rfl (Ev_field rfl fld43_2 rfl) rfl ?_
        refine T_valG rfl rfl rfl (Ev_field rfl fld41_0 rfl) rfl ?_
        refine T_valG rfl rfl rfl (Ev_load1 rfl (i := 0) rfl rfl one3) rfl ?_
        refine T_valG rfl rfl rfl (Ev_field rfl fld43_2 rfl) rfl ?_
        refine T_valG rfl rfl rfl (Ev_field rfl fld41_1 rfl) rfl ?_
        refine T_valG rfl rfl rfl (Ev_load1 rfl (i := 0) rfl rfl one3) rfl ?_
        refine T_valG rfl rfl rfl (Ev_leq rfl rfl) rfl ?_
        refine T_val (Ev_pickT rfl rfl) rfl ?_
        refine T_val (Ev_move rfl) rfl ?_
        refine T_caseP (s := 21) rfl (fun h12 => ?_) (fun h12 => ?_)
        · have hx13 := ite_t h12 hx11
          refine T_valG rfl rfl rfl (Ev_field rfl fld43_2 rfl) rfl ?_
          refine T_valG rfl rfl rfl (Ev_field rfl fld41_1 rfl) rfl ?_
          refine T_valG rfl rfl rfl (Ev_load1 rfl (i := 0) rfl rfl one3) rfl ?_
          refine T_valG rfl rfl rfl (Ev_leq rfl rfl) rfl ?_
          refine T_val (Ev_pickT rfl rfl) rfl ?_
          refine T_val (Ev_assign rfl) rfl ?_
          refine T_nil ?_
          exact T_metP (decide (p0.Z.Hi ≤ 268435456)) () hx13 trivial (by exact .cons rfl (.nil)) (by exact .drop 0 rfl (.refl))
        · have hx14 := ite_f h12 hx11
          refine T_skipG rfl rfl rfl rfl rfl ?_
          refine T_skipG rfl rfl rfl rfl rfl ?_
          refine T_skipG rfl rfl rfl rfl rfl ?_
          refine T_skipG rfl rfl rfl rfl rfl ?_
          refine T_val (Ev_pickF rfl rfl) rfl ?_
          refine T_val (Ev_assign rfl) rfl ?_
          refine T_nil ?_
          exact T_metP false () hx14 trivial (by exact .cons rfl (.nil)) (by exact .drop 0 rfl (.refl))
      · have hx15 := ite_f h10 hx9
        refine T_skipG rfl rfl rfl rfl rfl ?_
        refine T_skipG rfl rfl rfl rfl rfl ?_
        refine T_skipG rfl rfl rfl rfl rfl ?_
        refine T_skipG rfl rfl rfl rfl rfl ?_
        refine T_skipG rfl rfl rfl rfl rfl ?_
        refine T_skipG rfl rfl rfl rfl rfl ?_
        refine T_skipG rfl rfl rfl rfl rfl ?_
        refine T_val (Ev_pickF rfl rfl) rfl ?_
        refine T_val (Ev_move rfl) rfl ?_
        refine T_skipG rfl rfl rfl rfl rfl ?_
        refine T_skipG rfl rfl rfl rfl rfl ?_
        refine T_skipG rfl rfl rfl rfl rfl ?_
        refine T_skipG rfl rfl rfl rfl rfl ?_
        refine T_val (Ev_pickF rfl rfl) rfl ?_
        refine T_val (Ev_assign rfl) rfl ?_
        refine T_nil ?_
        exact T_metP false () hx15 trivial (by exact .cons rfl (.nil)) (by exact .drop 0 rfl (.refl))
    · have hx16 := ite_bf h8 hx7
      refine T_skipG rfl rfl rfl rfl rfl ?_
      refine T_skipG rfl rfl rfl rfl rfl ?_
      refine T_skipG rfl rfl rfl rfl rfl ?_
      refine T_skipG rfl rfl rfl rfl rfl ?_
      refine T_val (Ev_pickF rfl rfl) rfl ?_
      refine T_val (Ev_move rfl) rfl ?_
      refine T_skipG rfl rfl rfl rfl rfl ?_
      refine T_skipG rfl rfl rfl rfl rfl ?_
      refine T_skipG rfl rfl rfl rfl rfl ?_
      refine T_skipG rfl rfl rfl rfl rfl ?_
      refine T_skipG rfl rfl rfl rfl rfl ?_
      refine T_skipG rfl rfl rfl rfl rfl ?_
      refine T_skipG rfl rfl rfl rfl rfl ?_
      refine T_val (Ev_pickF rfl rfl) rfl ?_
      refine T_val (Ev_move rfl) rfl ?_
      refine T_skipG rfl rfl rfl rfl rfl ?_
      refine T_skipG rfl rfl rfl rfl rfl ?_
      refine T_skipG rfl rfl rfl rfl rfl ?_
      refine T_skipG rfl rfl rfl rfl rfl ?_
      refine T_val (Ev_pickF rfl rfl) rfl ?_
      refine T_val (Ev_assign rfl) rfl ?_
      refine T_nil ?_
      exact T_metP false () hx16 trivial (by exact .cons rfl (.nil)) (by exact .drop 0 rfl (.refl))
set_option maxRecDepth 100000 in
theorem lidarref06_Before_ok (p0 : S_api_XY) (p1 : S_api_XY)  {r : Bool} (hx : lidarref06_Before p0 p1 = some r) (w : World) : CtL Tryz.prog 45 [.agg #[.int .i64 (p0.X), .int .i64 (p0.Y)], .agg #[.int .i64 (p1.X), .int .i64 (p1.Y)]] w fun v Ln => v = .bool (r) ∧ Ln = [] ∧ True := by
  refine CtL.mk 24 Tryz.func45 rfl Tryz.ntmps45 (by kernel_rfl) rfl ?_
  show T 24 _ [(0, .agg #[.int .i64 (p0.X), .int .i64 (p0.Y)]), (1, .agg #[.int .i64 (p1.X), .int .i64 (p1.Y)])] _
  unfold lidarref06_Before at hx
  refine T_seq ?_
  refine T_reg ?_
  refine T_x (Wx_box rfl rfl rfl (fun g1 => ?_))
  refine T_x (Wx_box rfl rfl rfl (fun g2 => ?_))
  refine T_val (Ev_assign rfl) rfl ?_
  refine T_nil ?_
  refine T_next ?_
  obtain ⟨j2, hj2, hx⟩ := jn_some hx
  refine T_cutP (τ := Bool) (γ := Unit) (J := j2) (out := r) (fun s2 y2 => [(4, .bool (s2))]) (fun s2 y2 => [] ++ [.old w]) (fun s2 y2 => True) ?_ ?_
  · intro s2 y2 hx9 hG10
    subst hj2
    refine T_retc ?_
    obtain rfl := Option.some.inj hx9
    exact T_retP (rs := [.tmp 4]) Tryz.results45 (.tmp rfl (.nil)) (Ln := []) ⟨rfl, rfl, trivial⟩ (loNil) (by exact .refl)
  · skip
    refine T_reg ?_
    refine T_val (Ev_field rfl fld38_0 rfl) rfl ?_
    refine T_val (Ev_load1 rfl (i := 1) rfl rfl one3) rfl ?_
    refine T_val (Ev_field rfl fld38_0 rfl) rfl ?_
    refine T_val (Ev_load1 rfl (i := 0) rfl rfl one3) rfl ?_
    refine T_val (Ev_lss rfl rfl) rfl ?_
    refine T_val (Ev_move rfl) rfl ?_
    refine T_caseP (s := 10) rfl (fun h3 => ?_) (fun h3 => ?_)
    · have hx4 := ite_t h3 hx
      refine T_skipG rfl rfl rfl rfl rfl ?_
      refine T_skipG rfl rfl rfl rfl rfl ?_
      refine T_skipG rfl rfl rfl rfl rfl ?_
      refine T_skipG rfl rfl rfl rfl rfl ?_
      refine T_skipG rfl rfl rfl rfl rfl ?_
      refine T_skipG rfl rfl rfl rfl rfl ?_
      refine T_skipU rfl rfl rfl rfl ?_
      refine T_skipU rfl rfl rfl rfl ?_
      refine T_skipU rfl rfl rfl rfl ?_
      refine T_skipU rfl rfl rfl rfl ?_
      refine T_skipU rfl rfl rfl rfl ?_
      refine T_skipG rfl rfl rfl rfl rfl ?_
      refine T_val (Ev_pickT rfl rfl) rfl ?_
      refine T_val (Ev_assign rfl) rfl ?_
      refine T_nil ?_
      exact T_metP true () hx4 trivial (by exact .cons rfl (.nil)) (by exact .drop 0 rfl (.drop 0 rfl (.refl)))
    · have hx5 := ite_f h3 hx
      refine T_valG rfl rfl rfl (Ev_field rfl fld38_0 rfl) rfl ?_
      refine T_valG rfl rfl rfl (Ev_load1 rfl (i := 1) rfl rfl one3) rfl ?_
      refine T_valG rfl rfl rfl (Ev_field rfl fld38_0 rfl) rfl ?_
      refine T_valG rfl rfl rfl (Ev_load1 rfl (i := 0) rfl rfl one3) rfl ?_
      refine T_valG rfl rfl rfl (Ev_eql rfl rfl) rfl ?_
      refine T_valG rfl rfl rfl (Ev_move rfl) rfl ?_
      refine T_caseP (s := 16) rfl (fun h6 => ?_) (fun h6 => ?_)
      · have hx7 := ite_t h6 hx5
        refine T_valG rfl rfl rfl (Ev_field rfl fld38_1 rfl) rfl ?_
        refine T_valG rfl rfl rfl (Ev_load1 rfl (i := 1) rfl rfl one3) rfl ?_
        refine T_valG rfl rfl rfl (Ev_field rfl fld38_1 rfl) rfl ?_
        refine T_valG rfl rfl rfl (Ev_load1 rfl (i := 0) rfl rfl one3) rfl ?_
        refine T_valG rfl rfl rfl (Ev_lss rfl rfl) rfl ?_
        refine T_valG rfl rfl rfl (Ev_pickT rfl rfl) rfl ?_
        refine T_val (Ev_pickF rfl rfl) rfl ?_
        refine T_val (Ev_assign rfl) rfl ?_
        refine T_nil ?_
        exact T_metP (decide (p0.Y < p1.Y)) () hx7 trivial (by exact .cons rfl (.nil)) (by exact .drop 0 rfl (.drop 0 rfl (.refl)))
      · have hx8 := ite_f h6 hx5
        refine T_skipG rfl rfl rfl rfl rfl ?_
        refine T_skipG rfl rfl rfl rfl rfl ?_
        refine T_skipG rfl rfl rfl rfl rfl ?_
        refine T_skipG rfl rfl rfl rfl rfl ?_
        refine T_skipG rfl rfl rfl rfl rfl ?_
        refine T_valG rfl rfl rfl (Ev_pickF rfl rfl) rfl ?_
        refine T_val (Ev_pickF rfl rfl) rfl ?_
        refine T_val (Ev_assign rfl) rfl ?_
        refine T_nil ?_
        exact T_metP false () hx8 trivial (by exact .cons rfl (.nil)) (by exact .drop 0 rfl (.drop 0 rfl (.refl)))
set_option maxRecDepth 100000 in
theorem lidarref06_Twice_ok (p0 : S_api_XY) (p1 : S_api_XY) (p2 : S_api_XY)  {r : Int} (hx : lidarref06_Twice p0 p1 p2 = some r) (w : World) : CtL Tryz.prog 14 [.agg #[.int .i64 (p0.X), .int .i64 (p0.Y)], .agg #[.int .i64 (p1.X), .int .i64 (p1.Y)], .agg #[.int .i64 (p2.X), .int .i64 (p2.Y)]] w fun v Ln => v = .int .i64 (r) ∧ Ln = [] ∧ True := by
  refine CtL.mk 30 Tryz.func14 rfl Tryz.ntmps14 (by kernel_rfl) rfl ?_
  show T 30 _ [(0, .agg #[.int .i64 (p0.X), .int .i64 (p0.Y)]), (1, .agg #[.int .i64 (p1.X), .int .i64 (p1.Y)]), (2, .agg #[.int .i64 (p2.X), .int .i64 (p2.Y)])] _
  unfold lidarref06_Twice at hx
  refine T_seq ?_
  refine T_reg ?_
  refine T_x (Wx_box rfl rfl rfl (fun g1 => ?_))
  refine T_x (Wx_box rfl rfl rfl (fun g2 => ?_))
  refine T_x (Wx_box rfl rfl rfl (fun g3 => ?_))
  refine T_val (Ev_assign rfl) rfl ?_
  refine T_nil ?_
  refine T_next ?_
  refine T_seq ?_
  refine T_reg ?_
  refine T_val (Ev_field rfl fld38_0 rfl) rfl ?_
  refine T_val (Ev_load1 rfl (i := 1) rfl rfl one3) rfl ?_
  refine T_val (Ev_field rfl fld38_0 rfl) rfl ?_
  refine T_val (Ev_load1 rfl (i := 2) rfl rfl one3) rfl ?_
  refine T_val (Ev_sub_w64 rfl rfl) rfl ?_
  refine T_val (Ev_field rfl fld38_1 rfl) rfl ?_
  refine T_val (Ev_load1 rfl (i := 0) rfl rfl one3) rfl ?_
  refine T_val (Ev_field rfl fld38_1 rfl) rfl ?_
  refine T_val (Ev_load1 rfl (i := 2) rfl rfl one3) rfl ?_
  refine T_val (Ev_sub_w64 rfl rfl) rfl ?_
  refine T_val (Ev_mul_w64 rfl rfl) rfl ?_
  refine T_val (Ev_field rfl fld38_1 rfl) rfl ?_
  refine T_val (Ev_load1 rfl (i := 1) rfl rfl one3) rfl ?_
  refine T_val (Ev_field rfl fld38_1 rfl) rfl ?_
  refine T_val (Ev_load1 rfl (i := 2) rfl rfl one3) rfl ?_
  refine T_val (Ev_sub_w64 rfl rfl) rfl ?_
  refine T_val (Ev_field rfl fld38_0 rfl) rfl ?_
  refine T_val (Ev_load1 rfl (i := 0) rfl rfl one3) rfl ?_
  refine T_val (Ev_field rfl fld38_0 rfl) rfl ?_
  refine T_val (Ev_load1 rfl (i := 2) rfl rfl one3) rfl ?_
  refine T_val (Ev_sub_w64 rfl rfl) rfl ?_
  refine T_val (Ev_mul_w64 rfl rfl) rfl ?_
  refine T_val (Ev_sub_w64 rfl rfl) rfl ?_
  refine T_val (Ev_assign rfl) rfl ?_
  refine T_nil ?_
  refine T_next ?_
  refine T_retc ?_
  obtain rfl := Option.some.inj hx
  exact T_retP (rs := [.tmp 6]) Tryz.results14 (.tmp rfl (.nil)) (Ln := []) ⟨rfl, rfl, trivial⟩ (loNil) (by exact .drop 0 rfl (.drop 0 rfl (.drop 0 rfl (.refl))))
set_option maxRecDepth 100000 in
theorem lidarref06_sign_ok (p0 : Int)  {r : Int} (hx : lidarref06_sign p0 = some r) (w : World) : CtL Tryz.prog 76 [.int .i64 (p0)] w fun v Ln => v = .int .i64 (r) ∧ Ln = [] ∧ True := by
  refine CtL.mk 7 Tryz.func76 rfl Tryz.ntmps76 (by kernel_rfl) rfl ?_
  show T 7 _ [(0, .int .i64 (p0))] _
  unfold lidarref06_sign at hx
  refine T_seq ?_
  refine T_reg ?_
  refine T_val (Ev_assign rfl) rfl ?_
  refine T_nil ?_
  refine T_next ?_
  refine T_seq ?_
  refine T_seq ?_
  refine T_reg ?_
  refine T_val (Ev_move rfl) rfl ?_
  refine T_val (Ev_lss rfl rfl) rfl ?_
  refine T_nil ?_
  refine T_next ?_
  refine T_caseP (s := 4) rfl (fun h1 => ?_) (fun h1 => ?_)
  · have hx2 := ite_t h1 hx
    refine T_condT rfl ?_
    refine T_seq ?_
    refine T_reg ?_
    refine T_val (Ev_assign rfl) rfl ?_
    refine T_nil ?_
    refine T_next ?_
    refine T_retc ?_
    refine T_outR ?_
    obtain rfl := Option.some.inj hx2
    exact T_retP (rs := [.tmp 2]) Tryz.results76 (.tmp rfl (.nil)) (Ln := []) ⟨rfl, rfl, trivial⟩ (loNil) (by exact .refl)
  · have hx3 := ite_f h1 hx
    refine T_condF rfl ?_
    refine T_skip ?_
    refine T_next ?_
    refine T_seq ?_
    refine T_seq ?_
    refine T_reg ?_
    refine T_val (Ev_move rfl) rfl ?_
    refine T_val (Ev_gtr rfl rfl) rfl ?_
    refine T_nil ?_
    refine T_next ?_
    refine T_caseP (s := 6) rfl (fun h4 => ?_) (fun h4 => ?_)
    · have hx5 := ite_t h4 hx3
      refine T_condT rfl ?_
      refine T_seq ?_
      refine T_reg ?_
      refine T_val (Ev_assign rfl) rfl ?_
      refine T_nil ?_
      refine T_next ?_
      refine T_retc ?_
      refine T_outR ?_
      obtain rfl := Option.some.inj hx5
      exact T_retP (rs := [.tmp 2]) Tryz.results76 (.tmp rfl (.nil)) (Ln := []) ⟨rfl, rfl, trivial⟩ (loNil) (by exact .refl)
    · have hx6 := ite_f h4 hx3
      refine T_condF rfl ?_
      refine T_skip ?_
      refine T_next ?_
      refine T_seq ?_
      refine T_reg ?_
      refine T_val (Ev_assign rfl) rfl ?_
      refine T_nil ?_
      refine T_next ?_
      refine T_retc ?_
      obtain rfl := Option.some.inj hx6
      exact T_retP (rs := [.tmp 2]) Tryz.results76 (.tmp rfl (.nil)) (Ln := []) ⟨rfl, rfl, trivial⟩ (loNil) (by exact .refl)
set_option maxRecDepth 100000 in
theorem lidarref06_Turn_ok (p0 : S_api_XY) (p1 : S_api_XY) (p2 : S_api_XY)  {r : Int} (hx : lidarref06_Turn p0 p1 p2 = some r) (w : World) : CtL Tryz.prog 38 [.agg #[.int .i64 (p0.X), .int .i64 (p0.Y)], .agg #[.int .i64 (p1.X), .int .i64 (p1.Y)], .agg #[.int .i64 (p2.X), .int .i64 (p2.Y)]] w fun v Ln => v = .int .i64 (r) ∧ Ln = [] ∧ True := by
  refine CtL.mk 12 Tryz.func38 rfl Tryz.ntmps38 (by kernel_rfl) rfl ?_
  show T 12 _ [(0, .agg #[.int .i64 (p0.X), .int .i64 (p0.Y)]), (1, .agg #[.int .i64 (p1.X), .int .i64 (p1.Y)]), (2, .agg #[.int .i64 (p2.X), .int .i64 (p2.Y)])] _
  unfold lidarref06_Turn at hx
  refine T_seq ?_
  refine T_reg ?_
  refine T_x (Wx_box rfl rfl rfl (fun g1 => ?_))
  refine T_x (Wx_box rfl rfl rfl (fun g2 => ?_))
  refine T_x (Wx_box rfl rfl rfl (fun g3 => ?_))
  refine T_val (Ev_assign rfl) rfl ?_
  refine T_nil ?_
  refine T_next ?_
  refine T_seq ?_
  refine T_reg ?_
  refine T_val (Ev_loadK rfl (i := 2) rfl rfl agg38) rfl ?_
  refine T_val (Ev_loadK rfl (i := 1) rfl rfl agg38) rfl ?_
  refine T_val (Ev_loadK rfl (i := 0) rfl rfl agg38) rfl ?_
  obtain ⟨r4, h5, hx6⟩ := bnd_some hx
  refine T_x (Wx_callL rfl (fun w1 hw1 => lidarref06_Twice_ok p0 p1 p2  h5 w1) rfl ?_)
  rintro _ _ hlo ⟨rfl, rfl, -⟩
  refine T_app0 ?_
  obtain ⟨r7, h8, hx9⟩ := bnd_some hx6
  refine T_x (Wx_callL rfl (fun w1 hw1 => lidarref06_sign_ok r4  h8 w1) rfl ?_)
  rintro _ _ hlo ⟨rfl, rfl, -⟩
  refine T_app0 ?_
  refine T_val (Ev_assign rfl) rfl ?_
  refine T_nil ?_
  refine T_next ?_
  refine T_retc ?_
  obtain rfl := Option.some.inj hx9
  exact T_retP (rs := [.tmp 6]) Tryz.results38 (.tmp rfl (.nil)) (Ln := []) ⟨rfl, rfl, trivial⟩ (loNil) (by exact .drop 0 rfl (.drop 0 rfl (.drop 0 rfl (.refl))))
end Go.Proofs.YtlkgeeppfifeeaaGreat
