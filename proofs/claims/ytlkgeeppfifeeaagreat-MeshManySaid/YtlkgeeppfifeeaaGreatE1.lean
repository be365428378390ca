/- Walks of the program, with their plain functions: the references on places. -/
import Derived.Test.YtlkgeeppfifeeaaGreatFa
namespace Go.Proofs.YtlkgeeppfifeeaaGreat
open Go Go.RowKit
theorem zer77 : ZeroOf Tryz.prog 77 [.int .i64 (0), .int .i64 (0), .int .i64 (0)] := ⟨_, Tryz.zeroValue77, rfl⟩
theorem fld77_0 : FieldOf Tryz.prog 77 0 0 := .mk Tryz.underlying77 rfl rfl (show Tryz.prog.info? 3 = some Tryz.t3 from by kernel_rfl) (show Tryz.t3.size = 1 from by kernel_rfl) rfl
theorem fld77_1 : FieldOf Tryz.prog 77 1 1 := .mk Tryz.underlying77 rfl rfl (show Tryz.prog.info? 3 = some Tryz.t3 from by kernel_rfl) (show Tryz.t3.size = 1 from by kernel_rfl) rfl
theorem fld77_2 : FieldOf Tryz.prog 77 2 2 := .mk Tryz.underlying77 rfl rfl (show Tryz.prog.info? 3 = some Tryz.t3 from by kernel_rfl) (show Tryz.t3.size = 1 from by kernel_rfl) rfl
theorem bld77_0i641i642i64 (x0 : Int) (x1 : Int) (x2 : Int) : BuildOf Tryz.prog 77 [(0, .int .i64 x0), (1, .int .i64 x1), (2, .int .i64 x2)] [.int .i64 x0, .int .i64 x1, .int .i64 x2] := fun w => by kernel_rfl
theorem agg77 : AggOf Tryz.prog 77 3 := .mk Tryz.underlying77 rfl (show Tryz.prog.info? 77 = some Tryz.t77 from by kernel_rfl) (by kernel_rfl)
noncomputable def lidarref06_Place (p0 : S_api_Vertex) : Option S_api_XY :=
 some (⟨p0.X, p0.Y⟩ : S_api_XY)
noncomputable def lidarref06_ValidPlace (p0 : S_api_XY) : Option Bool :=
 jn (fun (s2 : Bool) =>
 some s2)
 (fun j2 => if (-268435456) ≤ p0.X then (if p0.X ≤ 268435456 then (if (-268435456) ≤ p0.Y then (j2 (decide (p0.Y ≤ 268435456)))
 else (j2 false))
 else (j2 false))
 else (j2 false))
noncomputable def lidarref06_validVertex (p0 : S_api_Vertex) : Option Bool :=
 jn (fun (s2 : Bool) =>
 some s2)
 (fun j2 => bnd (lidarref06_Place p0) fun r2 =>
 bnd (lidarref06_ValidPlace r2) fun r5 =>
 if r5 = true then (if (-268435456) ≤ p0.Z.Lo then (if p0.Z.Lo ≤ p0.Z.Hi then (j2 (decide (p0.Z.Hi ≤ 268435456)))
 else (j2 false))
 else (j2 false))
 else (j2 false))
noncomputable def lidarref06_Before (p0 : S_api_XY) (p1 : S_api_XY) : Option Bool :=
 jn (fun (s2 : Bool) =>
 some s2)
 (fun j2 => if p0.X < p1.X then (j2 true)
 else (if p0.X = p1.X then (j2 (decide (p0.Y < p1.Y)))
 else (j2 false)))
noncomputable def lidarref06_Twice (p0 : S_api_XY) (p1 : S_api_XY) (p2 : S_api_XY) : Option Int :=
 some (w64 ((w64 ((w64 (p1.X - p0.X)) * (w64 (p2.Y - p0.Y)))) - (w64 ((w64 (p1.Y - p0.Y)) * (w64 (p2.X - p0.X))))))
noncomputable def lidarref06_sign (p0 : Int) : Option Int :=
 if p0 < 0 then (some (-1))
 else (if 0 < p0 then (some 1)
 else (some 0))
noncomputable def lidarref06_Turn (p0 : S_api_XY) (p1 : S_api_XY) (p2 : S_api_XY) : Option Int :=
 bnd (lidarref06_Twice p0 p1 p2) fun r4 =>
 bnd (lidarref06_sign r4) fun r7 =>
 some r7
structure S_lidarref06_wide where
  high : Int
  middle : Int
  low : Int
noncomputable def lidarref06_wide_add (p0 : S_lidarref06_wide) (p1 : Int) (p2 : Int) : Option S_lidarref06_wide :=
 some (⟨w64 (p0.high + (w64 ((shr_ .i64 p1 30) * (shr_ .i64 p2 30)))), w64 ((w64 (p0.middle + (w64 ((shr_ .i64 p1 30) * (bit_and .i64 p2 1073741823))))) + (w64 ((bit_and .i64 p1 1073741823) * (shr_ .i64 p2 30)))), w64 (p0.low + (w64 ((bit_and .i64 p1 1073741823) * (bit_and .i64 p2 1073741823))))⟩ : S_lidarref06_wide)
noncomputable def lidarref06_wide_sign (p0 : S_lidarref06_wide) : Option Int :=
 if (w64 (p0.high + (shr_ .i64 (w64 (p0.middle + (shr_ .i64 p0.low 30))) 30))) = 0 then (bnd (lidarref06_sign (w64 ((bit_and .i64 (w64 (p0.middle + (shr_ .i64 p0.low 30))) 1073741823) + (bit_and .i64 p0.low 1073741823)))) fun r8 =>
 some r8)
 else (bnd (lidarref06_sign (w64 (p0.high + (shr_ .i64 (w64 (p0.middle + (shr_ .i64 p0.low 30))) 30)))) fun r4 =>
 some r4)
noncomputable def lidarref06_Circle (p0 : S_api_XY) (p1 : S_api_XY) (p2 : S_api_XY) (p3 : S_api_XY) : Option Int :=
 bnd (lidarref06_wide_add (⟨0, 0, 0⟩ : S_lidarref06_wide) (w64 ((w64 ((w64 (p0.X - p3.X)) * (w64 (p0.X - p3.X)))) + (w64 ((w64 (p0.Y - p3.Y)) * (w64 (p0.Y - p3.Y)))))) (w64 ((w64 ((w64 (p1.X - p3.X)) * (w64 (p2.Y - p3.Y)))) - (w64 ((w64 (p1.Y - p3.Y)) * (w64 (p2.X - p3.X))))))) fun r6 =>
 bnd (lidarref06_wide_add r6 (w64 ((w64 ((w64 (p1.X - p3.X)) * (w64 (p1.X - p3.X)))) + (w64 ((w64 (p1.Y - p3.Y)) * (w64 (p1.Y - p3.Y)))))) (w64 ((w64 ((w64 (p2.X - p3.X)) * (w64 (p0.Y - p3.Y)))) - (w64 ((w64 (p2.Y - p3.Y)) * (w64 (p0.X - p3.X))))))) fun r9 =>
 bnd (lidarref06_wide_add r9 (w64 ((w64 ((w64 (p2.X - p3.X)) * (w64 (p2.X - p3.X)))) + (w64 ((w64 (p2.Y - p3.Y)) * (w64 (p2.Y - p3.Y)))))) (w64 ((w64 ((w64 (p0.X - p3.X)) * (w64 (p1.Y - p3.Y)))) - (w64 ((w64 (p0.Y - p3.Y)) * (w64 (p1.X - p3.X))))))) fun r12 =>
 bnd (lidarref06_wide_sign r12) fun r15 =>
 some r15
noncomputable def lidarref06_Legal_l14 (s8 : Int × Int × Int × Int) (p2 : S_api_XY) (p3 : S_api_XY) : (Int × Int × Int) → Option (Sum (Int × Int × Int) (Int × Int)) := fun s83 =>
 if s83.2.2 < (((3 : Nat) : Int)) then (jn (fun (s26 : Int × Int) =>
 some (.inl (s26.1, s26.2, w64 (s83.2.2 + 1))))
 (fun j26 => bnd (idx ([(⟨s8.2.2.1, s8.2.2.2⟩ : S_api_XY), p2, p3]) s83.2.2) fun x87 =>
 bnd (lidarref06_Before x87 (⟨s83.1, s83.2.1⟩ : S_api_XY)) fun r99 =>
 if r99 = true then (j26 (x87.X, x87.Y))
 else (j26 (s83.1, s83.2.1))))
 else (some (.inr (s83.1, s83.2.1)))
noncomputable def lidarref06_Legal (p0 : S_api_XY) (p1 : S_api_XY) (p2 : S_api_XY) (p3 : S_api_XY) : Option (Bool × Int) :=
 jn (fun (s3 : Bool) =>
 if s3 = true then (some (false, 11))
 else (bnd (lidarref06_Turn p0 p1 p2) fun r31 =>
 bnd (lidarref06_Turn p0 p1 p3) fun r34 =>
 if (w64 (r31 * r34)) = (-1) then (jn (fun (s8 : Int × Int × Int × Int) =>
 bnd (lidarref06_Circle (⟨s8.1, s8.2.1⟩ : S_api_XY) (⟨s8.2.2.1, s8.2.2.2⟩ : S_api_XY) p2 p3) fun r48 =>
 if r48 = 1 then (some (false, 0))
 else (if r48 = (-1) then (some (true, 0))
 else (jn (fun (s17 : Int × Int) =>
 jn (fun (s29 : Bool) =>
 some (s29, 0))
 (fun j29 => if ((((s17.1) == (p2.X)) && (((s17.2) == (p2.Y)) && true))) = true then (j29 true)
 else (j29 (((s17.1) == (p3.X)) && (((s17.2) == (p3.Y)) && true)))))
 (fun j17 => bnd (lfix (lidarref06_Legal_l14 s8 p2 p3) (s8.1, s8.2.1, 0)) fun t83 =>
 j17 t83))))
 (fun j8 => bnd (lidarref06_Turn p0 p1 p2) fun r40 =>
 if r40 < 0 then (j8 (p1.X, p1.Y, p0.X, p0.Y))
 else (j8 (p0.X, p0.Y, p1.X, p1.Y))))
 else (some (false, 2))))
 (fun j3 => bnd (lidarref06_ValidPlace p0) fun r5 =>
 if r5 = true then (bnd (lidarref06_ValidPlace p1) fun r11 =>
 if r11 = true then (bnd (lidarref06_ValidPlace p2) fun r17 =>
 if r17 = true then (bnd (lidarref06_ValidPlace p3) fun r23 =>
 j3 (!(r23)))
 else (j3 true))
 else (j3 true))
 else (j3 true))
set_option maxRecDepth 100000 in
theorem lidarref06_Place_ok (p0 : S_api_Vertex)  {r : S_api_XY} (hx : lidarref06_Place p0 = some r) (w : World) : CtL Tryz.prog 13 [.agg #[.int .i64 (p0.X), .int .i64 (p0.Y), .int .i64 (p0.Z.Lo), .int .i64 (p0.Z.Hi)]] w fun v Ln => v = .agg #[.int .i64 (r.X), .int .i64 (r.Y)] ∧ Ln = [] ∧ True := by
  refine CtL.mk 8 Tryz.func13 rfl Tryz.ntmps13 (by kernel_rfl) rfl ?_
  show T 8 _ [(0, .agg #[.int .i64 (p0.X), .int .i64 (p0.Y), .int .i64 (p0.Z.Lo), .int .i64 (p0.Z.Hi)])] _
  unfold lidarref06_Place at hx
  refine T_seq ?_
  refine T_reg ?_
  refine T_x (Wx_box rfl rfl rfl (fun g1 => ?_))
  refine T_x (Wx_alloc zer38 rfl (fun g2 => ?_))
  refine T_nil ?_
  refine T_next ?_
  refine T_seq ?_
  refine T_reg ?_
  refine T_val (Ev_field rfl fld43_0 rfl) rfl ?_
  refine T_val (Ev_load1 rfl (i := 1) rfl rfl one3) rfl ?_
  refine T_val (Ev_field rfl fld43_1 rfl) rfl ?_
  refine T_val (Ev_load1 rfl (i := 1) rfl rfl one3) rfl ?_
  refine T_val (Ev_build rfl (bld38_0i641i64 _ _)) rfl ?_
  refine T_h (Wh_store rfl rfl rfl (.here) (.put (.put (.done))) rfl (List.cons_ne_nil _ _) agg38.2 ?_)
  refine T_nil ?_
  refine T_next ?_
  refine T_retc ?_
  obtain rfl := Option.some.inj hx
  exact T_retP (rs := [.cell 2 38]) Tryz.results13 (.cell rfl (i := 0) rfl rfl agg38 (.nil)) (Ln := []) ⟨rfl, rfl, trivial⟩ (loNil) (by exact .drop 0 rfl (.drop 0 rfl (.refl)))
set_option maxRecDepth 100000 in
theorem lidarref06_ValidPlace_ok (p0 : S_api_XY)  {r : Bool} (hx : lidarref06_ValidPlace p0 = some r) (w : World) : CtL Tryz.prog 44 [.agg #[.int .i64 (p0.X), .int .i64 (p0.Y)]] w fun v Ln => v = .bool (r) ∧ Ln = [] ∧ True := by
  refine CtL.mk 21 Tryz.func44 rfl Tryz.ntmps44 (by kernel_rfl) rfl ?_
  show T 21 _ [(0, .agg #[.int .i64 (p0.X), .int .i64 (p0.Y)])] _
  unfold lidarref06_ValidPlace at hx
  refine T_seq ?_
  refine T_reg ?_
  refine T_x (Wx_box rfl rfl rfl (fun g1 => ?_))
  refine T_val (Ev_assign rfl) rfl ?_
  refine T_nil ?_
  refine T_next ?_
  obtain ⟨j2, hj2, hx⟩ := jn_some hx
  refine T_cutP (τ := Bool) (γ := Unit) (J := j2) (out := r) (fun s2 y2 => [(2, .bool (s2))]) (fun s2 y2 => [] ++ [.old w]) (fun s2 y2 => True) ?_ ?_
  · intro s2 y2 hx11 hG12
    subst hj2
    refine T_retc ?_
    obtain rfl := Option.some.inj hx11
    exact T_retP (rs := [.tmp 2]) Tryz.results44 (.tmp rfl (.nil)) (Ln := []) ⟨rfl, rfl, trivial⟩ (loNil) (by exact .refl)
  · skip
    refine T_reg ?_
    refine T_val (Ev_field rfl fld38_0 rfl) rfl ?_
    refine T_val (Ev_load1 rfl (i := 0) rfl rfl one3) rfl ?_
    refine T_val (Ev_geq rfl rfl) rfl ?_
    refine T_val (Ev_move rfl) rfl ?_
    refine T_caseP (s := 6) rfl (fun h2 => ?_) (fun h2 => ?_)
    · have hx3 := ite_t h2 hx
      refine T_valG rfl rfl rfl (Ev_field rfl fld38_0 rfl) rfl ?_
      refine T_valG rfl rfl rfl (Ev_load1 rfl (i := 0) rfl rfl one3) rfl ?_
      refine T_valG rfl rfl rfl (Ev_leq rfl rfl) rfl ?_
      refine T_val (Ev_pickT rfl rfl) rfl ?_
      refine T_val (Ev_move rfl) rfl ?_
      refine T_caseP (s := 11) rfl (fun h4 => ?_) (fun h4 => ?_)
      · have hx5 := ite_t h4 hx3
        refine T_valG rfl rfl rfl (Ev_field rfl fld38_1 rfl) rfl ?_
        refine T_valG rfl rfl rfl (Ev_load1 rfl (i := 0) rfl rfl one3) rfl ?_
        refine T_valG rfl rfl rfl (Ev_geq rfl rfl) rfl ?_
        refine T_val (Ev_pickT rfl rfl) rfl ?_
        refine T_val (Ev_move rfl) rfl ?_
        refine T_caseP (s := 16) rfl (fun h6 => ?_) (fun h6 => ?_)
        · have hx7 := ite_t h6 hx5
          refine T_valG rfl rfl rfl (Ev_field rfl fld38_1 rfl) rfl ?_
          refine T_valG rfl rfl rfl (Ev_load1 rfl (i := 0) rfl rfl one3) rfl ?_
          refine T_valG rfl rfl rfl (Ev_leq rfl rfl) rfl ?_
          refine T_val (Ev_pickT rfl rfl) rfl ?_
          refine T_val (Ev_assign rfl) rfl ?_
          refine T_nil ?_
          exact T_metP (decide (p0.Y ≤ 268435456)) () hx7 trivial (by exact .cons rfl (.nil)) (by exact .drop 0 rfl (.refl))
        · have hx8 := ite_f h6 hx5
          refine T_skipG rfl rfl rfl rfl rfl ?_
          refine T_skipG rfl rfl rfl rfl rfl ?_
          refine T_skipG rfl rfl rfl rfl rfl ?_
          refine T_val (Ev_pickF rfl rfl) rfl ?_
          refine T_val (Ev_assign rfl) rfl ?_
          refine T_nil ?_
          exact T_metP false () hx8 trivial (by exact .cons rfl (.nil)) (by exact .drop 0 rfl (.refl))
      · have hx9 := ite_f h4 hx3
        refine T_skipG rfl rfl rfl rfl rfl ?_
        refine T_skipG rfl rfl rfl rfl rfl ?_
        refine T_skipG rfl rfl rfl rfl rfl ?_
        refine T_val (Ev_pickF rfl rfl) rfl ?_
        refine T_val (Ev_move rfl) rfl ?_
        refine T_skipG rfl rfl rfl rfl rfl ?_
        refine T_skipG rfl rfl rfl rfl rfl ?_
        refine T_skipG rfl rfl rfl rfl rfl ?_
        refine T_val (Ev_pickF rfl rfl) rfl ?_
        refine T_val (Ev_assign rfl) rfl ?_
        refine T_nil ?_
        exact T_metP false () hx9 trivial (by exact .cons rfl (.nil)) (by exact .drop 0 rfl (.refl))
    · have hx10 := ite_f h2 hx
      refine T_skipG rfl rfl rfl rfl rfl ?_
      refine T_skipG rfl rfl rfl rfl rfl ?_
      refine T_skipG rfl rfl rfl rfl rfl ?_
      refine T_val (Ev_pickF rfl rfl) rfl ?_
      refine T_val (Ev_move rfl) rfl ?_
      refine T_skipG rfl rfl rfl rfl rfl ?_
      refine T_skipG rfl rfl rfl rfl rfl ?_
      refine T_skipG rfl rfl rfl rfl rfl ?_
      refine T_val (Ev_pickF rfl rfl) rfl ?_
      refine T_val (Ev_move rfl) rfl ?_
      refine T_skipG rfl rfl rfl rfl rfl ?_
      refine T_skipG rfl rfl rfl rfl rfl ?_
      refine T_skipG rfl rfl rfl rfl rfl ?_
      refine T_val (Ev_pickF rfl rfl) rfl ?_
      refine T_val (Ev_assign rfl) rfl ?_
      refine T_nil ?_
      exact T_metP false () hx10 trivial (by exact .cons rfl (.nil)) (by exact .drop 0 rfl (.refl))
set_option maxRecDepth 100000 in
theorem lidarref06_validVertex_ok (p0 : S_api_Vertex)  {r : Bool} (hx : lidarref06_validVertex p0 = some r) (w : World) : CtL Tryz.prog 55 [.agg #[.int .i64 (p0.X), .int .i64 (p0.Y), .int .i64 (p0.Z.Lo), .int .i64 (p0.Z.Hi)]] w fun v Ln => v = .bool (r) ∧ Ln = [] ∧ True := by
  refine CtL.mk 27 Tryz.func55 rfl Tryz.ntmps55 (by kernel_rfl) rfl ?_
  show T 27 _ [(0, .agg #[.int .i64 (p0.X), .int .i64 (p0.Y), .int .i64 (p0.Z.Lo), .int .i64 (p0.Z.Hi)])] _
  unfold lidarref06_validVertex at hx
  refine T_seq ?_
  refine T_reg ?_
  refine T_x (Wx_box rfl rfl rfl (fun g1 => ?_))
  refine T_val (Ev_assign rfl) rfl ?_
  refine T_nil ?_
  refine T_next ?_
  obtain ⟨j2, hj2, hx⟩ := jn_some hx
  refine T_cutP (τ := Bool) (γ := Unit) (J := j2) (out := r) (fun s2 y2 => [(2, .bool (s2))]) (fun s2 y2 => [] ++ [.old w]) (fun s2 y2 => True) ?_ ?_
  · intro s2 y2 hx17 hG18
    subst hj2
    refine T_retc ?_
    obtain rfl := Option.some.inj hx17
    exact T_retP (rs := [.tmp 2]) Tryz.results55 (.tmp rfl (.nil)) (Ln := []) ⟨rfl, rfl, trivial⟩ (loNil) (by exact .refl)
  · skip
    refine T_reg ?_
    refine T_val (Ev_loadK rfl (i := 0) rfl rfl agg43) rfl ?_
    obtain ⟨r2, h3, hx4⟩ := bnd_some hx
    refine T_x (Wx_callL rfl (fun w1 hw1 => lidarref06_Place_ok p0  h3 w1) rfl ?_)
    rintro _ _ hlo ⟨rfl, rfl, -⟩
    refine T_app0 ?_
    obtain ⟨r5, h6, hx7⟩ := bnd_some hx4
    refine T_x (Wx_callL rfl (fun w1 hw1 => lidarref06_ValidPlace_ok r2  h6 w1) rfl ?_)
    rintro _ _ hlo ⟨rfl, rfl, -⟩
    refine T_app0 ?_
    refine T_val (Ev_move rfl) rfl ?_
    refine T_caseB (s := 6) rfl (fun h8 => ?_) (fun h8 => ?_)
    · have hx9 := ite_t h8 hx7
      refine T_valG rfl rfl rfl (Ev_field rfl fld43_2 rfl) rfl ?_
      refine T_valG rfl rfl rfl (Ev_field rfl fld41_0 rfl) rfl ?_
      refine T_valG rfl rfl rfl (Ev_load1 rfl (i := 0) rfl rfl one3) rfl ?_
      refine T_valG rfl rfl rfl (Ev_geq rfl rfl) rfl ?_
      refine T_val (Ev_pickT rfl rfl) rfl ?_
      refine T_val (Ev_move rfl) rfl ?_
      refine T_caseP (s := 12) rfl (fun h10 => ?_) (fun h10 => ?_)
      · have hx11 := ite_t h10 hx9
        refine T_valG rfl rfl rfl (Ev_field rfl fld43_2 rfl) rfl ?_
        refine T_valG rfl rfl rfl (Ev_field rfl fld41_0 rfl) rfl ?_
        refine T_valG rfl rfl rfl (Ev_load1 rfl (i := 0) rfl rfl one3) rfl ?_
        refine T_valG rfl rfl rfl (Ev_field rfl fld43_2 rfl) rfl ?_
        refine T_valG rfl rfl rfl (Ev_field rfl fld41_1 rfl) rfl ?_
        refine T_valG rfl rfl rfl (Ev_load1 rfl (i := 0) rfl rfl one3) rfl ?_
        refine T_valG rfl rfl rfl (Ev_leq rfl rfl) rfl ?_
        refine T_val (Ev_pickT rfl rfl) rfl ?_
        refine T_val (Ev_move rfl) rfl ?_
        refine T_caseP (s := 21) rfl (fun h12 => ?_) (fun h12 => ?_)
        · have hx13 := ite_t h12 hx11
          refine T_valG rfl rfl rfl (Ev_field rfl fld43_2 rfl) rfl ?_
          refine T_valG rfl rfl rfl (Ev_field rfl fld41_1 rfl) rfl ?_
          refine T_valG rfl rfl rfl (Ev_load1 rfl (i := 0) rfl rfl one3) rfl ?_
          refine T_valG rfl rfl rfl (Ev_leq rfl rfl) rfl ?_
          refine T_val (Ev_pickT rfl rfl) rfl ?_
          refine T_val (Ev_assign rfl) rfl ?_
          refine T_nil ?_
          exact T_metP (decide (p0.Z.Hi ≤ 268435456)) () hx13 trivial (by exact .cons rfl (.nil)) (by exact .drop 0 rfl (.refl))
        · have hx14 := ite_f h12 hx11
          refine T_skipG rfl rfl rfl rfl rfl ?_
          refine T_skipG rfl rfl rfl rfl rfl ?_
          refine T_skipG rfl rfl rfl rfl rfl ?_
          refine T_skipG rfl rfl rfl rfl rfl ?_
          refine T_val (Ev_pickF rfl rfl) rfl ?_
          refine T_val (Ev_assign rfl) rfl ?_
          refine T_nil ?_
          exact T_metP false () hx14 trivial (by exact .cons rfl (.nil)) (by exact .drop 0 rfl (.refl))
      · have hx15 := ite_f h10 hx9
        refine T_skipG rfl rfl rfl rfl rfl ?_
        refine T_skipG rfl rfl rfl rfl rfl ?_
        refine T_skipG rfl rfl rfl rfl rfl ?_
        refine T_skipG rfl rfl rfl rfl rfl ?_
        refine T_skipG rfl rfl rfl rfl rfl ?_
        refine T_skipG rfl rfl rfl rfl rfl ?_
        refine T_skipG rfl rfl rfl rfl rfl ?_
        refine T_val (Ev_pickF rfl rfl) rfl ?_
        refine T_val (Ev_move rfl) rfl ?_
        refine T_skipG rfl rfl rfl rfl rfl ?_
        refine T_skipG rfl rfl rfl rfl rfl ?_
        refine T_skipG rfl rfl rfl rfl rfl ?_
        refine T_skipG rfl rfl rfl rfl rfl ?_
        refine T_val (Ev_pickF rfl rfl) rfl ?_
        refine T_val (Ev_assign rfl) rfl ?_
        refine T_nil ?_
        exact T_metP false () hx15 trivial (by exact .cons rfl (.nil)) (by exact .drop 0 rfl (.refl))
    · have hx16 := ite_bf h8 hx7
      refine T_skipG rfl rfl rfl rfl rfl ?_
      refine T_skipG rfl rfl rfl rfl rfl ?_
      refine T_skipG rfl rfl rfl rfl rfl ?_
      refine T_skipG rfl rfl rfl rfl rfl ?_
      refine T_val (Ev_pickF rfl rfl) rfl ?_
      refine T_val (Ev_move rfl) rfl ?_
      refine T_skipG rfl rfl rfl rfl rfl ?_
      refine T_skipG rfl rfl rfl rfl rfl ?_
      refine T_skipG rfl rfl rfl rfl rfl ?_
      refine T_skipG rfl rfl rfl rfl rfl ?_
      refine T_skipG rfl rfl rfl rfl rfl ?_
      refine T_skipG rfl rfl rfl rfl rfl ?_
      refine T_skipG rfl rfl rfl rfl rfl ?_
      refine T_val (Ev_pickF rfl rfl) rfl ?_
      refine T_val (Ev_move rfl) rfl ?_
      refine T_skipG rfl rfl rfl rfl rfl ?_
      refine T_skipG rfl rfl rfl rfl rfl ?_
      refine T_skipG rfl rfl rfl rfl rfl ?_
      refine T_skipG rfl rfl rfl rfl rfl ?_
      refine T_val (Ev_pickF rfl rfl) rfl ?_
      refine T_val (Ev_assign rfl) rfl ?_
      refine T_nil ?_
      exact T_metP false () hx16 trivial (by exact .cons rfl (.nil)) (by exact .drop 0 rfl (.refl))
set_option maxRecDepth 100000 in
theorem lidarref06_Before_ok (p0 : S_api_XY) (p1 : S_api_XY)  {r : Bool} (hx : lidarref06_Before p0 p1 = some r) (w : World) : CtL Tryz.prog 45 [.agg #[.int .i64 (p0.X), .int .i64 (p0.Y)], .agg #[.int .i64 (p1.X), .int .i64 (p1.Y)]] w fun v Ln => v = .bool (r) ∧ Ln = [] ∧ True := by
  refine CtL.mk 24 Tryz.func45 rfl Tryz.ntmps45 (by kernel_rfl) rfl ?_
  show T 24 _ [(0, .agg #[.int .i64 (p0.X), .int .i64 (p0.Y)]), (1, .agg #[.int .i64 (p1.X), .int .i64 (p1.Y)])] _
  unfold lidarref06_Before at hx
  refine T_seq ?_
  refine T_reg ?_
  refine T_x (Wx_box rfl rfl rfl (fun g1 => ?_))
  refine T_x (Wx_box rfl rfl rfl (fun g2 => ?_))
  refine T_val (Ev_assign rfl) rfl ?_
  refine T_nil ?_
  refine T_next ?_
  obtain ⟨j2, hj2, hx⟩ := jn_some hx
  refine T_cutP (τ := Bool) (γ := Unit) (J := j2) (out := r) (fun s2 y2 => [(4, .bool (s2))]) (fun s2 y2 => [] ++ [.old w]) (fun s2 y2 => True) ?_ ?_
  · intro s2 y2 hx9 hG10
    subst hj2
    refine T_retc ?_
    obtain rfl := Option.some.inj hx9
    exact T_retP (rs := [.tmp 4]) Tryz.results45 (.tmp rfl (.nil)) (Ln := []) ⟨rfl, rfl, trivial⟩ (loNil) (by exact .refl)
  · skip
    refine T_reg ?_
    refine T_val (Ev_field rfl fld38_0 rfl) rfl ?_
    refine T_val (Ev_load1 rfl (i := 1) rfl rfl one3) rfl ?_
    refine T_val (Ev_field rfl fld38_0 rfl) rfl ?_
    refine T_val (Ev_load1 rfl (i := 0) rfl rfl one3) rfl ?_
    refine T_val (Ev_lss rfl rfl) rfl ?_
    refine T_val (Ev_move rfl) rfl ?_
    refine T_caseP (s := 10) rfl (fun h3 => ?_) (fun h3 => ?_)
    · have hx4 := ite_t h3 hx
      refine T_skipG rfl rfl rfl rfl rfl ?_
      refine T_skipG rfl rfl rfl rfl rfl ?_
      refine T_skipG rfl rfl rfl rfl rfl ?_
      refine T_skipG rfl rfl rfl rfl rfl ?_
      refine T_skipG rfl rfl rfl rfl rfl ?_
      refine T_skipG rfl rfl rfl rfl rfl ?_
      refine T_skipU rfl rfl rfl rfl ?_
      refine T_skipU rfl rfl rfl rfl ?_
      refine T_skipU rfl rfl rfl rfl ?_
      refine T_skipU rfl rfl rfl rfl ?_
      refine T_skipU rfl rfl rfl rfl ?_
      refine T_skipG rfl rfl rfl rfl rfl ?_
      refine T_val (Ev_pickT rfl rfl) rfl ?_
      refine T_val (Ev_assign rfl) rfl ?_
      refine T_nil ?_
      exact T_metP true () hx4 trivial (by exact .cons rfl (.nil)) (by exact .drop 0 rfl (.drop 0 rfl (.refl)))
    · have hx5 := ite_f h3 hx
      refine T_valG rfl rfl rfl (Ev_field rfl fld38_0 rfl) rfl ?_
      refine T_valG rfl rfl rfl (Ev_load1 rfl (i := 1) rfl rfl one3) rfl ?_
      refine T_valG rfl rfl rfl (Ev_field rfl fld38_0 rfl) rfl ?_
      refine T_valG rfl rfl rfl (Ev_load1 rfl (i := 0) rfl rfl one3) rfl ?_
      refine T_valG rfl rfl rfl (Ev_eql rfl rfl) rfl ?_
      refine T_valG rfl rfl rfl (Ev_move rfl) rfl ?_
      refine T_caseP (s := 16) rfl (fun h6 => ?_) (fun h6 => ?_)
      · have hx7 := ite_t h6 hx5
        refine T_valG rfl rfl rfl (Ev_field rfl fld38_1 rfl) rfl ?_
        refine T_valG rfl rfl rfl (Ev_load1 rfl (i := 1) rfl rfl one3) rfl ?_
        refine T_valG rfl rfl rfl (Ev_field rfl fld38_1 rfl) rfl ?_
        refine T_valG rfl rfl rfl (Ev_load1 rfl (i := 0) rfl rfl one3) rfl ?_
        refine T_valG rfl rfl rfl (Ev_lss rfl rfl) rfl ?_
        refine T_valG rfl rfl rfl (Ev_pickT rfl rfl) rfl ?_
        refine T_val (Ev_pickF rfl rfl) rfl ?_
        refine T_val (Ev_assign rfl) rfl ?_
        refine T_nil ?_
        exact T_metP (decide (p0.Y < p1.Y)) () hx7 trivial (by exact .cons rfl (.nil)) (by exact .drop 0 rfl (.drop 0 rfl (.refl)))
      · have hx8 := ite_f h6 hx5
        refine T_skipG rfl rfl rfl rfl rfl ?_
        refine T_skipG rfl rfl rfl rfl rfl ?_
        refine T_skipG rfl rfl rfl rfl rfl ?_
        refine T_skipG rfl rfl rfl rfl rfl ?_
        refine T_skipG rfl rfl rfl rfl rfl ?_
        refine T_valG rfl rfl rfl (Ev_pickF rfl rfl) rfl ?_
        refine T_val (Ev_pickF rfl rfl) rfl ?_
        refine T_val (Ev_assign rfl) rfl ?_
        refine T_nil ?_
        exact T_metP false () hx8 trivial (by exact .cons rfl (.nil)) (by exact .drop 0 rfl (.drop 0 rfl (.refl)))
set_option maxRecDepth 100000 in
theorem lidarref06_Twice_ok (p0 : S_api_XY) (p1 : S_api_XY) (p2 : S_api_XY)  {r : Int} (hx : lidarref06_Twice p0 p1 p2 = some r) (w : World) : CtL Tryz.prog 14 [.agg #[.int .i64 (p0.X), .int .i64 (p0.Y)], .agg #[.int .i64 (p1.X), .int .i64 (p1.Y)], .agg #[.int .i64 (p2.X), .int .i64 (p2.Y)]] w fun v Ln => v = .int .i64 (r) ∧ Ln = [] ∧ True := by
  refine CtL.mk 30 Tryz.func14 rfl Tryz.ntmps14 (by kernel_rfl) rfl ?_
  show T 30 _ [(0, .agg #[.int .i64 (p0.X), .int .i64 (p0.Y)]), (1, .agg #[.int .i64 (p1.X), .int .i64 (p1.Y)]), (2, .agg #[.int .i64 (p2.X), .int .i64 (p2.Y)])] _
  unfold lidarref06_Twice at hx
  refine T_seq ?_
  refine T_reg ?_
  refine T_x (Wx_box rfl rfl rfl (fun g1 => ?_))
  refine T_x (Wx_box rfl rfl rfl (fun g2 => ?_))
  refine T_x (Wx_box rfl rfl rfl (fun g3 => ?_))
  refine T_val (Ev_assign rfl) rfl ?_
  refine T_nil ?_
  refine T_next ?_
  refine T_seq ?_
  refine T_reg ?_
  refine T_val (Ev_field rfl fld38_0 rfl) rfl ?_
  refine T_val (Ev_load1 rfl (i := 1) rfl rfl one3) rfl ?_
  refine T_val (Ev_field rfl fld38_0 rfl) rfl ?_
  refine T_val (Ev_load1 rfl (i := 2) rfl rfl one3) rfl ?_
  refine T_val (Ev_sub_w64 rfl rfl) rfl ?_
  refine T_val (Ev_field rfl fld38_1 rfl) rfl ?_
  refine T_val (Ev_load1 rfl (i := 0) rfl rfl one3) rfl ?_
  refine T_val (Ev_field rfl fld38_1 rfl) rfl ?_
  refine T_val (Ev_load1 rfl (i := 2) rfl rfl one3) rfl ?_
  refine T_val (Ev_sub_w64 rfl rfl) rfl ?_
  refine T_val (Ev_mul_w64 rfl rfl) rfl ?_
  refine T_val (Ev_field rfl fld38_1 rfl) rfl ?_
  refine T_val (Ev_load1 rfl (i := 1) rfl rfl one3) rfl ?_
  refine T_val (Ev_field rfl fld38_1 rfl) rfl ?_
  refine T_val (Ev_load1 rfl (i := 2) rfl rfl one3) rfl ?_
  refine T_val (Ev_sub_w64 rfl rfl) rfl ?_
  refine T_val (Ev_field rfl fld38_0 rfl) rfl ?_
  refine T_val (Ev_load1 rfl (i := 0) rfl rfl one3) rfl ?_
  refine T_val (Ev_field rfl fld38_0 rfl) rfl ?_
  refine T_val (Ev_load1 rfl (i := 2) rfl rfl one3) rfl ?_
  refine T_val (Ev_sub_w64 rfl rfl) rfl ?_
  refine T_val (Ev_mul_w64 rfl rfl) rfl ?_
  refine T_val (Ev_sub_w64 rfl rfl) rfl ?_
  refine T_val (Ev_assign rfl) rfl ?_
  refine T_nil ?_
  refine T_next ?_
  refine T_retc ?_
  obtain rfl := Option.some.inj hx
  exact T_retP (rs := [.tmp 6]) Tryz.results14 (.tmp rfl (.nil)) (Ln := []) ⟨rfl, rfl, trivial⟩ (loNil) (by exact .drop 0 rfl (.drop 0 rfl (.drop 0 rfl (.refl))))
set_option maxRecDepth 100000 in
theorem lidarref06_sign_ok (p0 : Int)  {r : Int} (hx : lidarref06_sign p0 = some r) (w : World) : CtL Tryz.prog 76 [.int .i64 (p0)] w fun v Ln => v = .int .i64 (r) ∧ Ln = [] ∧ True := by
  refine CtL.mk 7 Tryz.func76 rfl Tryz.ntmps76 (by kernel_rfl) rfl ?_
  show T 7 _ [(0, .int .i64 (p0))] _
  unfold lidarref06_sign at hx
  refine T_seq ?_
  refine T_reg ?_
  refine T_val (Ev_assign rfl) rfl ?_
  refine T_nil ?_
  refine T_next ?_
  refine T_seq ?_
  refine T_seq ?_
  refine T_reg ?_
  refine T_val (Ev_move rfl) rfl ?_
  refine T_val (Ev_lss rfl rfl) rfl ?_
  refine T_nil ?_
  refine T_next ?_
  refine T_caseP (s := 4) rfl (fun h1 => ?_) (fun h1 => ?_)
  · have hx2 := ite_t h1 hx
    refine T_condT rfl ?_
    refine T_seq ?_
    refine T_reg ?_
    refine T_val (Ev_assign rfl) rfl ?_
    refine T_nil ?_
    refine T_next ?_
    refine T_retc ?_
    refine T_outR ?_
    obtain rfl := Option.some.inj hx2
    exact T_retP (rs := [.tmp 2]) Tryz.results76 (.tmp rfl (.nil)) (Ln := []) ⟨rfl, rfl, trivial⟩ (loNil) (by exact .refl)
  · have hx3 := ite_f h1 hx
    refine T_condF rfl ?_
    refine T_skip ?_
    refine T_next ?_
    refine T_seq ?_
    refine T_seq ?_
    refine T_reg ?_
    refine T_val (Ev_move rfl) rfl ?_
    refine T_val (Ev_gtr rfl rfl) rfl ?_
    refine T_nil ?_
    refine T_next ?_
    refine T_caseP (s := 6) rfl (fun h4 => ?_) (fun h4 => ?_)
    · have hx5 := ite_t h4 hx3
      refine T_condT rfl ?_
      refine T_seq ?_
      refine T_reg ?_
      refine T_val (Ev_assign rfl) rfl ?_
      refine T_nil ?_
      refine T_next ?_
      refine T_retc ?_
      refine T_outR ?_
      obtain rfl := Option.some.inj hx5
      exact T_retP (rs := [.tmp 2]) Tryz.results76 (.tmp rfl (.nil)) (Ln := []) ⟨rfl, rfl, trivial⟩ (loNil) (by exact .refl)
    · have hx6 := ite_f h4 hx3
      refine T_condF rfl ?_
      refine T_skip ?_
      refine T_next ?_
      refine T_seq ?_
      refine T_reg ?_
      refine T_val (Ev_assign rfl) rfl ?_
      refine T_nil ?_
      refine T_next ?_
      refine T_retc ?_
      obtain rfl := Option.some.inj hx6
      exact T_retP (rs := [.tmp 2]) Tryz.results76 (.tmp rfl (.nil)) (Ln := []) ⟨rfl, rfl, trivial⟩ (loNil) (by exact .refl)
set_option maxRecDepth 100000 in
theorem lidarref06_Turn_ok (p0 : S_api_XY) (p1 : S_api_XY) (p2 : S_api_XY)  {r : Int} (hx : lidarref06_Turn p0 p1 p2 = some r) (w : World) : CtL Tryz.prog 38 [.agg #[.int .i64 (p0.X), .int .i64 (p0.Y)], .agg #[.int .i64 (p1.X), .int .i64 (p1.Y)], .agg #[.int .i64 (p2.X), .int .i64 (p2.Y)]] w fun v Ln => v = .int .i64 (r) ∧ Ln = [] ∧ True := by
  refine CtL.mk 12 Tryz.func38 rfl Tryz.ntmps38 (by kernel_rfl) rfl ?_
  show T 12 _ [(0, .agg #[.int .i64 (p0.X), .int .i64 (p0.Y)]), (1, .agg #[.int .i64 (p1.X), .int .i64 (p1.Y)]), (2, .agg #[.int .i64 (p2.X), .int .i64 (p2.Y)])] _
  unfold lidarref06_Turn at hx
  refine T_seq ?_
  refine T_reg ?_
  refine T_x (Wx_box rfl rfl rfl (fun g1 => ?_))
  refine T_x (Wx_box rfl rfl rfl (fun g2 => ?_))
  refine T_x (Wx_box rfl rfl rfl (fun g3 => ?_))
  refine T_val (Ev_assign rfl) rfl ?_
  refine T_nil ?_
  refine T_next ?_
  refine T_seq ?_
  refine T_reg ?_
  refine T_val (Ev_loadK rfl (i := 2) rfl rfl agg38) rfl ?_
  refine T_val (Ev_loadK rfl (i := 1) rfl rfl agg38) rfl ?_
  refine T_val (Ev_loadK rfl (i := 0) rfl rfl agg38) rfl ?_
  obtain ⟨r4, h5, hx6⟩ := bnd_some hx
  refine T_x (Wx_callL rfl (fun w1 hw1 => lidarref06_Twice_ok p0 p1 p2  h5 w1) rfl ?_)
  rintro _ _ hlo ⟨rfl, rfl, -⟩
  refine T_app0 ?_
  obtain ⟨r7, h8, hx9⟩ := bnd_some hx6
  refine T_x (Wx_callL rfl (fun w1 hw1 => lidarref06_sign_ok r4  h8 w1) rfl ?_)
  rintro _ _ hlo ⟨rfl, rfl, -⟩
  refine T_app0 ?_
  refine T_val (Ev_assign rfl) rfl ?_
  refine T_nil ?_
  refine T_next ?_
  refine T_retc ?_
  obtain rfl := Option.some.inj hx9
  exact T_retP (rs := [.tmp 6]) Tryz.results38 (.tmp rfl (.nil)) (Ln := []) ⟨rfl, rfl, trivial⟩ (loNil) (by exact .drop 0 rfl (.drop 0 rfl (.drop 0 rfl (.refl))))
set_option maxRecDepth 100000 in
theorem lidarref06_wide_add_ok (p0 : S_lidarref06_wide) (p1 : Int) (p2 : Int)  {r : S_lidarref06_wide} (hx : lidarref06_wide_add p0 p1 p2 = some r) (w : World) : CtL Tryz.prog 39 [.agg #[.int .i64 (p0.high), .int .i64 (p0.middle), .int .i64 (p0.low)], .int .i64 (p1), .int .i64 (p2)] w fun v Ln => v = .agg #[.int .i64 (r.high), .int .i64 (r.middle), .int .i64 (r.low)] ∧ Ln = [] ∧ True := by
  refine CtL.mk 42 Tryz.func39 rfl Tryz.ntmps39 (by kernel_rfl) rfl ?_
  show T 42 _ [(0, .agg #[.int .i64 (p0.high), .int .i64 (p0.middle), .int .i64 (p0.low)]), (1, .int .i64 (p1)), (2, .int .i64 (p2))] _
  unfold lidarref06_wide_add at hx
  refine T_seq ?_
  refine T_reg ?_
  refine T_x (Wx_box rfl rfl rfl (fun g1 => ?_))
  refine T_x (Wx_alloc zer77 rfl (fun g2 => ?_))
  refine T_nil ?_
  refine T_next ?_
  refine T_seq ?_
  refine T_reg ?_
  refine T_val (Ev_move rfl) rfl ?_
  refine T_val (Ev_shrW rfl rfl (by decide)) rfl ?_
  refine T_val (Ev_move rfl) rfl ?_
  refine T_val (Ev_bitW_and rfl rfl) rfl ?_
  refine T_val (Ev_assign rfl) rfl ?_
  refine T_val (Ev_assign rfl) rfl ?_
  refine T_nil ?_
  refine T_next ?_
  refine T_seq ?_
  refine T_reg ?_
  refine T_val (Ev_move rfl) rfl ?_
  refine T_val (Ev_shrW rfl rfl (by decide)) rfl ?_
  refine T_val (Ev_move rfl) rfl ?_
  refine T_val (Ev_bitW_and rfl rfl) rfl ?_
  refine T_val (Ev_assign rfl) rfl ?_
  refine T_val (Ev_assign rfl) rfl ?_
  refine T_nil ?_
  refine T_next ?_
  refine T_seq ?_
  refine T_reg ?_
  refine T_val (Ev_field rfl fld77_0 rfl) rfl ?_
  refine T_val (Ev_load1 rfl (i := 1) rfl rfl one3) rfl ?_
  refine T_val (Ev_move rfl) rfl ?_
  refine T_val (Ev_move rfl) rfl ?_
  refine T_val (Ev_mul_w64 rfl rfl) rfl ?_
  refine T_val (Ev_add_w64 rfl rfl) rfl ?_
  refine T_val (Ev_field rfl fld77_1 rfl) rfl ?_
  refine T_val (Ev_load1 rfl (i := 1) rfl rfl one3) rfl ?_
  refine T_val (Ev_move rfl) rfl ?_
  refine T_val (Ev_move rfl) rfl ?_
  refine T_val (Ev_mul_w64 rfl rfl) rfl ?_
  refine T_val (Ev_add_w64 rfl rfl) rfl ?_
  refine T_val (Ev_move rfl) rfl ?_
  refine T_val (Ev_move rfl) rfl ?_
  refine T_val (Ev_mul_w64 rfl rfl) rfl ?_
  refine T_val (Ev_add_w64 rfl rfl) rfl ?_
  refine T_val (Ev_field rfl fld77_2 rfl) rfl ?_
  refine T_val (Ev_load1 rfl (i := 1) rfl rfl one3) rfl ?_
  refine T_val (Ev_move rfl) rfl ?_
  refine T_val (Ev_move rfl) rfl ?_
  refine T_val (Ev_mul_w64 rfl rfl) rfl ?_
  refine T_val (Ev_add_w64 rfl rfl) rfl ?_
  refine T_val (Ev_build rfl (bld77_0i641i642i64 _ _ _)) rfl ?_
  refine T_h (Wh_store rfl rfl rfl (.here) (.put (.put (.put (.done)))) rfl (List.cons_ne_nil _ _) agg77.2 ?_)
  refine T_nil ?_
  refine T_next ?_
  refine T_retc ?_
  obtain rfl := Option.some.inj hx
  exact T_retP (rs := [.cell 6 77]) Tryz.results39 (.cell rfl (i := 0) rfl rfl agg77 (.nil)) (Ln := []) ⟨rfl, rfl, trivial⟩ (loNil) (by exact .drop 0 rfl (.drop 0 rfl (.refl)))
set_option maxRecDepth 100000 in
theorem lidarref06_wide_sign_ok (p0 : S_lidarref06_wide)  {r : Int} (hx : lidarref06_wide_sign p0 = some r) (w : World) : CtL Tryz.prog 40 [.agg #[.int .i64 (p0.high), .int .i64 (p0.middle), .int .i64 (p0.low)]] w fun v Ln => v = .int .i64 (r) ∧ Ln = [] ∧ True := by
  refine CtL.mk 30 Tryz.func40 rfl Tryz.ntmps40 (by kernel_rfl) rfl ?_
  show T 30 _ [(0, .agg #[.int .i64 (p0.high), .int .i64 (p0.middle), .int .i64 (p0.low)])] _
  unfold lidarref06_wide_sign at hx
  refine T_seq ?_
  refine T_reg ?_
  refine T_x (Wx_box rfl rfl rfl (fun g1 => ?_))
  refine T_val (Ev_assign rfl) rfl ?_
  refine T_nil ?_
  refine T_next ?_
  refine T_seq ?_
  refine T_reg ?_
  refine T_val (Ev_field rfl fld77_1 rfl) rfl ?_
  refine T_val (Ev_load1 rfl (i := 0) rfl rfl one3) rfl ?_
  refine T_val (Ev_field rfl fld77_2 rfl) rfl ?_
  refine T_val (Ev_load1 rfl (i := 0) rfl rfl one3) rfl ?_
  refine T_val (Ev_shrW rfl rfl (by decide)) rfl ?_
  refine T_val (Ev_add_w64 rfl rfl) rfl ?_
  refine T_val (Ev_assign rfl) rfl ?_
  refine T_nil ?_
  refine T_next ?_
  refine T_seq ?_
  refine T_reg ?_
  refine T_val (Ev_field rfl fld77_2 rfl) rfl ?_
  refine T_val (Ev_load1 rfl (i := 0) rfl rfl one3) rfl ?_
  refine T_val (Ev_bitW_and rfl rfl) rfl ?_
  refine T_val (Ev_assign rfl) rfl ?_
  refine T_nil ?_
  refine T_next ?_
  refine T_seq ?_
  refine T_reg ?_
  refine T_val (Ev_field rfl fld77_0 rfl) rfl ?_
  refine T_val (Ev_load1 rfl (i := 0) rfl rfl one3) rfl ?_
  refine T_val (Ev_move rfl) rfl ?_
  refine T_val (Ev_shrW rfl rfl (by decide)) rfl ?_
  refine T_val (Ev_add_w64 rfl rfl) rfl ?_
  refine T_val (Ev_assign rfl) rfl ?_
  refine T_nil ?_
  refine T_next ?_
  refine T_seq ?_
  refine T_reg ?_
  refine T_val (Ev_move rfl) rfl ?_
  refine T_val (Ev_bitW_and rfl rfl) rfl ?_
  refine T_val (Ev_assign rfl) rfl ?_
  refine T_nil ?_
  refine T_next ?_
  refine T_seq ?_
  refine T_seq ?_
  refine T_reg ?_
  refine T_val (Ev_move rfl) rfl ?_
  refine T_val (Ev_neq rfl rfl) rfl ?_
  refine T_nil ?_
  refine T_next ?_
  refine T_caseNP (s := 23) rfl (fun h2 => ?_) (fun h2 => ?_)
  · have hx3 := ite_f h2 hx
    refine T_condT rfl ?_
    refine T_seq ?_
    refine T_reg ?_
    refine T_val (Ev_move rfl) rfl ?_
    obtain ⟨r4, h5, hx6⟩ := bnd_some hx3
    refine T_x (Wx_callL rfl (fun w1 hw1 => lidarref06_sign_ok (w64 (p0.high + (shr_ .i64 (w64 (p0.middle + (shr_ .i64 p0.low 30))) 30)))  h5 w1) rfl ?_)
    rintro _ _ hlo ⟨rfl, rfl, -⟩
    refine T_app0 ?_
    refine T_val (Ev_assign rfl) rfl ?_
    refine T_nil ?_
    refine T_next ?_
    refine T_retc ?_
    refine T_outR ?_
    obtain rfl := Option.some.inj hx6
    exact T_retP (rs := [.tmp 2]) Tryz.results40 (.tmp rfl (.nil)) (Ln := []) ⟨rfl, rfl, trivial⟩ (loNil) (by exact .drop 0 rfl (.refl))
  · have hx7 := ite_t h2 hx
    refine T_condF rfl ?_
    refine T_skip ?_
    refine T_next ?_
    refine T_seq ?_
    refine T_reg ?_
    refine T_val (Ev_move rfl) rfl ?_
    refine T_val (Ev_move rfl) rfl ?_
    refine T_val (Ev_add_w64 rfl rfl) rfl ?_
    obtain ⟨r8, h9, hx10⟩ := bnd_some hx7
    refine T_x (Wx_callL rfl (fun w1 hw1 => lidarref06_sign_ok (w64 ((bit_and .i64 (w64 (p0.middle + (shr_ .i64 p0.low 30))) 1073741823) + (bit_and .i64 p0.low 1073741823)))  h9 w1) rfl ?_)
    rintro _ _ hlo ⟨rfl, rfl, -⟩
    refine T_app0 ?_
    refine T_val (Ev_assign rfl) rfl ?_
    refine T_nil ?_
    refine T_next ?_
    refine T_retc ?_
    obtain rfl := Option.some.inj hx10
    exact T_retP (rs := [.tmp 2]) Tryz.results40 (.tmp rfl (.nil)) (Ln := []) ⟨rfl, rfl, trivial⟩ (loNil) (by exact .drop 0 rfl (.refl))
set_option maxRecDepth 100000 in
theorem lidarref06_Circle_ok (p0 : S_api_XY) (p1 : S_api_XY) (p2 : S_api_XY) (p3 : S_api_XY)  {r : Int} (hx : lidarref06_Circle p0 p1 p2 p3 = some r) (w : World) : CtL Tryz.prog 15 [.agg #[.int .i64 (p0.X), .int .i64 (p0.Y)], .agg #[.int .i64 (p1.X), .int .i64 (p1.Y)], .agg #[.int .i64 (p2.X), .int .i64 (p2.Y)], .agg #[.int .i64 (p3.X), .int .i64 (p3.Y)]] w fun v Ln => v = .int .i64 (r) ∧ Ln = [] ∧ True := by
  refine CtL.mk 96 Tryz.func15 rfl Tryz.ntmps15 (by kernel_rfl) rfl ?_
  show T 96 _ [(0, .agg #[.int .i64 (p0.X), .int .i64 (p0.Y)]), (1, .agg #[.int .i64 (p1.X), .int .i64 (p1.Y)]), (2, .agg #[.int .i64 (p2.X), .int .i64 (p2.Y)]), (3, .agg #[.int .i64 (p3.X), .int .i64 (p3.Y)])] _
  unfold lidarref06_Circle at hx
  refine T_seq ?_
  refine T_reg ?_
  refine T_x (Wx_box rfl rfl rfl (fun g1 => ?_))
  refine T_x (Wx_box rfl rfl rfl (fun g2 => ?_))
  refine T_x (Wx_box rfl rfl rfl (fun g3 => ?_))
  refine T_x (Wx_box rfl rfl rfl (fun g4 => ?_))
  refine T_val (Ev_assign rfl) rfl ?_
  refine T_nil ?_
  refine T_next ?_
  refine T_seq ?_
  refine T_draw [0, 1, 0, 1, 0, 0, 1, 0, 1, 0, 0, 1, 0, 1, 0, 0, 1, 0, 1, 0, 0, 1, 0, 1, 0, 0, 1, 0, 1, 0, 2, 2, 2, 2, 2, 2] [[], [0], [], [2], [0, 1, 2, 3], [], [5], [], [7], [5, 6, 7, 8], [], [10], [], [12], [10, 11, 12, 13], [], [15], [], [17], [15, 16, 17, 18], [], [20], [], [22], [20, 21, 22, 23], [], [25], [], [27], [25, 26, 27, 28], [0, 1, 2, 3, 4], [0, 1, 2, 3, 4, 5, 6, 7, 8, 9, 30], [0, 1, 2, 3, 4, 5, 6, 7, 8, 9, 10, 11, 12, 13, 14, 30, 31], [0, 1, 2, 3, 4, 5, 6, 7, 8, 9, 10, 11, 12, 13, 14, 15, 16, 17, 18, 19, 30, 31, 32], [0, 1, 2, 3, 4, 5, 6, 7, 8, 9, 10, 11, 12, 13, 14, 15, 16, 17, 18, 19, 20, 21, 22, 23, 24, 30, 31, 32, 33], [0, 1, 2, 3, 4, 5, 6, 7, 8, 9, 10, 11, 12, 13, 14, 15, 16, 17, 18, 19, 20, 21, 22, 23, 24, 25, 26, 27, 28, 29, 30, 31, 32, 33, 34]] (.q 0 (.q 1 (.q 2 (.q 3 (.q 4 (.q 5 (.q 6 (.q 7 (.q 8 (.q 9 (.q 10 (.q 11 (.q 12 (.q 13 (.q 14 (.q 15 (.q 16 (.q 17 (.q 18 (.q 19 (.q 20 (.q 21 (.q 22 (.q 23 (.q 24 (.q 25 (.q 26 (.q 27 (.q 28 (.q 29 (.e 30 (.e 31 (.e 32 (.e 33 (.e 34 (.e 35 (.done) (.stop)) (.stop)) (.stop)) (.stop)) (.stop)) (.stop)))))))))))))))))))))))))))))))) mixed (by kernel_rfl) (by kernel_rfl) ?_
  refine P_p rfl rfl (Ev_field rfl fld38_0 rfl) rfl ?_
  refine P_q rfl rfl (Ev_load1 rfl (i := 3) rfl rfl one3) rfl ?_
  refine P_p rfl rfl (Ev_field rfl fld38_0 rfl) rfl ?_
  refine P_q rfl rfl (Ev_load1 rfl (i := 0) rfl rfl one3) rfl ?_
  refine P_p rfl rfl (Ev_sub_w64 rfl rfl) rfl ?_
  refine P_p rfl rfl (Ev_field rfl fld38_1 rfl) rfl ?_
  refine P_q rfl rfl (Ev_load1 rfl (i := 3) rfl rfl one3) rfl ?_
  refine P_p rfl rfl (Ev_field rfl fld38_1 rfl) rfl ?_
  refine P_q rfl rfl (Ev_load1 rfl (i := 0) rfl rfl one3) rfl ?_
  refine P_p rfl rfl (Ev_sub_w64 rfl rfl) rfl ?_
  refine P_p rfl rfl (Ev_field rfl fld38_0 rfl) rfl ?_
  refine P_q rfl rfl (Ev_load1 rfl (i := 2) rfl rfl one3) rfl ?_
  refine P_p rfl rfl (Ev_field rfl fld38_0 rfl) rfl ?_
  refine P_q rfl rfl (Ev_load1 rfl (i := 0) rfl rfl one3) rfl ?_
  refine P_p rfl rfl (Ev_sub_w64 rfl rfl) rfl ?_
  refine P_p rfl rfl (Ev_field rfl fld38_1 rfl) rfl ?_
  refine P_q rfl rfl (Ev_load1 rfl (i := 2) rfl rfl one3) rfl ?_
  refine P_p rfl rfl (Ev_field rfl fld38_1 rfl) rfl ?_
  refine P_q rfl rfl (Ev_load1 rfl (i := 0) rfl rfl one3) rfl ?_
  refine P_p rfl rfl (Ev_sub_w64 rfl rfl) rfl ?_
  refine P_p rfl rfl (Ev_field rfl fld38_0 rfl) rfl ?_
  refine P_q rfl rfl (Ev_load1 rfl (i := 1) rfl rfl one3) rfl ?_
  refine P_p rfl rfl (Ev_field rfl fld38_0 rfl) rfl ?_
  refine P_q rfl rfl (Ev_load1 rfl (i := 0) rfl rfl one3) rfl ?_
  refine P_p rfl rfl (Ev_sub_w64 rfl rfl) rfl ?_
  refine P_p rfl rfl (Ev_field rfl fld38_1 rfl) rfl ?_
  refine P_q rfl rfl (Ev_load1 rfl (i := 1) rfl rfl one3) rfl ?_
  refine P_p rfl rfl (Ev_field rfl fld38_1 rfl) rfl ?_
  refine P_q rfl rfl (Ev_load1 rfl (i := 0) rfl rfl one3) rfl ?_
  refine P_p rfl rfl (Ev_sub_w64 rfl rfl) rfl ?_
  refine P_x rfl (Wx_val (Ev_assign rfl) rfl ?_) ?_
  rotate_left; exact P_stop
  refine P_x rfl (Wx_val (Ev_assign rfl) rfl ?_) ?_
  rotate_left; exact P_stop
  refine P_x rfl (Wx_val (Ev_assign rfl) rfl ?_) ?_
  rotate_left; exact P_stop
  refine P_x rfl (Wx_val (Ev_assign rfl) rfl ?_) ?_
  rotate_left; exact P_stop
  refine P_x rfl (Wx_val (Ev_assign rfl) rfl ?_) ?_
  rotate_left; exact P_stop
  refine P_x rfl (Wx_val (Ev_assign rfl) rfl ?_) ?_
  rotate_left; exact P_stop
  refine P_done ?_
  refine T_next ?_
  refine T_seq ?_
  refine T_reg ?_
  refine T_x (Wx_alloc zer77 rfl (fun g5 => ?_))
  refine T_nil ?_
  refine T_next ?_
  refine T_seq ?_
  refine T_reg ?_
  refine T_val (Ev_loadK rfl (i := 0) rfl rfl agg77) rfl ?_
  refine T_val (Ev_move rfl) rfl ?_
  refine T_val (Ev_move rfl) rfl ?_
  refine T_val (Ev_mul_w64 rfl rfl) rfl ?_
  refine T_val (Ev_move rfl) rfl ?_
  refine T_val (Ev_move rfl) rfl ?_
  refine T_val (Ev_mul_w64 rfl rfl) rfl ?_
  refine T_val (Ev_add_w64 rfl rfl) rfl ?_
  refine T_val (Ev_move rfl) rfl ?_
  refine T_val (Ev_move rfl) rfl ?_
  refine T_val (Ev_mul_w64 rfl rfl) rfl ?_
  refine T_val (Ev_move rfl) rfl ?_
  refine T_val (Ev_move rfl) rfl ?_
  refine T_val (Ev_mul_w64 rfl rfl) rfl ?_
  refine T_val (Ev_sub_w64 rfl rfl) rfl ?_
  obtain ⟨r6, h7, hx8⟩ := bnd_some hx
  refine T_x (Wx_callL rfl (fun w1 hw1 => lidarref06_wide_add_ok (⟨0, 0, 0⟩ : S_lidarref06_wide) (w64 ((w64 ((w64 (p0.X - p3.X)) * (w64 (p0.X - p3.X)))) + (w64 ((w64 (p0.Y - p3.Y)) * (w64 (p0.Y - p3.Y)))))) (w64 ((w64 ((w64 (p1.X - p3.X)) * (w64 (p2.Y - p3.Y)))) - (w64 ((w64 (p1.Y - p3.Y)) * (w64 (p2.X - p3.X))))))  h7 w1) rfl ?_)
  rintro _ _ hlo ⟨rfl, rfl, -⟩
  refine T_app0 ?_
  refine T_h (Wh_store rfl rfl rfl (.here) (.put (.put (.put (.done)))) rfl (List.cons_ne_nil _ _) agg77.2 ?_)
  refine T_nil ?_
  refine T_next ?_
  refine T_seq ?_
  refine T_reg ?_
  refine T_val (Ev_loadK rfl (i := 0) rfl rfl agg77) rfl ?_
  refine T_val (Ev_move rfl) rfl ?_
  refine T_val (Ev_move rfl) rfl ?_
  refine T_val (Ev_mul_w64 rfl rfl) rfl ?_
  refine T_val (Ev_move rfl) rfl ?_
  refine T_val (Ev_move rfl) rfl ?_
  refine T_val (Ev_mul_w64 rfl rfl) rfl ?_
  refine T_val (Ev_add_w64 rfl rfl) rfl ?_
  refine T_val (Ev_move rfl) rfl ?_
  refine T_val (Ev_move rfl) rfl ?_
  refine T_val (Ev_mul_w64 rfl rfl) rfl ?_
  refine T_val (Ev_move rfl) rfl ?_
  refine T_val (Ev_move rfl) rfl ?_
  refine T_val (Ev_mul_w64 rfl rfl) rfl ?_
  refine T_val (Ev_sub_w64 rfl rfl) rfl ?_
  obtain ⟨r9, h10, hx11⟩ := bnd_some hx8
  refine T_x (Wx_callL rfl (fun w1 hw1 => lidarref06_wide_add_ok r6 (w64 ((w64 ((w64 (p1.X - p3.X)) * (w64 (p1.X - p3.X)))) + (w64 ((w64 (p1.Y - p3.Y)) * (w64 (p1.Y - p3.Y)))))) (w64 ((w64 ((w64 (p2.X - p3.X)) * (w64 (p0.Y - p3.Y)))) - (w64 ((w64 (p2.Y - p3.Y)) * (w64 (p0.X - p3.X))))))  h10 w1) rfl ?_)
  rintro _ _ hlo ⟨rfl, rfl, -⟩
  refine T_app0 ?_
  refine T_h (Wh_store rfl rfl rfl (.here) (.put (.put (.put (.done)))) rfl (List.cons_ne_nil _ _) agg77.2 ?_)
  refine T_nil ?_
  refine T_next ?_
  refine T_seq ?_
  refine T_reg ?_
  refine T_val (Ev_loadK rfl (i := 0) rfl rfl agg77) rfl ?_
  refine T_val (Ev_move rfl) rfl ?_
  refine T_val (Ev_move rfl) rfl ?_
  refine T_val (Ev_mul_w64 rfl rfl) rfl ?_
  refine T_val (Ev_move rfl) rfl ?_
  refine T_val (Ev_move rfl) rfl ?_
  refine T_val (Ev_mul_w64 rfl rfl) rfl ?_
  refine T_val (Ev_add_w64 rfl rfl) rfl ?_
  refine T_val (Ev_move rfl) rfl ?_
  refine T_val (Ev_move rfl) rfl ?_
  refine T_val (Ev_mul_w64 rfl rfl) rfl ?_
  refine T_val (Ev_move rfl) rfl ?_
  refine T_val (Ev_move rfl) rfl ?_
  refine T_val (Ev_mul_w64 rfl rfl) rfl ?_
  refine T_val (Ev_sub_w64 rfl rfl) rfl ?_
  obtain ⟨r12, h13, hx14⟩ := bnd_some hx11
  refine T_x (Wx_callL rfl (fun w1 hw1 => lidarref06_wide_add_ok r9 (w64 ((w64 ((w64 (p2.X - p3.X)) * (w64 (p2.X - p3.X)))) + (w64 ((w64 (p2.Y - p3.Y)) * (w64 (p2.Y - p3.Y)))))) (w64 ((w64 ((w64 (p0.X - p3.X)) * (w64 (p1.Y - p3.Y)))) - (w64 ((w64 (p0.Y - p3.Y)) * (w64 (p1.X - p3.X))))))  h13 w1) rfl ?_)
  rintro _ _ hlo ⟨rfl, rfl, -⟩
  refine T_app0 ?_
  refine T_h (Wh_store rfl rfl rfl (.here) (.put (.put (.put (.done)))) rfl (List.cons_ne_nil _ _) agg77.2 ?_)
  refine T_nil ?_
  refine T_next ?_
  refine T_seq ?_
  refine T_reg ?_
  refine T_val (Ev_loadK rfl (i := 0) rfl rfl agg77) rfl ?_
  obtain ⟨r15, h16, hx17⟩ := bnd_some hx14
  refine T_x (Wx_callL rfl (fun w1 hw1 => lidarref06_wide_sign_ok r12  h16 w1) rfl ?_)
  rintro _ _ hlo ⟨rfl, rfl, -⟩
  refine T_app0 ?_
  refine T_val (Ev_assign rfl) rfl ?_
  refine T_nil ?_
  refine T_next ?_
  refine T_retc ?_
  obtain rfl := Option.some.inj hx17
  exact T_retP (rs := [.tmp 8]) Tryz.results15 (.tmp rfl (.nil)) (Ln := []) ⟨rfl, rfl, trivial⟩ (loNil) (by exact .drop 0 rfl (.drop 0 rfl (.drop 0 rfl (.drop 0 rfl (.drop 0 rfl (.refl))))))
set_option maxRecDepth 100000 in
theorem lidarref06_Legal_ok (p0 : S_api_XY) (p1 : S_api_XY) (p2 : S_api_XY) (p3 : S_api_XY)  {r : Bool × Int} (hx : lidarref06_Legal p0 p1 p2 p3 = some r) (w : World) : CtL Tryz.prog 20 [.agg #[.int .i64 (p0.X), .int .i64 (p0.Y)], .agg #[.int .i64 (p1.X), .int .i64 (p1.Y)], .agg #[.int .i64 (p2.X), .int .i64 (p2.Y)], .agg #[.int .i64 (p3.X), .int .i64 (p3.Y)]] w fun v Ln => v = .tuple #[.bool (r.1), .int .i64 (r.2)] ∧ Ln = [] ∧ True := by
  refine CtL.mk 80 Tryz.func20 rfl Tryz.ntmps20 (by kernel_rfl) rfl ?_
  show T 80 _ [(0, .agg #[.int .i64 (p0.X), .int .i64 (p0.Y)]), (1, .agg #[.int .i64 (p1.X), .int .i64 (p1.Y)]), (2, .agg #[.int .i64 (p2.X), .int .i64 (p2.Y)]), (3, .agg #[.int .i64 (p3.X), .int .i64 (p3.Y)])] _
  unfold lidarref06_Legal at hx
  refine T_seq ?_
  refine T_reg ?_
  refine T_x (Wx_box rfl rfl rfl (fun g1 => ?_))
  refine T_x (Wx_box rfl rfl rfl (fun g2 => ?_))
  refine T_x (Wx_box rfl rfl rfl (fun g3 => ?_))
  refine T_x (Wx_box rfl rfl rfl (fun g4 => ?_))
  refine T_val (Ev_assign rfl) rfl ?_
  refine T_val (Ev_assign rfl) rfl ?_
  refine T_nil ?_
  refine T_next ?_
  refine T_seq ?_
  obtain ⟨j3, hj3, hx⟩ := jn_some hx
  refine T_cutP (τ := Bool) (γ := Unit) (J := j3) (out := r) (fun s3 y3 => [(4, .pointer (some ⟨g1, 0, none⟩)), (5, .pointer (some ⟨g2, 0, none⟩)), (6, .pointer (some ⟨g3, 0, none⟩)), (7, .pointer (some ⟨g4, 0, none⟩)), (30, .bool (s3))]) (fun s3 y3 => [.m g4 38 [.int .i64 (p3.X), .int .i64 (p3.Y)], .m g3 38 [.int .i64 (p2.X), .int .i64 (p2.Y)], .m g2 38 [.int .i64 (p1.X), .int .i64 (p1.Y)], .m g1 38 [.int .i64 (p0.X), .int .i64 (p0.Y)]] ++ [.old w]) (fun s3 y3 => True) ?_ ?_
  · intro s3 y3 hx26 hG27
    subst hj3
    refine T_caseB (s := 30) rfl (fun h28 => ?_) (fun h28 => ?_)
    · have hx29 := ite_t h28 hx26
      refine T_condT rfl ?_
      refine T_seq ?_
      refine T_reg ?_
      refine T_val (Ev_assign rfl) rfl ?_
      refine T_val (Ev_assign rfl) rfl ?_
      refine T_nil ?_
      refine T_next ?_
      refine T_retc ?_
      refine T_outR ?_
      obtain rfl := Option.some.inj hx29
      exact T_retP (rs := [.tmp 8, .tmp 9]) Tryz.results20 (.tmp rfl (.tmp rfl (.nil))) (Ln := []) ⟨rfl, rfl, trivial⟩ (loNil) (by exact .drop 0 rfl (.drop 0 rfl (.drop 0 rfl (.drop 0 rfl (.refl)))))
    · have hx30 := ite_bf h28 hx26
      refine T_condF rfl ?_
      refine T_skip ?_
      refine T_next ?_
      refine T_seq ?_
      refine T_seq ?_
      refine T_draw [1, 1, 1, 2, 1, 1, 1, 2, 0, 0] [[], [], [], [0, 1, 2], [], [], [], [0, 1, 2, 3, 4, 5, 6], [0, 1, 2, 3, 4, 5, 6, 7], [0, 1, 2, 3, 4, 5, 6, 7, 8]] (.q 0 (.q 1 (.q 2 (.q 4 (.q 5 (.q 6 (.e 3 (.e 7 (.q 8 (.q 9 (.done))) (.stop)) (.stop)))))))) mixed (by kernel_rfl) (by kernel_rfl) ?_
      refine P_q rfl rfl (Ev_loadK rfl (i := 3) rfl rfl agg38) rfl ?_
      refine P_q rfl rfl (Ev_loadK rfl (i := 2) rfl rfl agg38) rfl ?_
      refine P_q rfl rfl (Ev_loadK rfl (i := 1) rfl rfl agg38) rfl ?_
      refine P_q rfl rfl (Ev_loadK rfl (i := 3) rfl rfl agg38) rfl ?_
      refine P_q rfl rfl (Ev_loadK rfl (i := 2) rfl rfl agg38) rfl ?_
      refine P_q rfl rfl (Ev_loadK rfl (i := 0) rfl rfl agg38) rfl ?_
      obtain ⟨r31, h32, hx33⟩ := bnd_some hx30
      refine P_x rfl (Wx_callL rfl (fun w1 hw1 => lidarref06_Turn_ok p0 p1 p2  h32 w1) rfl ?_) ?_
      rotate_left; exact P_stop
      rintro _ _ hlo ⟨rfl, rfl, -⟩
      refine T_app0 ?_
      obtain ⟨r34, h35, hx36⟩ := bnd_some hx33
      refine P_x rfl (Wx_callL rfl (fun w1 hw1 => lidarref06_Turn_ok p0 p1 p3  h35 w1) rfl ?_) ?_
      rotate_left; exact P_stop
      rintro _ _ hlo ⟨rfl, rfl, -⟩
      refine T_app0 ?_
      refine P_p rfl rfl (Ev_mul_w64 rfl rfl) rfl ?_
      refine P_p rfl rfl (Ev_neq rfl rfl) rfl ?_
      refine P_done ?_
      refine T_next ?_
      refine T_caseNP (s := 40) rfl (fun h37 => ?_) (fun h37 => ?_)
      · have hx38 := ite_f h37 hx36
        refine T_condT rfl ?_
        refine T_seq ?_
        refine T_reg ?_
        refine T_val (Ev_assign rfl) rfl ?_
        refine T_val (Ev_assign rfl) rfl ?_
        refine T_nil ?_
        refine T_next ?_
        refine T_retc ?_
        refine T_outR ?_
        obtain rfl := Option.some.inj hx38
        exact T_retP (rs := [.tmp 8, .tmp 9]) Tryz.results20 (.tmp rfl (.tmp rfl (.nil))) (Ln := []) ⟨rfl, rfl, trivial⟩ (loNil) (by exact .drop 0 rfl (.drop 0 rfl (.drop 0 rfl (.drop 0 rfl (.refl)))))
      · have hx39 := ite_t h37 hx36
        refine T_condF rfl ?_
        refine T_skip ?_
        refine T_next ?_
        obtain ⟨j8, hj8, hx39⟩ := jn_some hx39
        refine T_cutP (τ := Int × Int × Int × Int) (γ := Unit) (J := j8) (out := r) (fun s8 y8 => [(4, .pointer (some ⟨g1, 0, none⟩)), (5, .pointer (some ⟨g2, 0, none⟩)), (6, .pointer (some ⟨g3, 0, none⟩)), (7, .pointer (some ⟨g4, 0, none⟩))]) (fun s8 y8 => [.m g4 38 [.int .i64 (p3.X), .int .i64 (p3.Y)], .m g3 38 [.int .i64 (p2.X), .int .i64 (p2.Y)], .m g2 38 [.int .i64 (s8.2.2.1), .int .i64 (s8.2.2.2)], .m g1 38 [.int .i64 (s8.1), .int .i64 (s8.2.1)]] ++ [.old w]) (fun s8 y8 => True) ?_ ?_
        · intro s8 y8 hx46 hG47
          subst hj8
          refine T_seq ?_
          refine T_seq ?_
          refine T_reg ?_
          refine T_val (Ev_loadK rfl (i := 3) rfl rfl agg38) rfl ?_
          refine T_val (Ev_loadK rfl (i := 2) rfl rfl agg38) rfl ?_
          refine T_val (Ev_loadK rfl (i := 1) rfl rfl agg38) rfl ?_
          refine T_val (Ev_loadK rfl (i := 0) rfl rfl agg38) rfl ?_
          obtain ⟨r48, h49, hx50⟩ := bnd_some hx46
          refine T_x (Wx_callL rfl (fun w1 hw1 => lidarref06_Circle_ok (⟨s8.1, s8.2.1⟩ : S_api_XY) (⟨s8.2.2.1, s8.2.2.2⟩ : S_api_XY) p2 p3  h49 w1) rfl ?_)
          rintro _ _ hlo ⟨rfl, rfl, -⟩
          refine T_app0 ?_
          refine T_nil ?_
          refine T_next ?_
          refine T_block ?_
          refine T_seq ?_
          refine T_reg ?_
          refine T_val (Ev_eql rfl rfl) rfl ?_
          refine T_val (Ev_assign rfl) rfl ?_
          refine T_nil ?_
          refine T_next ?_
          refine T_caseP (s := 53) rfl (fun h51 => ?_) (fun h51 => ?_)
          · have hx52 := ite_t h51 hx50
            refine T_condT rfl ?_
            refine T_seq ?_
            refine T_reg ?_
            refine T_val (Ev_assign rfl) rfl ?_
            refine T_val (Ev_assign rfl) rfl ?_
            refine T_nil ?_
            refine T_next ?_
            refine T_retc ?_
            refine T_inR ?_
            refine T_outR ?_
            obtain rfl := Option.some.inj hx52
            exact T_retP (rs := [.tmp 8, .tmp 9]) Tryz.results20 (.tmp rfl (.tmp rfl (.nil))) (Ln := []) ⟨rfl, rfl, trivial⟩ (loNil) (by exact .drop 0 rfl (.drop 0 rfl (.drop 0 rfl (.drop 0 rfl (.refl)))))
          · have hx53 := ite_f h51 hx50
            refine T_condF rfl ?_
            refine T_seq ?_
            refine T_reg ?_
            refine T_val (Ev_eql rfl rfl) rfl ?_
            refine T_val (Ev_assign rfl) rfl ?_
            refine T_nil ?_
            refine T_next ?_
            refine T_caseP (s := 55) rfl (fun h54 => ?_) (fun h54 => ?_)
            · have hx55 := ite_t h54 hx53
              refine T_condT rfl ?_
              refine T_seq ?_
              refine T_reg ?_
              refine T_val (Ev_assign rfl) rfl ?_
              refine T_val (Ev_assign rfl) rfl ?_
              refine T_nil ?_
              refine T_next ?_
              refine T_retc ?_
              refine T_inR ?_
              refine T_outR ?_
              obtain rfl := Option.some.inj hx55
              exact T_retP (rs := [.tmp 8, .tmp 9]) Tryz.results20 (.tmp rfl (.tmp rfl (.nil))) (Ln := []) ⟨rfl, rfl, trivial⟩ (loNil) (by exact .drop 0 rfl (.drop 0 rfl (.drop 0 rfl (.drop 0 rfl (.refl)))))
            · have hx56 := ite_f h54 hx53
              refine T_condF rfl ?_
              refine T_skip ?_
              refine T_inN ?_
              refine T_next ?_
              refine T_seq ?_
              refine T_reg ?_
              refine T_val (Ev_loadK rfl (i := 3) rfl rfl agg38) rfl ?_
              refine T_x (Wx_alloc zer38 rfl (fun g57 => ?_))
              refine T_h (Wh_store rfl rfl rfl (.here) (.put (.put (.done))) rfl (List.cons_ne_nil _ _) agg38.2 ?_)
              refine T_nil ?_
              refine T_next ?_
              obtain ⟨j17, hj17, hx56⟩ := jn_some hx56
              refine T_cutP (τ := Int × Int) (γ := Unit) (J := j17) (out := r) (fun s17 y17 => [(6, .pointer (some ⟨g3, 0, none⟩)), (7, .pointer (some ⟨g4, 0, none⟩)), (10, .pointer (some ⟨g57, 0, none⟩))]) (fun s17 y17 => [.m g57 38 [.int .i64 (s17.1), .int .i64 (s17.2)], .m g4 38 [.int .i64 (p3.X), .int .i64 (p3.Y)], .m g3 38 [.int .i64 (p2.X), .int .i64 (p2.Y)]] ++ [.old w]) (fun s17 y17 => True) ?_ ?_
              · intro s17 y17 hx107 hG108
                subst hj17
                obtain ⟨j29, hj29, hx107⟩ := jn_some hx107
                refine T_cutP (τ := Bool) (γ := Unit) (J := j29) (out := r) (fun s29 y29 => [(8, .bool (s29)), (9, .int .i64 (0))]) (fun s29 y29 => [] ++ [.old w]) (fun s29 y29 => True) ?_ ?_
                · intro s29 y29 hx112 hG113
                  subst hj29
                  refine T_retc ?_
                  obtain rfl := Option.some.inj hx112
                  exact T_retP (rs := [.tmp 8, .tmp 9]) Tryz.results20 (.tmp rfl (.tmp rfl (.nil))) (Ln := []) ⟨rfl, rfl, trivial⟩ (loNil) (by exact .refl)
                · skip
                  refine T_reg ?_
                  refine T_val (Ev_loadK rfl (i := 0) rfl rfl agg38) rfl ?_
                  refine T_val (Ev_loadK rfl (i := 2) rfl rfl agg38) rfl ?_
                  refine T_val (Ev_eqlS rfl rfl (by kernel_rfl) (seq38 _ _ _ _)) rfl ?_
                  refine T_val (Ev_move rfl) rfl ?_
                  refine T_caseB (s := 75) rfl (fun h109 => ?_) (fun h109 => ?_)
                  · have hx110 := ite_t h109 hx107
                    refine T_skipG rfl rfl rfl rfl rfl ?_
                    refine T_skipG rfl rfl rfl rfl rfl ?_
                    refine T_skipG rfl rfl rfl rfl rfl ?_
                    refine T_val (Ev_pickT rfl rfl) rfl ?_
                    refine T_val (Ev_assign rfl) rfl ?_
                    refine T_val (Ev_assign rfl) rfl ?_
                    refine T_nil ?_
                    exact T_metP true () hx110 trivial (by exact .cons rfl (.cons rfl (.nil))) (by exact .drop 0 rfl (.drop 0 rfl (.drop 0 rfl (.refl))))
                  · have hx111 := ite_bf h109 hx107
                    refine T_valG rfl rfl rfl (Ev_loadK rfl (i := 0) rfl rfl agg38) rfl ?_
                    refine T_valG rfl rfl rfl (Ev_loadK rfl (i := 1) rfl rfl agg38) rfl ?_
                    refine T_valG rfl rfl rfl (Ev_eqlS rfl rfl (by kernel_rfl) (seq38 _ _ _ _)) rfl ?_
                    refine T_val (Ev_pickF rfl rfl) rfl ?_
                    refine T_val (Ev_assign rfl) rfl ?_
                    refine T_val (Ev_assign rfl) rfl ?_
                    refine T_nil ?_
                    exact T_metP (((s17.1) == (p3.X)) && (((s17.2) == (p3.Y)) && true)) () hx111 trivial (by exact .cons rfl (.cons rfl (.nil))) (by exact .drop 0 rfl (.drop 0 rfl (.drop 0 rfl (.refl))))
              · skip
                refine T_seq ?_
                refine T_reg ?_
                refine T_val (Ev_loadK rfl (i := 3) rfl rfl agg38) rfl ?_
                refine T_val (Ev_loadK rfl (i := 2) rfl rfl agg38) rfl ?_
                refine T_val (Ev_loadK rfl (i := 1) rfl rfl agg38) rfl ?_
                refine T_x (Wx_buildSlice rfl (bls84_3_0ai64i641ai64i642ai64i64 _ _ _ _ _ _) rfl (fun g58 => ?_))
                refine T_val (Ev_len rfl 38 Tryz.underlying84) rfl ?_
                refine T_val (Ev_move rfl) rfl ?_
                refine T_nil ?_
                refine T_next ?_
                refine T_block ?_
                refine T_mr (enc := e_api_XY) (sz := 2) ([(⟨s8.2.2.1, s8.2.2.2⟩ : S_api_XY), p2, p3]) (.here) rfl rfl (fun _ => rfl) (by show 3 ≤ maxLen; decide) ?_
                obtain ⟨t83, hl83, ho83⟩ := bnd_some hx56
                refine T_loopP (σ := Int × Int × Int) (γ := Unit) hl83 (fun s83 y83 => [(6, .pointer (some ⟨g3, 0, none⟩)), (7, .pointer (some ⟨g4, 0, none⟩)), (10, .pointer (some ⟨g57, 0, none⟩)), (61, .slice (some ⟨g58, 0, none⟩) (3) (3)), (62, .int .i64 (((3 : Nat) : Int))), (63, .int .i64 (s83.2.2))]) (fun s83 y83 => [.r (some ⟨g58, 0, none⟩) (3) (3) 38 2 (([(⟨s8.2.2.1, s8.2.2.2⟩ : S_api_XY), p2, p3]).flatMap e_api_XY), .m g57 38 [.int .i64 (s83.1), .int .i64 (s83.2.1)], .m g4 38 [.int .i64 (p3.X), .int .i64 (p3.Y)], .m g3 38 [.int .i64 (p2.X), .int .i64 (p2.Y)]] ++ [.old w]) (fun s83 y83 => True) () trivial (by exact .cons rfl (.cons rfl (.cons rfl (.cons rfl (.cons rfl (.cons rfl (.nil))))))) (by exact .pick 0 rfl (.pick 0 rfl (.pick 0 rfl (.pick 0 rfl (.drop 0 rfl (.drop 0 rfl (.refl))))))) ?_
                intro s83 y83 hG83 x83 hx83 ht83
                unfold lidarref06_Legal_l14 at hx83
                refine T_seq ?_
                refine T_reg ?_
                refine T_val (Ev_lss rfl rfl) rfl ?_
                refine T_nil ?_
                refine T_next ?_
                refine T_seq ?_
                refine T_caseP (s := 64) rfl (fun h84 => ?_) (fun h84 => ?_)
                · have hx85 := ite_t h84 hx83
                  refine T_condT rfl ?_
                  refine T_skip ?_
                  refine T_next ?_
                  obtain ⟨j26, hj26, hx85⟩ := jn_some hx85
                  refine T_cutP (τ := Int × Int) (γ := Unit) (J := j26) (out := x83) (fun s26 y26 => [(6, .pointer (some ⟨g3, 0, none⟩)), (7, .pointer (some ⟨g4, 0, none⟩)), (10, .pointer (some ⟨g57, 0, none⟩)), (61, .slice (some ⟨g58, 0, none⟩) (3) (3)), (62, .int .i64 (((3 : Nat) : Int))), (63, .int .i64 (s83.2.2))]) (fun s26 y26 => [.r (some ⟨g58, 0, none⟩) (3) (3) 38 2 (([(⟨s8.2.2.1, s8.2.2.2⟩ : S_api_XY), p2, p3]).flatMap e_api_XY), .m g57 38 [.int .i64 (s26.1), .int .i64 (s26.2)], .m g4 38 [.int .i64 (p3.X), .int .i64 (p3.Y)], .m g3 38 [.int .i64 (p2.X), .int .i64 (p2.Y)]] ++ [.old w]) (fun s26 y26 => True) ?_ ?_
                  · intro s26 y26 hx105 hG106
                    subst hj26
                    refine T_reg ?_
                    refine T_val (Ev_add_w64 rfl rfl) rfl ?_
                    refine T_val (Ev_move rfl) rfl ?_
                    refine T_nil ?_
                    exact T_roundP (s26.1, s26.2, w64 (s83.2.2 + 1)) () hx105 trivial (by exact .cons rfl (.cons rfl (.cons rfl (.cons rfl (.cons rfl (.cons rfl (.nil))))))) (by exact .pick 0 rfl (.pick 0 rfl (.pick 0 rfl (.pick 0 rfl (.refl)))))
                  · skip
                    refine T_block ?_
                    refine T_seq ?_
                    refine T_reg ?_
                    obtain ⟨x87, h88, hx89⟩ := bnd_some hx85
                    refine T_idxR (k := 0) rfl (by decide) (fun _ => rfl) h88 (fun b90 j92 hA93 hj94 hl95 hm97 hp96 => ?_)
                    refine T_val (Ev_index rfl rfl hA93 (j := j92) hj94 hl95 slc84) rfl ?_
                    refine T_val (Ev_loadPK0 rfl hp96 (SubE.cons2 (i := 0) rfl (SubE.nil)) rfl agg38) rfl ?_
                    refine T_x (Wx_alloc zer38 rfl (fun g98 => ?_))
                    refine T_h (Wh_store rfl rfl rfl (.here) (.put (.put (.done))) rfl (List.cons_ne_nil _ _) agg38.2 ?_)
                    refine T_nil ?_
                    refine T_next ?_
                    refine T_seq ?_
                    refine T_reg ?_
                    refine T_val (Ev_loadK rfl (i := 0) rfl rfl agg38) rfl ?_
                    refine T_val (Ev_loadK rfl (i := 2) rfl rfl agg38) rfl ?_
                    obtain ⟨r99, h100, hx101⟩ := bnd_some hx89
                    refine T_x (Wx_callL rfl (fun w1 hw1 => lidarref06_Before_ok x87 (⟨s83.1, s83.2.1⟩ : S_api_XY)  h100 w1) rfl ?_)
                    rintro _ _ hlo ⟨rfl, rfl, -⟩
                    refine T_app0 ?_
                    refine T_nil ?_
                    refine T_next ?_
                    refine T_caseB (s := 69) rfl (fun h102 => ?_) (fun h102 => ?_)
                    · have hx103 := ite_t h102 hx101
                      refine T_condT rfl ?_
                      refine T_reg ?_
                      refine T_val (Ev_loadK rfl (i := 0) rfl rfl agg38) rfl ?_
                      refine T_h (Wh_store rfl rfl rfl (.there (.there (.here))) (.put (.put (.done))) rfl (List.cons_ne_nil _ _) agg38.2 ?_)
                      refine T_nil ?_
                      refine T_inN ?_
                      exact T_metP (x87.X, x87.Y) () hx103 trivial (by exact .cons rfl (.cons rfl (.cons rfl (.cons rfl (.cons rfl (.cons rfl (.nil))))))) (by exact .pick 1 rfl (.pick 1 rfl (.pick 1 rfl (.pick 1 rfl (.drop 0 rfl (.refl))))))
                    · have hx104 := ite_bf h102 hx101
                      refine T_condF rfl ?_
                      refine T_skip ?_
                      refine T_inN ?_
                      exact T_metP (s83.1, s83.2.1) () hx104 trivial (by exact .cons rfl (.cons rfl (.cons rfl (.cons rfl (.cons rfl (.cons rfl (.nil))))))) (by exact .pick 1 rfl (.pick 1 rfl (.pick 1 rfl (.pick 1 rfl (.drop 0 rfl (.refl))))))
                · have hx86 := ite_f h84 hx83
                  refine T_condF rfl ?_
                  refine T_exit ?_
                  refine T_outX ?_
                  obtain rfl := exit_eq ht83 hx86
                  refine T_outX ?_
                  refine T_here ?_
                  exact T_metP (s83.1, s83.2.1) () ho83 trivial (by exact .cons rfl (.cons rfl (.cons rfl (.nil)))) (by exact .pick 1 rfl (.pick 1 rfl (.pick 1 rfl (.drop 0 rfl (.refl)))))
        · skip
          refine T_seq ?_
          refine T_reg ?_
          refine T_val (Ev_loadK rfl (i := 3) rfl rfl agg38) rfl ?_
          refine T_val (Ev_loadK rfl (i := 2) rfl rfl agg38) rfl ?_
          refine T_val (Ev_loadK rfl (i := 1) rfl rfl agg38) rfl ?_
          obtain ⟨r40, h41, hx42⟩ := bnd_some hx39
          refine T_x (Wx_callL rfl (fun w1 hw1 => lidarref06_Turn_ok p0 p1 p2  h41 w1) rfl ?_)
          rintro _ _ hlo ⟨rfl, rfl, -⟩
          refine T_app0 ?_
          refine T_val (Ev_lss rfl rfl) rfl ?_
          refine T_nil ?_
          refine T_next ?_
          refine T_caseP (s := 45) rfl (fun h43 => ?_) (fun h43 => ?_)
          · have hx44 := ite_t h43 hx42
            refine T_condT rfl ?_
            refine T_reg ?_
            refine T_val (Ev_loadK rfl (i := 2) rfl rfl agg38) rfl ?_
            refine T_val (Ev_loadK rfl (i := 3) rfl rfl agg38) rfl ?_
            refine T_h (Wh_store rfl rfl rfl (.there (.there (.there (.here)))) (.put (.put (.done))) rfl (List.cons_ne_nil _ _) agg38.2 ?_)
            refine T_h (Wh_store rfl rfl rfl (.there (.there (.here))) (.put (.put (.done))) rfl (List.cons_ne_nil _ _) agg38.2 ?_)
            refine T_nil ?_
            exact T_metP (p1.X, p1.Y, p0.X, p0.Y) () hx44 trivial (by exact .cons rfl (.cons rfl (.cons rfl (.cons rfl (.nil))))) (by exact .pick 0 rfl (.pick 0 rfl (.pick 0 rfl (.pick 0 rfl (.refl)))))
          · have hx45 := ite_f h43 hx42
            refine T_condF rfl ?_
            refine T_skip ?_
            exact T_metP (p0.X, p0.Y, p1.X, p1.Y) () hx45 trivial (by exact .cons rfl (.cons rfl (.cons rfl (.cons rfl (.nil))))) (by exact .pick 0 rfl (.pick 0 rfl (.pick 0 rfl (.pick 0 rfl (.refl)))))
  · skip
    refine T_reg ?_
    refine T_val (Ev_loadK rfl (i := 3) rfl rfl agg38) rfl ?_
    obtain ⟨r5, h6, hx7⟩ := bnd_some hx
    refine T_x (Wx_callL rfl (fun w1 hw1 => lidarref06_ValidPlace_ok p0  h6 w1) rfl ?_)
    rintro _ _ hlo ⟨rfl, rfl, -⟩
    refine T_app0 ?_
    refine T_val (Ev_not rfl) rfl ?_
    refine T_val (Ev_move rfl) rfl ?_
    refine T_caseNB (s := 16) rfl (fun h8 => ?_) (fun h8 => ?_)
    · have hx9 := ite_bf h8 hx7
      refine T_skipG rfl rfl rfl rfl rfl ?_
      refine T_skipG rfl rfl rfl rfl rfl ?_
      refine T_skipG rfl rfl rfl rfl rfl ?_
      refine T_val (Ev_pickT rfl rfl) rfl ?_
      refine T_val (Ev_move rfl) rfl ?_
      refine T_skipG rfl rfl rfl rfl rfl ?_
      refine T_skipG rfl rfl rfl rfl rfl ?_
      refine T_skipG rfl rfl rfl rfl rfl ?_
      refine T_val (Ev_pickT rfl rfl) rfl ?_
      refine T_val (Ev_move rfl) rfl ?_
      refine T_skipG rfl rfl rfl rfl rfl ?_
      refine T_skipG rfl rfl rfl rfl rfl ?_
      refine T_skipG rfl rfl rfl rfl rfl ?_
      refine T_val (Ev_pickT rfl rfl) rfl ?_
      refine T_nil ?_
      exact T_metP true () hx9 trivial (by exact .cons rfl (.cons rfl (.cons rfl (.cons rfl (.cons rfl (.nil)))))) (by exact .pick 0 rfl (.pick 0 rfl (.pick 0 rfl (.pick 0 rfl (.refl)))))
    · have hx10 := ite_t h8 hx7
      refine T_valG rfl rfl rfl (Ev_loadK rfl (i := 2) rfl rfl agg38) rfl ?_
      obtain ⟨r11, h12, hx13⟩ := bnd_some hx10
      refine T_xG rfl rfl rfl (Wx_callL rfl (fun w1 hw1 => lidarref06_ValidPlace_ok p1  h12 w1) rfl ?_)
      rintro _ _ hlo ⟨rfl, rfl, -⟩
      refine T_app0 ?_
      refine T_valG rfl rfl rfl (Ev_not rfl) rfl ?_
      refine T_val (Ev_pickF rfl rfl) rfl ?_
      refine T_val (Ev_move rfl) rfl ?_
      refine T_caseNB (s := 21) rfl (fun h14 => ?_) (fun h14 => ?_)
      · have hx15 := ite_bf h14 hx13
        refine T_skipG rfl rfl rfl rfl rfl ?_
        refine T_skipG rfl rfl rfl rfl rfl ?_
        refine T_skipG rfl rfl rfl rfl rfl ?_
        refine T_val (Ev_pickT rfl rfl) rfl ?_
        refine T_val (Ev_move rfl) rfl ?_
        refine T_skipG rfl rfl rfl rfl rfl ?_
        refine T_skipG rfl rfl rfl rfl rfl ?_
        refine T_skipG rfl rfl rfl rfl rfl ?_
        refine T_val (Ev_pickT rfl rfl) rfl ?_
        refine T_nil ?_
        exact T_metP true () hx15 trivial (by exact .cons rfl (.cons rfl (.cons rfl (.cons rfl (.cons rfl (.nil)))))) (by exact .pick 0 rfl (.pick 0 rfl (.pick 0 rfl (.pick 0 rfl (.refl)))))
      · have hx16 := ite_t h14 hx13
        refine T_valG rfl rfl rfl (Ev_loadK rfl (i := 1) rfl rfl agg38) rfl ?_
        obtain ⟨r17, h18, hx19⟩ := bnd_some hx16
        refine T_xG rfl rfl rfl (Wx_callL rfl (fun w1 hw1 => lidarref06_ValidPlace_ok p2  h18 w1) rfl ?_)
        rintro _ _ hlo ⟨rfl, rfl, -⟩
        refine T_app0 ?_
        refine T_valG rfl rfl rfl (Ev_not rfl) rfl ?_
        refine T_val (Ev_pickF rfl rfl) rfl ?_
        refine T_val (Ev_move rfl) rfl ?_
        refine T_caseNB (s := 26) rfl (fun h20 => ?_) (fun h20 => ?_)
        · have hx21 := ite_bf h20 hx19
          refine T_skipG rfl rfl rfl rfl rfl ?_
          refine T_skipG rfl rfl rfl rfl rfl ?_
          refine T_skipG rfl rfl rfl rfl rfl ?_
          refine T_val (Ev_pickT rfl rfl) rfl ?_
          refine T_nil ?_
          exact T_metP true () hx21 trivial (by exact .cons rfl (.cons rfl (.cons rfl (.cons rfl (.cons rfl (.nil)))))) (by exact .pick 0 rfl (.pick 0 rfl (.pick 0 rfl (.pick 0 rfl (.refl)))))
        · have hx22 := ite_t h20 hx19
          refine T_valG rfl rfl rfl (Ev_loadK rfl (i := 0) rfl rfl agg38) rfl ?_
          obtain ⟨r23, h24, hx25⟩ := bnd_some hx22
          refine T_xG rfl rfl rfl (Wx_callL rfl (fun w1 hw1 => lidarref06_ValidPlace_ok p3  h24 w1) rfl ?_)
          rintro _ _ hlo ⟨rfl, rfl, -⟩
          refine T_app0 ?_
          refine T_valG rfl rfl rfl (Ev_not rfl) rfl ?_
          refine T_val (Ev_pickF rfl rfl) rfl ?_
          refine T_nil ?_
          exact T_metP (!(r23)) () hx25 trivial (by exact .cons rfl (.cons rfl (.cons rfl (.cons rfl (.cons rfl (.nil)))))) (by exact .pick 0 rfl (.pick 0 rfl (.pick 0 rfl (.pick 0 rfl (.refl)))))
end Go.Proofs.YtlkgeeppfifeeaaGreat
