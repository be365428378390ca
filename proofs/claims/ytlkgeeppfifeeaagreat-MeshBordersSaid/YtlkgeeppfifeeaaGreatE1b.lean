/- Walks of the program, with their plain functions: the references on hulls. -/
import Derived.Test.YtlkgeeppfifeeaaGreatE1
namespace Go.Proofs.YtlkgeeppfifeeaaGreat
open Go Go.RowKit
theorem bls58_2_0i641i64 (x0 : Int) (x1 : Int) : BuildSliceOf Tryz.prog 58 2 [(0, .int .i64 x0), (1, .int .i64 x1)] 3 [.int .i64 x0, .int .i64 x1] := fun w => by kernel_rfl
noncomputable def lidarref06_between (p0 : S_api_XY) (p1 : S_api_XY) (p2 : S_api_XY) : Option Bool :=
 jn (fun (s2 : Bool) =>
 some s2)
 (fun j2 => bnd (lidarref06_Turn p0 p1 p2) fun r4 =>
 if r4 = 0 then (if (min p0.X p1.X) ≤ p2.X then (if p2.X ≤ (max p0.X p1.X) then (if (min p0.Y p1.Y) ≤ p2.Y then (j2 (decide (p2.Y ≤ (max p0.Y p1.Y))))
 else (j2 false))
 else (j2 false))
 else (j2 false))
 else (j2 false))
noncomputable def lidarref06_vertices_l4 (p0 : List S_api_Vertex) : Int → Option (Sum Int (Sum Unit Int)) := fun s25 =>
 if s25 < ((((p0).length : Nat) : Int)) then (bnd (idx p0 s25) fun x29 =>
 bnd (lidarref06_validVertex x29) fun r40 =>
 if r40 = true then (some (.inl (w64 (s25 + 1))))
 else (some (.inr (.inr (60)))))
 else (some (.inr (.inl ())))
noncomputable def lidarref06_vertices_l13 (s166 : Int) (p0 : List S_api_Vertex) : Int → Option (Sum Int (Sum Unit Int)) := fun s226 =>
 if s226 < s166 then (jn (fun (s49 : Bool) =>
 if s49 = true then (some (.inr (.inr (61))))
 else (some (.inl (w64 (s226 + 1)))))
 (fun j49 => bnd (idx p0 s166) fun x230 =>
 bnd (idx p0 s226) fun x241 =>
 if x230.X = x241.X then (bnd (idx p0 s166) fun x254 =>
 bnd (idx p0 s226) fun x265 =>
 j49 (decide (x254.Y = x265.Y)))
 else (j49 false)))
 else (some (.inr (.inl ())))
noncomputable def lidarref06_vertices_l10 (p0 : List S_api_Vertex) : Int → Option (Sum Int (Sum Unit Int)) := fun s166 =>
 if s166 < ((((p0).length : Nat) : Int)) then (jn (fun (s38 : Unit) =>
 some (.inl (w64 (s166 + 1))))
 (fun j38 => bnd (lfix (lidarref06_vertices_l13 s166 p0) 0) fun t226 =>
 (match t226 with
 | (.inl z226) => j38 z226
 | (.inr (z226)) => some (.inr (.inr (z226)))
 )))
 else (some (.inr (.inl ())))
noncomputable def lidarref06_vertices (p0 : List S_api_Vertex) : Option Int :=
 if 1024 < ((((p0).length : Nat) : Int)) then (some 2)
 else (jn (fun (s5 : Unit) =>
 jn (fun (s19 : Unit) =>
 some 0)
 (fun j19 => bnd (lfix (lidarref06_vertices_l10 p0) 0) fun t166 =>
 (match t166 with
 | (.inl z166) => j19 z166
 | (.inr (z166)) => some z166
 )))
 (fun j5 => bnd (lfix (lidarref06_vertices_l4 p0) 0) fun t25 =>
 (match t25 with
 | (.inl z25) => j5 z25
 | (.inr (z25)) => some z25
 )))
noncomputable def lidarref06_first_l3 (p0 : List S_api_Vertex) : (Int × Int) → Option (Sum (Int × Int) Int) := fun s41 =>
 if s41.2 < ((((p0).length : Nat) : Int)) then (jn (fun (s12 : Int) =>
 some (.inl (s12, w64 (s41.2 + 1))))
 (fun j12 => bnd (idx p0 s41.2) fun x45 =>
 bnd (idx p0 s41.1) fun x56 =>
 bnd (lidarref06_Place x45) fun r67 =>
 bnd (lidarref06_Place x56) fun r70 =>
 bnd (lidarref06_Before r67 r70) fun r73 =>
 if r73 = true then (j12 s41.2)
 else (j12 s41.1)))
 else (some (.inr s41.1))
noncomputable def lidarref06_first (p0 : List S_api_Vertex) : Option Int :=
 jn (fun (s3 : Int) =>
 some s3)
 (fun j3 => bnd (lfix (lidarref06_first_l3 p0) (0, 0)) fun t41 =>
 j3 t41)
noncomputable def lidarref06_hull_l3 (p0 : List S_api_Vertex) (p1 : Int) (p2 : Bool) : (Int × Int) → Option (Sum (Int × Int) Int) := fun s299 =>
 if s299.2 < ((((p0).length : Nat) : Int)) then (jn (fun (s19 : Int) =>
 some (.inl (s19, w64 (s299.2 + 1))))
 (fun j19 => if s299.2 = p1 then (j19 s299.1)
 else (if s299.1 < 0 then (j19 s299.2)
 else (jn (fun (s26 : Int × Int × Int × Int × Int × Int) =>
 bnd (lidarref06_Turn (⟨s26.1, s26.2.1⟩ : S_api_XY) (⟨s26.2.2.1, s26.2.2.2.1⟩ : S_api_XY) (⟨s26.2.2.2.2.1, s26.2.2.2.2.2⟩ : S_api_XY)) fun r578 =>
 jn (fun (s28 : Bool) =>
 if s28 = true then (j19 s299.2)
 else (j19 s299.1))
 (fun j28 => if r578 < 0 then (j28 true)
 else (if r578 = 0 then (bnd (lidarref06_between (⟨s26.1, s26.2.1⟩ : S_api_XY) (⟨s26.2.2.1, s26.2.2.2.1⟩ : S_api_XY) (⟨s26.2.2.2.2.1, s26.2.2.2.2.2⟩ : S_api_XY)) fun r586 =>
 j28 (!((r586) == (p2))))
 else (j28 false))))
 (fun j26 => bnd (idx p0 p1) fun x309 =>
 bnd (idx p0 s299.1) fun x320 =>
 bnd (idx p0 s299.2) fun x331 =>
 bnd (lidarref06_Place x309) fun r342 =>
 bnd (lidarref06_Place x320) fun r345 =>
 bnd (lidarref06_Place x331) fun r348 =>
 j26 (r342.X, r342.Y, r345.X, r345.Y, r348.X, r348.Y))))))
 else (some (.inr s299.1))
noncomputable def lidarref06_hull (p0 : List S_api_Vertex) (p1 : Int) (p2 : Bool) : Option Int :=
 jn (fun (s3 : Int) =>
 some s3)
 (fun j3 => bnd (lfix (lidarref06_hull_l3 p0 p1 p2) (-1, 0)) fun t299 =>
 j3 t299)
noncomputable def lidarref06_flat_l2 (p0 : List S_api_Vertex) : Int → Option (Sum Int (Sum Unit Bool)) := fun s53 =>
 if s53 < ((((p0).length : Nat) : Int)) then (bnd (idx p0 0) fun x57 =>
 bnd (idx p0 1) fun x68 =>
 bnd (idx p0 s53) fun x79 =>
 bnd (lidarref06_Place x57) fun r90 =>
 bnd (lidarref06_Place x68) fun r93 =>
 bnd (lidarref06_Place x79) fun r96 =>
 bnd (lidarref06_Turn r90 r93 r96) fun r99 =>
 if r99 = 0 then (some (.inl (w64 (s53 + 1))))
 else (some (.inr (.inr (false)))))
 else (some (.inr (.inl ())))
noncomputable def lidarref06_flat (p0 : List S_api_Vertex) : Option Bool :=
 jn (fun (s2 : Unit) =>
 some true)
 (fun j2 => bnd (lfix (lidarref06_flat_l2 p0) 2) fun t53 =>
 (match t53 with
 | (.inl z53) => j2 z53
 | (.inr (z53)) => some z53
 ))
noncomputable def lidarref06_Border_l10 (p0 : List S_api_Vertex) : (Int × Int) → Option (Sum (Int × Int) Int) := fun s58 =>
 if s58.2 < ((((p0).length : Nat) : Int)) then (jn (fun (s22 : Int) =>
 some (.inl (s22, w64 (s58.2 + 1))))
 (fun j22 => bnd (idx p0 s58.1) fun x62 =>
 bnd (idx p0 s58.2) fun x73 =>
 bnd (lidarref06_Place x62) fun r84 =>
 bnd (lidarref06_Place x73) fun r87 =>
 bnd (lidarref06_Before r84 r87) fun r90 =>
 if r90 = true then (j22 s58.2)
 else (j22 s58.1)))
 else (some (.inr s58.1))
noncomputable def lidarref06_Border_l20 (r10 : Int) (p0 : List S_api_Vertex) : ((List Int) × Int) → Option (Sum ((List Int) × Int) (List Int)) := fun s128 =>
 if s128.2 = r10 then (some (.inr s128.1))
 else (gd (((s128.1).length + 1) * 8 ≤ 140737488355328) <|
 bnd (lidarref06_hull p0 s128.2 true) fun r139 =>
 some (.inl (s128.1 ++ [s128.2], r139)))
noncomputable def lidarref06_Border (p0 : List S_api_Vertex) : Option ((List Int) × Int) :=
 bnd (lidarref06_vertices p0) fun r1 =>
 if r1 = 0 then (if ((((p0).length : Nat) : Int)) = 0 then (some (([] : List Int), 0))
 else (bnd (lidarref06_first p0) fun r10 =>
 bnd (lidarref06_flat p0) fun r13 =>
 if r13 = true then (jn (fun (s13 : Int) =>
 if s13 = r10 then (some ([r10], 0))
 else (some ([r10, s13], 0)))
 (fun j13 => bnd (lfix (lidarref06_Border_l10 p0) (r10, 0)) fun t58 =>
 j13 t58))
 else (jn (fun (s30 : List Int) =>
 some (s30, 0))
 (fun j30 => bnd (lidarref06_hull p0 r10 true) fun r111 =>
 bnd (lfix (lidarref06_Border_l20 r10 p0) ([r10], r111)) fun t128 =>
 j30 t128))))
 else (some (([] : List Int), r1))
set_option maxRecDepth 100000 in
theorem lidarref06_between_ok (p0 : S_api_XY) (p1 : S_api_XY) (p2 : S_api_XY)  {r : Bool} (hx : lidarref06_between p0 p1 p2 = some r) (w : World) : CtL Tryz.prog 56 [.agg #[.int .i64 (p0.X), .int .i64 (p0.Y)], .agg #[.int .i64 (p1.X), .int .i64 (p1.Y)], .agg #[.int .i64 (p2.X), .int .i64 (p2.Y)]] w fun v Ln => v = .bool (r) ∧ Ln = [] ∧ True := by
  refine CtL.mk 52 Tryz.func56 rfl Tryz.ntmps56 (by kernel_rfl) rfl ?_
  show T 52 _ [(0, .agg #[.int .i64 (p0.X), .int .i64 (p0.Y)]), (1, .agg #[.int .i64 (p1.X), .int .i64 (p1.Y)]), (2, .agg #[.int .i64 (p2.X), .int .i64 (p2.Y)])] _
  unfold lidarref06_between at hx
  refine T_seq ?_
  refine T_reg ?_
  refine T_x (Wx_box rfl rfl rfl (fun g1 => ?_))
  refine T_x (Wx_box rfl rfl rfl (fun g2 => ?_))
  refine T_x (Wx_box rfl rfl rfl (fun g3 => ?_))
  refine T_val (Ev_assign rfl) rfl ?_
  refine T_nil ?_
  refine T_next ?_
  obtain ⟨j2, hj2, hx⟩ := jn_some hx
  refine T_cutP (τ := Bool) (γ := Unit) (J := j2) (out := r) (fun s2 y2 => [(6, .bool (s2))]) (fun s2 y2 => [] ++ [.old w]) (fun s2 y2 => True) ?_ ?_
  · intro s2 y2 hx19 hG20
    subst hj2
    refine T_retc ?_
    obtain rfl := Option.some.inj hx19
    exact T_retP (rs := [.tmp 6]) Tryz.results56 (.tmp rfl (.nil)) (Ln := []) ⟨rfl, rfl, trivial⟩ (loNil) (by exact .refl)
  · skip
    refine T_reg ?_
    refine T_val (Ev_loadK rfl (i := 2) rfl rfl agg38) rfl ?_
    refine T_val (Ev_loadK rfl (i := 1) rfl rfl agg38) rfl ?_
    refine T_val (Ev_loadK rfl (i := 0) rfl rfl agg38) rfl ?_
    obtain ⟨r4, h5, hx6⟩ := bnd_some hx
    refine T_x (Wx_callL rfl (fun w1 hw1 => lidarref06_Turn_ok p0 p1 p2  h5 w1) rfl ?_)
    rintro _ _ hlo ⟨rfl, rfl, -⟩
    refine T_app0 ?_
    refine T_val (Ev_eql rfl rfl) rfl ?_
    refine T_val (Ev_move rfl) rfl ?_
    refine T_caseP (s := 12) rfl (fun h7 => ?_) (fun h7 => ?_)
    · have hx8 := ite_t h7 hx6
      refine T_valG rfl rfl rfl (Ev_field rfl fld38_0 rfl) rfl ?_
      refine T_valG rfl rfl rfl (Ev_load1 rfl (i := 2) rfl rfl one3) rfl ?_
      refine T_valG rfl rfl rfl (Ev_field rfl fld38_0 rfl) rfl ?_
      refine T_valG rfl rfl rfl (Ev_load1 rfl (i := 1) rfl rfl one3) rfl ?_
      refine T_valG rfl rfl rfl (Ev_min2 rfl rfl) rfl ?_
      refine T_valG rfl rfl rfl (Ev_field rfl fld38_0 rfl) rfl ?_
      refine T_valG rfl rfl rfl (Ev_load1 rfl (i := 0) rfl rfl one3) rfl ?_
      refine T_valG rfl rfl rfl (Ev_leq rfl rfl) rfl ?_
      refine T_val (Ev_pickT rfl rfl) rfl ?_
      refine T_val (Ev_move rfl) rfl ?_
      refine T_caseP (s := 22) rfl (fun h9 => ?_) (fun h9 => ?_)
      · have hx10 := ite_t h9 hx8
        refine T_valG rfl rfl rfl (Ev_field rfl fld38_0 rfl) rfl ?_
        refine T_valG rfl rfl rfl (Ev_load1 rfl (i := 0) rfl rfl one3) rfl ?_
        refine T_valG rfl rfl rfl (Ev_field rfl fld38_0 rfl) rfl ?_
        refine T_valG rfl rfl rfl (Ev_load1 rfl (i := 2) rfl rfl one3) rfl ?_
        refine T_valG rfl rfl rfl (Ev_field rfl fld38_0 rfl) rfl ?_
        refine T_valG rfl rfl rfl (Ev_load1 rfl (i := 1) rfl rfl one3) rfl ?_
        refine T_valG rfl rfl rfl (Ev_max2 rfl rfl) rfl ?_
        refine T_valG rfl rfl rfl (Ev_leq rfl rfl) rfl ?_
        refine T_val (Ev_pickT rfl rfl) rfl ?_
        refine T_val (Ev_move rfl) rfl ?_
        refine T_caseP (s := 32) rfl (fun h11 => ?_) (fun h11 => ?_)
        · have hx12 := ite_t h11 hx10
          refine T_valG rfl rfl rfl (Ev_field rfl fld38_1 rfl) rfl ?_
          refine T_valG rfl rfl rfl (Ev_load1 rfl (i := 2) rfl rfl one3) rfl ?_
          refine T_valG rfl rfl rfl (Ev_field rfl fld38_1 rfl) rfl ?_
          refine T_valG rfl rfl rfl (Ev_load1 rfl (i := 1) rfl rfl one3) rfl ?_
          refine T_valG rfl rfl rfl (Ev_min2 rfl rfl) rfl ?_
          refine T_valG rfl rfl rfl (Ev_field rfl fld38_1 rfl) rfl ?_
          refine T_valG rfl rfl rfl (Ev_load1 rfl (i := 0) rfl rfl one3) rfl ?_
          refine T_valG rfl rfl rfl (Ev_leq rfl rfl) rfl ?_
          refine T_val (Ev_pickT rfl rfl) rfl ?_
          refine T_val (Ev_move rfl) rfl ?_
          refine T_caseP (s := 42) rfl (fun h13 => ?_) (fun h13 => ?_)
          · have hx14 := ite_t h13 hx12
            refine T_valG rfl rfl rfl (Ev_field rfl fld38_1 rfl) rfl ?_
            refine T_valG rfl rfl rfl (Ev_load1 rfl (i := 0) rfl rfl one3) rfl ?_
            refine T_valG rfl rfl rfl (Ev_field rfl fld38_1 rfl) rfl ?_
            refine T_valG rfl rfl rfl (Ev_load1 rfl (i := 2) rfl rfl one3) rfl ?_
            refine T_valG rfl rfl rfl (Ev_field rfl fld38_1 rfl) rfl ?_
            refine T_valG rfl rfl rfl (Ev_load1 rfl (i := 1) rfl rfl one3) rfl ?_
            refine T_valG rfl rfl rfl (Ev_max2 rfl rfl) rfl ?_
            refine T_valG rfl rfl rfl (Ev_leq rfl rfl) rfl ?_
            refine T_val (Ev_pickT rfl rfl) rfl ?_
            refine T_val (Ev_assign rfl) rfl ?_
            refine T_nil ?_
            exact T_metP (decide (p2.Y ≤ (max p0.Y p1.Y))) () hx14 trivial (by exact .cons rfl (.nil)) (by exact .drop 0 rfl (.drop 0 rfl (.drop 0 rfl (.refl))))
          · have hx15 := ite_f h13 hx12
            refine T_skipG rfl rfl rfl rfl rfl ?_
            refine T_skipG rfl rfl rfl rfl rfl ?_
            refine T_skipG rfl rfl rfl rfl rfl ?_
            refine T_skipG rfl rfl rfl rfl rfl ?_
            refine T_skipG rfl rfl rfl rfl rfl ?_
            refine T_skipG rfl rfl rfl rfl rfl ?_
            refine T_skipG rfl rfl rfl rfl rfl ?_
            refine T_skipG rfl rfl rfl rfl rfl ?_
            refine T_val (Ev_pickF rfl rfl) rfl ?_
            refine T_val (Ev_assign rfl) rfl ?_
            refine T_nil ?_
            exact T_metP false () hx15 trivial (by exact .cons rfl (.nil)) (by exact .drop 0 rfl (.drop 0 rfl (.drop 0 rfl (.refl))))
        · have hx16 := ite_f h11 hx10
          refine T_skipG rfl rfl rfl rfl rfl ?_
          refine T_skipG rfl rfl rfl rfl rfl ?_
          refine T_skipG rfl rfl rfl rfl rfl ?_
          refine T_skipG rfl rfl rfl rfl rfl ?_
          refine T_skipG rfl rfl rfl rfl rfl ?_
          refine T_skipG rfl rfl rfl rfl rfl ?_
          refine T_skipG rfl rfl rfl rfl rfl ?_
          refine T_skipG rfl rfl rfl rfl rfl ?_
          refine T_val (Ev_pickF rfl rfl) rfl ?_
          refine T_val (Ev_move rfl) rfl ?_
          refine T_skipG rfl rfl rfl rfl rfl ?_
          refine T_skipG rfl rfl rfl rfl rfl ?_
          refine T_skipG rfl rfl rfl rfl rfl ?_
          refine T_skipG rfl rfl rfl rfl rfl ?_
          refine T_skipG rfl rfl rfl rfl rfl ?_
          refine T_skipG rfl rfl rfl rfl rfl ?_
          refine T_skipG rfl rfl rfl rfl rfl ?_
          refine T_skipG rfl rfl rfl rfl rfl ?_
          refine T_val (Ev_pickF rfl rfl) rfl ?_
          refine T_val (Ev_assign rfl) rfl ?_
          refine T_nil ?_
          exact T_metP false () hx16 trivial (by exact .cons rfl (.nil)) (by exact .drop 0 rfl (.drop 0 rfl (.drop 0 rfl (.refl))))
      · have hx17 := ite_f h9 hx8
        refine T_skipG rfl rfl rfl rfl rfl ?_
        refine T_skipG rfl rfl rfl rfl rfl ?_
        refine T_skipG rfl rfl rfl rfl rfl ?_
        refine T_skipG rfl rfl rfl rfl rfl ?_
        refine T_skipG rfl rfl rfl rfl rfl ?_
        refine T_skipG rfl rfl rfl rfl rfl ?_
        refine T_skipG rfl rfl rfl rfl rfl ?_
        refine T_skipG rfl rfl rfl rfl rfl ?_
        refine T_val (Ev_pickF rfl rfl) rfl ?_
        refine T_val (Ev_move rfl) rfl ?_
        refine T_skipG rfl rfl rfl rfl rfl ?_
        refine T_skipG rfl rfl rfl rfl rfl ?_
        refine T_skipG rfl rfl rfl rfl rfl ?_
        refine T_skipG rfl rfl rfl rfl rfl ?_
        refine T_skipG rfl rfl rfl rfl rfl ?_
        refine T_skipG rfl rfl rfl rfl rfl ?_
        refine T_skipG rfl rfl rfl rfl rfl ?_
        refine T_skipG rfl rfl rfl rfl rfl ?_
        refine T_val (Ev_pickF rfl rfl) rfl ?_
        refine T_val (Ev_move rfl) rfl ?_
        refine T_skipG rfl rfl rfl rfl rfl ?_
        refine T_skipG rfl rfl rfl rfl rfl ?_
        refine T_skipG rfl rfl rfl rfl rfl ?_
        refine T_skipG rfl rfl rfl rfl rfl ?_
        refine T_skipG rfl rfl rfl rfl rfl ?_
        refine T_skipG rfl rfl rfl rfl rfl ?_
        refine T_skipG rfl rfl rfl rfl rfl ?_
        refine T_skipG rfl rfl rfl rfl rfl ?_
        refine T_val (Ev_pickF rfl rfl) rfl ?_
        refine T_val (Ev_assign rfl) rfl ?_
        refine T_nil ?_
        exact T_metP false () hx17 trivial (by exact .cons rfl (.nil)) (by exact .drop 0 rfl (.drop 0 rfl (.drop 0 rfl (.refl))))
    · have hx18 := ite_f h7 hx6
      refine T_skipG rfl rfl rfl rfl rfl ?_
      refine T_skipG rfl rfl rfl rfl rfl ?_
      refine T_skipG rfl rfl rfl rfl rfl ?_
      refine T_skipG rfl rfl rfl rfl rfl ?_
      refine T_skipG rfl rfl rfl rfl rfl ?_
      refine T_skipG rfl rfl rfl rfl rfl ?_
      refine T_skipG rfl rfl rfl rfl rfl ?_
      refine T_skipG rfl rfl rfl rfl rfl ?_
      refine T_val (Ev_pickF rfl rfl) rfl ?_
      refine T_val (Ev_move rfl) rfl ?_
      refine T_skipG rfl rfl rfl rfl rfl ?_
      refine T_skipG rfl rfl rfl rfl rfl ?_
      refine T_skipG rfl rfl rfl rfl rfl ?_
      refine T_skipG rfl rfl rfl rfl rfl ?_
      refine T_skipG rfl rfl rfl rfl rfl ?_
      refine T_skipG rfl rfl rfl rfl rfl ?_
      refine T_skipG rfl rfl rfl rfl rfl ?_
      refine T_skipG rfl rfl rfl rfl rfl ?_
      refine T_val (Ev_pickF rfl rfl) rfl ?_
      refine T_val (Ev_move rfl) rfl ?_
      refine T_skipG rfl rfl rfl rfl rfl ?_
      refine T_skipG rfl rfl rfl rfl rfl ?_
      refine T_skipG rfl rfl rfl rfl rfl ?_
      refine T_skipG rfl rfl rfl rfl rfl ?_
      refine T_skipG rfl rfl rfl rfl rfl ?_
      refine T_skipG rfl rfl rfl rfl rfl ?_
      refine T_skipG rfl rfl rfl rfl rfl ?_
      refine T_skipG rfl rfl rfl rfl rfl ?_
      refine T_val (Ev_pickF rfl rfl) rfl ?_
      refine T_val (Ev_move rfl) rfl ?_
      refine T_skipG rfl rfl rfl rfl rfl ?_
      refine T_skipG rfl rfl rfl rfl rfl ?_
      refine T_skipG rfl rfl rfl rfl rfl ?_
      refine T_skipG rfl rfl rfl rfl rfl ?_
      refine T_skipG rfl rfl rfl rfl rfl ?_
      refine T_skipG rfl rfl rfl rfl rfl ?_
      refine T_skipG rfl rfl rfl rfl rfl ?_
      refine T_skipG rfl rfl rfl rfl rfl ?_
      refine T_val (Ev_pickF rfl rfl) rfl ?_
      refine T_val (Ev_assign rfl) rfl ?_
      refine T_nil ?_
      exact T_metP false () hx18 trivial (by exact .cons rfl (.nil)) (by exact .drop 0 rfl (.drop 0 rfl (.drop 0 rfl (.refl))))
set_option maxRecDepth 100000 in
theorem lidarref06_vertices_ok (p0 : List S_api_Vertex) {K : List Ent} {A0_0 : Option Addr} {c0_0 : Nat} (ha0 : Has K A0_0 (p0).length c0_0 4 e_api_Vertex (p0)) {r : Int} (hx : lidarref06_vertices p0 = some r) (w : World) (hK : ∀ e ∈ K, Ent.ok w e) : CtL Tryz.prog 27 [.slice (A0_0) ((p0).length) (c0_0)] w fun v Ln => v = .int .i64 (r) ∧ Ln = [] ∧ True := by
  have ha0' := Has.up0 ha0
  refine CtL.mk 56 Tryz.func27 rfl Tryz.ntmps27 (by kernel_rfl) rfl ?_
  show T 56 _ [(0, .slice (A0_0) ((p0).length) (c0_0))] _
  unfold lidarref06_vertices at hx
  refine T_seq ?_
  refine T_reg ?_
  refine T_val (Ev_assign rfl) rfl ?_
  refine T_nil ?_
  refine T_next ?_
  refine T_seq ?_
  refine T_seq ?_
  refine T_reg ?_
  refine T_val (Ev_move rfl) rfl ?_
  refine T_val (Ev_len rfl 43 Tryz.underlying22) rfl ?_
  refine T_val (Ev_gtr rfl rfl) rfl ?_
  refine T_nil ?_
  refine T_next ?_
  refine T_caseP (s := 8) rfl (fun h1 => ?_) (fun h1 => ?_)
  · have hx2 := ite_t h1 hx
    refine T_condT rfl ?_
    refine T_seq ?_
    refine T_reg ?_
    refine T_val (Ev_assign rfl) rfl ?_
    refine T_nil ?_
    refine T_next ?_
    refine T_retc ?_
    refine T_outR ?_
    obtain rfl := Option.some.inj hx2
    exact T_retP (rs := [.tmp 2]) Tryz.results27 (.tmp rfl (.nil)) (Ln := []) ⟨rfl, rfl, trivial⟩ (loNil) (by exact .refl)
  · have hx3 := ite_f h1 hx
    refine T_condF rfl ?_
    refine T_skip ?_
    refine T_next ?_
    obtain ⟨j5, hj5, hx3⟩ := jn_some hx3
    refine T_cutP (τ := Unit) (γ := Unit) (J := j5) (out := r) (fun s5 y5 => [(0, .slice (A0_0) ((p0).length) (c0_0))]) (fun s5 y5 => [] ++ [.old w]) (fun s5 y5 => True) ?_ ?_
    · intro s5 y5 hx46 hG47
      subst hj5
      obtain ⟨j19, hj19, hx46⟩ := jn_some hx46
      refine T_cutP (τ := Unit) (γ := Unit) (J := j19) (out := r) (fun s19 y19 => []) (fun s19 y19 => [] ++ [.old w]) (fun s19 y19 => True) ?_ ?_
      · intro s19 y19 hx284 hG285
        subst hj19
        refine T_seq ?_
        refine T_reg ?_
        refine T_val (Ev_assign rfl) rfl ?_
        refine T_nil ?_
        refine T_next ?_
        refine T_retc ?_
        obtain rfl := Option.some.inj hx284
        exact T_retP (rs := [.tmp 2]) Tryz.results27 (.tmp rfl (.nil)) (Ln := []) ⟨rfl, rfl, trivial⟩ (loNil) (by exact .refl)
      · skip
        refine T_seq ?_
        refine T_reg ?_
        refine T_val (Ev_move rfl) rfl ?_
        refine T_val (Ev_len rfl 43 Tryz.underlying22) rfl ?_
        refine T_val (Ev_move rfl) rfl ?_
        refine T_nil ?_
        refine T_next ?_
        refine T_block ?_
        obtain ⟨t166, hl166, ho166⟩ := bnd_some hx46
        refine T_loopP (σ := Int) (γ := Unit) hl166 (fun s166 y166 => [(0, .slice (A0_0) ((p0).length) (c0_0)), (22, .int .i64 ((((p0).length : Nat) : Int))), (23, .int .i64 (s166))]) (fun s166 y166 => [] ++ [.old w]) (fun s166 y166 => True) () trivial (by exact .cons rfl (.cons rfl (.cons rfl (.nil)))) (by exact .refl) ?_
        intro s166 y166 hG166 x166 hx166 ht166
        unfold lidarref06_vertices_l10 at hx166
        refine T_seq ?_
        refine T_reg ?_
        refine T_val (Ev_lss rfl rfl) rfl ?_
        refine T_nil ?_
        refine T_next ?_
        refine T_seq ?_
        refine T_caseP (s := 24) rfl (fun h167 => ?_) (fun h167 => ?_)
        · have hx168 := ite_t h167 hx166
          refine T_condT rfl ?_
          refine T_skip ?_
          refine T_next ?_
          obtain ⟨j38, hj38, hx168⟩ := jn_some hx168
          refine T_cutP (τ := Unit) (γ := Unit) (J := j38) (out := x166) (fun s38 y38 => [(0, .slice (A0_0) ((p0).length) (c0_0)), (22, .int .i64 ((((p0).length : Nat) : Int))), (23, .int .i64 (s166))]) (fun s38 y38 => [] ++ [.old w]) (fun s38 y38 => True) ?_ ?_
          · intro s38 y38 hx282 hG283
            subst hj38
            refine T_reg ?_
            refine T_val (Ev_add_w64 rfl rfl) rfl ?_
            refine T_val (Ev_move rfl) rfl ?_
            refine T_nil ?_
            exact T_roundP (w64 (s166 + 1)) () hx282 trivial (by exact .cons rfl (.cons rfl (.cons rfl (.nil)))) (by exact .refl)
          · skip
            refine T_block ?_
            refine T_seq ?_
            refine T_reg ?_
            refine T_val (Ev_move rfl) rfl ?_
            refine T_val (Ev_assign rfl) rfl ?_
            refine T_nil ?_
            refine T_next ?_
            refine T_seq ?_
            refine T_reg ?_
            refine T_val (Ev_assign rfl) rfl ?_
            refine T_nil ?_
            refine T_next ?_
            refine T_block ?_
            obtain ⟨t226, hl226, ho226⟩ := bnd_some hx168
            refine T_loopP (σ := Int) (γ := Unit) hl226 (fun s226 y226 => [(0, .slice (A0_0) ((p0).length) (c0_0)), (4, .int .i64 (s166)), (5, .int .i64 (s226)), (22, .int .i64 ((((p0).length : Nat) : Int))), (23, .int .i64 (s166))]) (fun s226 y226 => [] ++ [.old w]) (fun s226 y226 => True) () trivial (by exact .cons rfl (.cons rfl (.cons rfl (.cons rfl (.cons rfl (.nil)))))) (by exact .refl) ?_
            intro s226 y226 hG226 x226 hx226 ht226
            unfold lidarref06_vertices_l13 at hx226
            refine T_seq ?_
            refine T_seq ?_
            refine T_reg ?_
            refine T_val (Ev_move rfl) rfl ?_
            refine T_val (Ev_move rfl) rfl ?_
            refine T_val (Ev_lss rfl rfl) rfl ?_
            refine T_nil ?_
            refine T_next ?_
            refine T_caseP (s := 28) rfl (fun h227 => ?_) (fun h227 => ?_)
            · have hx228 := ite_t h227 hx226
              refine T_condT rfl ?_
              refine T_skip ?_
              refine T_next ?_
              refine T_seq ?_
              refine T_block ?_
              obtain ⟨j49, hj49, hx228⟩ := jn_some hx228
              refine T_cutP (τ := Bool) (γ := Unit) (J := j49) (out := x226) (fun s49 y49 => [(0, .slice (A0_0) ((p0).length) (c0_0)), (4, .int .i64 (s166)), (5, .int .i64 (s226)), (22, .int .i64 ((((p0).length : Nat) : Int))), (23, .int .i64 (s166)), (54, .bool (s49))]) (fun s49 y49 => [] ++ [.old w]) (fun s49 y49 => True) ?_ ?_
              · intro s49 y49 hx277 hG278
                subst hj49
                refine T_caseB (s := 54) rfl (fun h279 => ?_) (fun h279 => ?_)
                · have hx280 := ite_t h279 hx277
                  refine T_condT rfl ?_
                  refine T_seq ?_
                  refine T_reg ?_
                  refine T_val (Ev_assign rfl) rfl ?_
                  refine T_nil ?_
                  refine T_next ?_
                  refine T_retc ?_
                  refine T_inR ?_
                  refine T_outR ?_
                  obtain rfl := exit_eq ht226 hx280
                  refine T_outR ?_
                  refine T_inR ?_
                  refine T_inR ?_
                  refine T_outR ?_
                  obtain rfl := exit_eq ht166 ho226
                  refine T_outR ?_
                  refine T_inR ?_
                  refine T_outR ?_
                  obtain rfl := Option.some.inj ho166
                  exact T_retP (rs := [.tmp 2]) Tryz.results27 (.tmp rfl (.nil)) (Ln := []) ⟨rfl, rfl, trivial⟩ (loNil) (by exact .refl)
                · have hx281 := ite_bf h279 hx277
                  refine T_condF rfl ?_
                  refine T_skip ?_
                  refine T_inN ?_
                  refine T_next ?_
                  refine T_reg ?_
                  refine T_val (Ev_move rfl) rfl ?_
                  refine T_val (Ev_add_w64 rfl rfl) rfl ?_
                  refine T_val (Ev_assign rfl) rfl ?_
                  refine T_nil ?_
                  exact T_roundP (w64 (s226 + 1)) () hx281 trivial (by exact .cons rfl (.cons rfl (.cons rfl (.cons rfl (.cons rfl (.nil)))))) (by exact .refl)
              · skip
                refine T_draw [0, 0, 0, 0, 1, 0, 0, 0, 0, 1, 0, 0, 0, 0, 0, 0, 1, 0, 0, 0, 0, 1, 0, 0] [[], [], [0, 1], [0, 1, 2], [0, 1, 2, 3], [], [], [5, 6], [5, 6, 7], [5, 6, 7, 8], [0, 1, 2, 3, 4, 5, 6, 7, 8, 9], [0, 1, 2, 3, 4, 5, 6, 7, 8, 9, 10], [0, 1, 2, 3, 4, 5, 6, 7, 8, 9, 10, 11], [0, 1, 2, 3, 4, 5, 6, 7, 8, 9, 10, 11], [0, 1, 2, 3, 4, 5, 6, 7, 8, 9, 10, 11, 12, 13], [0, 1, 2, 3, 4, 5, 6, 7, 8, 9, 10, 11, 12, 13, 14], [0, 1, 2, 3, 4, 5, 6, 7, 8, 9, 10, 11, 12, 13, 14, 15], [0, 1, 2, 3, 4, 5, 6, 7, 8, 9, 10, 11], [0, 1, 2, 3, 4, 5, 6, 7, 8, 9, 10, 11], [0, 1, 2, 3, 4, 5, 6, 7, 8, 9, 10, 11, 17, 18], [0, 1, 2, 3, 4, 5, 6, 7, 8, 9, 10, 11, 17, 18, 19], [0, 1, 2, 3, 4, 5, 6, 7, 8, 9, 10, 11, 17, 18, 19, 20], [0, 1, 2, 3, 4, 5, 6, 7, 8, 9, 10, 11, 12, 13, 14, 15, 16, 17, 18, 19, 20, 21], [0, 1, 2, 3, 4, 5, 6, 7, 8, 9, 10, 11, 12, 13, 14, 15, 16, 17, 18, 19, 20, 21, 22]] (.q 0 (.q 1 (.q 2 (.q 3 (.q 4 (.q 5 (.q 6 (.q 7 (.q 8 (.q 9 (.q 10 (.q 11 (.q 12 (.q 13 (.q 14 (.q 15 (.q 16 (.q 17 (.q 18 (.q 19 (.q 20 (.q 21 (.q 22 (.q 23 (.done))))))))))))))))))))))))) mixed (by kernel_rfl) (by kernel_rfl) ?_
                refine P_p rfl rfl (Ev_move rfl) rfl ?_
                refine P_p rfl rfl (Ev_move rfl) rfl ?_
                obtain ⟨x230, h231, hx232⟩ := bnd_some hx228
                have hw240 := Has.low (E := []) ha0' hK
                obtain ⟨b233, o234, j235, hA236, hj237, hl238, hp239⟩ := Has.at_idx hw240 h231
                refine P_p rfl rfl (Ev_index rfl rfl hA236 (j := j235) hj237 hl238 slc22) rfl ?_
                refine P_p rfl rfl (Ev_field rfl fld43_0 rfl) rfl ?_
                refine P_q rfl rfl (Ev_loadP1 (d := 0) rfl hp239 (SubE.cons2 (i := 0) rfl (SubE.nil)) rfl one3) rfl ?_
                refine P_p rfl rfl (Ev_move rfl) rfl ?_
                refine P_p rfl rfl (Ev_move rfl) rfl ?_
                obtain ⟨x241, h242, hx243⟩ := bnd_some hx232
                have hw251 := Has.low (E := []) ha0' hK
                obtain ⟨b244, o245, j246, hA247, hj248, hl249, hp250⟩ := Has.at_idx hw251 h242
                refine P_p rfl rfl (Ev_index rfl rfl hA247 (j := j246) hj248 hl249 slc22) rfl ?_
                refine P_p rfl rfl (Ev_field rfl fld43_0 rfl) rfl ?_
                refine P_q rfl rfl (Ev_loadP1 (d := 0) rfl hp250 (SubE.cons2 (i := 0) rfl (SubE.nil)) rfl one3) rfl ?_
                refine P_p rfl rfl (Ev_eql rfl rfl) rfl ?_
                refine P_p rfl rfl (Ev_move rfl) rfl ?_
                refine T_caseP (s := 42) rfl (fun h252 => ?_) (fun h252 => ?_)
                · have hx253 := ite_t h252 hx243
                  refine P_pG rfl rfl rfl rfl rfl (Ev_move rfl) rfl ?_
                  refine P_pG rfl rfl rfl rfl rfl (Ev_move rfl) rfl ?_
                  obtain ⟨x254, h255, hx256⟩ := bnd_some hx253
                  have hw264 := Has.low (E := []) ha0' hK
                  obtain ⟨b257, o258, j259, hA260, hj261, hl262, hp263⟩ := Has.at_idx hw264 h255
                  refine P_pG rfl rfl rfl rfl rfl (Ev_index rfl rfl hA260 (j := j259) hj261 hl262 slc22) rfl ?_
                  refine P_pG rfl rfl rfl rfl rfl (Ev_field rfl fld43_1 rfl) rfl ?_
                  refine P_qG rfl rfl rfl rfl rfl (Ev_loadP1 (d := 1) rfl hp263 (SubE.cons2 (i := 0) rfl (SubE.nil)) rfl one3) rfl ?_
                  refine P_pG rfl rfl rfl rfl rfl (Ev_move rfl) rfl ?_
                  refine P_pG rfl rfl rfl rfl rfl (Ev_move rfl) rfl ?_
                  obtain ⟨x265, h266, hx267⟩ := bnd_some hx256
                  have hw275 := Has.low (E := []) ha0' hK
                  obtain ⟨b268, o269, j270, hA271, hj272, hl273, hp274⟩ := Has.at_idx hw275 h266
                  refine P_pG rfl rfl rfl rfl rfl (Ev_index rfl rfl hA271 (j := j270) hj272 hl273 slc22) rfl ?_
                  refine P_pG rfl rfl rfl rfl rfl (Ev_field rfl fld43_1 rfl) rfl ?_
                  refine P_qG rfl rfl rfl rfl rfl (Ev_loadP1 (d := 1) rfl hp274 (SubE.cons2 (i := 0) rfl (SubE.nil)) rfl one3) rfl ?_
                  refine P_pG rfl rfl rfl rfl rfl (Ev_eql rfl rfl) rfl ?_
                  refine P_p rfl rfl (Ev_pickT rfl rfl) rfl ?_
                  refine P_done ?_
                  exact T_metP (decide (x254.Y = x265.Y)) () hx267 trivial (by exact .cons rfl (.cons rfl (.cons rfl (.cons rfl (.cons rfl (.cons rfl (.nil))))))) (by exact .refl)
                · have hx276 := ite_f h252 hx243
                  refine P_skip rfl rfl rfl rfl rfl rfl ?_
                  refine P_skip rfl rfl rfl rfl rfl rfl ?_
                  refine P_skip rfl rfl rfl rfl rfl rfl ?_
                  refine P_skip rfl rfl rfl rfl rfl rfl ?_
                  refine P_skip rfl rfl rfl rfl rfl rfl ?_
                  refine P_skip rfl rfl rfl rfl rfl rfl ?_
                  refine P_skip rfl rfl rfl rfl rfl rfl ?_
                  refine P_skip rfl rfl rfl rfl rfl rfl ?_
                  refine P_skip rfl rfl rfl rfl rfl rfl ?_
                  refine P_skip rfl rfl rfl rfl rfl rfl ?_
                  refine P_skip rfl rfl rfl rfl rfl rfl ?_
                  refine P_p rfl rfl (Ev_pickF rfl rfl) rfl ?_
                  refine P_done ?_
                  exact T_metP false () hx276 trivial (by exact .cons rfl (.cons rfl (.cons rfl (.cons rfl (.cons rfl (.cons rfl (.nil))))))) (by exact .refl)
            · have hx229 := ite_f h227 hx226
              refine T_condF rfl ?_
              refine T_exit ?_
              refine T_outX ?_
              obtain rfl := exit_eq ht226 hx229
              refine T_outX ?_
              refine T_here ?_
              refine T_inN ?_
              exact T_metP () () ho226 trivial (by exact .cons rfl (.cons rfl (.cons rfl (.nil)))) (by exact .refl)
        · have hx169 := ite_f h167 hx166
          refine T_condF rfl ?_
          refine T_exit ?_
          refine T_outX ?_
          obtain rfl := exit_eq ht166 hx169
          refine T_outX ?_
          refine T_here ?_
          exact T_metP () () ho166 trivial (by exact .nil) (by exact .refl)
    · skip
      refine T_seq ?_
      refine T_reg ?_
      refine T_val (Ev_move rfl) rfl ?_
      refine T_val (Ev_len rfl 43 Tryz.underlying22) rfl ?_
      refine T_val (Ev_move rfl) rfl ?_
      refine T_nil ?_
      refine T_next ?_
      refine T_block ?_
      obtain ⟨t25, hl25, ho25⟩ := bnd_some hx3
      refine T_loopP (σ := Int) (γ := Unit) hl25 (fun s25 y25 => [(0, .slice (A0_0) ((p0).length) (c0_0)), (10, .int .i64 ((((p0).length : Nat) : Int))), (11, .int .i64 (s25))]) (fun s25 y25 => [] ++ [.old w]) (fun s25 y25 => True) () trivial (by exact .cons rfl (.cons rfl (.cons rfl (.nil)))) (by exact .refl) ?_
      intro s25 y25 hG25 x25 hx25 ht25
      unfold lidarref06_vertices_l4 at hx25
      refine T_seq ?_
      refine T_reg ?_
      refine T_val (Ev_lss rfl rfl) rfl ?_
      refine T_nil ?_
      refine T_next ?_
      refine T_seq ?_
      refine T_caseP (s := 12) rfl (fun h26 => ?_) (fun h26 => ?_)
      · have hx27 := ite_t h26 hx25
        refine T_condT rfl ?_
        refine T_skip ?_
        refine T_next ?_
        refine T_seq ?_
        refine T_block ?_
        refine T_seq ?_
        refine T_reg ?_
        refine T_val (Ev_move rfl) rfl ?_
        refine T_val (Ev_assign rfl) rfl ?_
        refine T_nil ?_
        refine T_next ?_
        refine T_seq ?_
        refine T_reg ?_
        refine T_val (Ev_move rfl) rfl ?_
        refine T_val (Ev_move rfl) rfl ?_
        obtain ⟨x29, h30, hx31⟩ := bnd_some hx27
        have hw39 := Has.low (E := []) ha0' hK
        obtain ⟨b32, o33, j34, hA35, hj36, hl37, hp38⟩ := Has.at_idx hw39 h30
        refine T_val (Ev_index rfl rfl hA35 (j := j34) hj36 hl37 slc22) rfl ?_
        refine T_val (Ev_loadPK0 rfl hp38 (SubE.cons2 (i := 0) rfl (SubE.nil)) rfl agg43) rfl ?_
        obtain ⟨r40, h41, hx42⟩ := bnd_some hx31
        refine T_x (Wx_callL rfl (fun w1 hw1 => lidarref06_validVertex_ok x29  h41 w1) rfl ?_)
        rintro _ _ hlo ⟨rfl, rfl, -⟩
        refine T_app0 ?_
        refine T_val (Ev_not rfl) rfl ?_
        refine T_nil ?_
        refine T_next ?_
        refine T_caseNB (s := 19) rfl (fun h43 => ?_) (fun h43 => ?_)
        · have hx44 := ite_bf h43 hx42
          refine T_condT rfl ?_
          refine T_seq ?_
          refine T_reg ?_
          refine T_val (Ev_assign rfl) rfl ?_
          refine T_nil ?_
          refine T_next ?_
          refine T_retc ?_
          refine T_inR ?_
          refine T_outR ?_
          obtain rfl := exit_eq ht25 hx44
          refine T_outR ?_
          refine T_inR ?_
          refine T_outR ?_
          obtain rfl := Option.some.inj ho25
          exact T_retP (rs := [.tmp 2]) Tryz.results27 (.tmp rfl (.nil)) (Ln := []) ⟨rfl, rfl, trivial⟩ (loNil) (by exact .refl)
        · have hx45 := ite_t h43 hx42
          refine T_condF rfl ?_
          refine T_skip ?_
          refine T_inN ?_
          refine T_next ?_
          refine T_reg ?_
          refine T_val (Ev_add_w64 rfl rfl) rfl ?_
          refine T_val (Ev_move rfl) rfl ?_
          refine T_nil ?_
          exact T_roundP (w64 (s25 + 1)) () hx45 trivial (by exact .cons rfl (.cons rfl (.cons rfl (.nil)))) (by exact .refl)
      · have hx28 := ite_f h26 hx25
        refine T_condF rfl ?_
        refine T_exit ?_
        refine T_outX ?_
        obtain rfl := exit_eq ht25 hx28
        refine T_outX ?_
        refine T_here ?_
        exact T_metP () () ho25 trivial (by exact .cons rfl (.nil)) (by exact .refl)
set_option maxRecDepth 100000 in
theorem lidarref06_first_ok (p0 : List S_api_Vertex) {K : List Ent} {A0_0 : Option Addr} {c0_0 : Nat} (ha0 : Has K A0_0 (p0).length c0_0 4 e_api_Vertex (p0)) {r : Int} (hx : lidarref06_first p0 = some r) (w : World) (hK : ∀ e ∈ K, Ent.ok w e) : CtL Tryz.prog 52 [.slice (A0_0) ((p0).length) (c0_0)] w fun v Ln => v = .int .i64 (r) ∧ Ln = [] ∧ True := by
  have ha0' := Has.up0 ha0
  refine CtL.mk 24 Tryz.func52 rfl Tryz.ntmps52 (by kernel_rfl) rfl ?_
  show T 24 _ [(0, .slice (A0_0) ((p0).length) (c0_0))] _
  unfold lidarref06_first at hx
  refine T_seq ?_
  refine T_reg ?_
  refine T_val (Ev_assign rfl) rfl ?_
  refine T_nil ?_
  refine T_next ?_
  refine T_seq ?_
  refine T_reg ?_
  refine T_val (Ev_assign rfl) rfl ?_
  refine T_nil ?_
  refine T_next ?_
  obtain ⟨j3, hj3, hx⟩ := jn_some hx
  refine T_cutP (τ := Int) (γ := Unit) (J := j3) (out := r) (fun s3 y3 => [(3, .int .i64 (s3))]) (fun s3 y3 => [] ++ [.old w]) (fun s3 y3 => True) ?_ ?_
  · intro s3 y3 hx81 hG82
    subst hj3
    refine T_seq ?_
    refine T_reg ?_
    refine T_val (Ev_move rfl) rfl ?_
    refine T_val (Ev_assign rfl) rfl ?_
    refine T_nil ?_
    refine T_next ?_
    refine T_retc ?_
    obtain rfl := Option.some.inj hx81
    exact T_retP (rs := [.tmp 2]) Tryz.results52 (.tmp rfl (.nil)) (Ln := []) ⟨rfl, rfl, trivial⟩ (loNil) (by exact .refl)
  · skip
    refine T_seq ?_
    refine T_reg ?_
    refine T_val (Ev_move rfl) rfl ?_
    refine T_val (Ev_len rfl 43 Tryz.underlying22) rfl ?_
    refine T_val (Ev_move rfl) rfl ?_
    refine T_nil ?_
    refine T_next ?_
    refine T_block ?_
    obtain ⟨t41, hl41, ho41⟩ := bnd_some hx
    refine T_loopP (σ := Int × Int) (γ := Unit) hl41 (fun s41 y41 => [(0, .slice (A0_0) ((p0).length) (c0_0)), (3, .int .i64 (s41.1)), (6, .int .i64 ((((p0).length : Nat) : Int))), (7, .int .i64 (s41.2))]) (fun s41 y41 => [] ++ [.old w]) (fun s41 y41 => True) () trivial (by exact .cons rfl (.cons rfl (.cons rfl (.cons rfl (.nil))))) (by exact .refl) ?_
    intro s41 y41 hG41 x41 hx41 ht41
    unfold lidarref06_first_l3 at hx41
    refine T_seq ?_
    refine T_reg ?_
    refine T_val (Ev_lss rfl rfl) rfl ?_
    refine T_nil ?_
    refine T_next ?_
    refine T_seq ?_
    refine T_caseP (s := 8) rfl (fun h42 => ?_) (fun h42 => ?_)
    · have hx43 := ite_t h42 hx41
      refine T_condT rfl ?_
      refine T_skip ?_
      refine T_next ?_
      obtain ⟨j12, hj12, hx43⟩ := jn_some hx43
      refine T_cutP (τ := Int) (γ := Unit) (J := j12) (out := x41) (fun s12 y12 => [(0, .slice (A0_0) ((p0).length) (c0_0)), (3, .int .i64 (s12)), (6, .int .i64 ((((p0).length : Nat) : Int))), (7, .int .i64 (s41.2))]) (fun s12 y12 => [] ++ [.old w]) (fun s12 y12 => True) ?_ ?_
      · intro s12 y12 hx79 hG80
        subst hj12
        refine T_reg ?_
        refine T_val (Ev_add_w64 rfl rfl) rfl ?_
        refine T_val (Ev_move rfl) rfl ?_
        refine T_nil ?_
        exact T_roundP (s12, w64 (s41.2 + 1)) () hx79 trivial (by exact .cons rfl (.cons rfl (.cons rfl (.cons rfl (.nil))))) (by exact .refl)
      · skip
        refine T_block ?_
        refine T_seq ?_
        refine T_reg ?_
        refine T_val (Ev_move rfl) rfl ?_
        refine T_val (Ev_assign rfl) rfl ?_
        refine T_nil ?_
        refine T_next ?_
        refine T_seq ?_
        refine T_draw [0, 0, 0, 1, 2, 0, 0, 0, 1, 2, 2] [[], [], [0, 1], [0, 1, 2], [0, 1, 2, 3], [], [], [5, 6], [5, 6, 7], [0, 1, 2, 3, 4, 5, 6, 7, 8], [0, 1, 2, 3, 4, 5, 6, 7, 8, 9]] (.q 0 (.q 1 (.q 2 (.q 3 (.q 5 (.q 6 (.q 7 (.q 8 (.e 4 (.e 9 (.e 10 (.done) (.stop)) (.stop)) (.stop)))))))))) mixed (by kernel_rfl) (by kernel_rfl) ?_
        refine P_p rfl rfl (Ev_move rfl) rfl ?_
        refine P_p rfl rfl (Ev_move rfl) rfl ?_
        obtain ⟨x45, h46, hx47⟩ := bnd_some hx43
        have hw55 := Has.low (E := []) ha0' hK
        obtain ⟨b48, o49, j50, hA51, hj52, hl53, hp54⟩ := Has.at_idx hw55 h46
        refine P_p rfl rfl (Ev_index rfl rfl hA51 (j := j50) hj52 hl53 slc22) rfl ?_
        refine P_q rfl rfl (Ev_loadPK0 rfl hp54 (SubE.cons2 (i := 0) rfl (SubE.nil)) rfl agg43) rfl ?_
        refine P_p rfl rfl (Ev_move rfl) rfl ?_
        refine P_p rfl rfl (Ev_move rfl) rfl ?_
        obtain ⟨x56, h57, hx58⟩ := bnd_some hx47
        have hw66 := Has.low (E := []) ha0' hK
        obtain ⟨b59, o60, j61, hA62, hj63, hl64, hp65⟩ := Has.at_idx hw66 h57
        refine P_p rfl rfl (Ev_index rfl rfl hA62 (j := j61) hj63 hl64 slc22) rfl ?_
        refine P_q rfl rfl (Ev_loadPK0 rfl hp65 (SubE.cons2 (i := 0) rfl (SubE.nil)) rfl agg43) rfl ?_
        obtain ⟨r67, h68, hx69⟩ := bnd_some hx58
        refine P_x rfl (Wx_callL rfl (fun w1 hw1 => lidarref06_Place_ok x45  h68 w1) rfl ?_) ?_
        rotate_left; exact P_stop
        rintro _ _ hlo ⟨rfl, rfl, -⟩
        refine T_app0 ?_
        obtain ⟨r70, h71, hx72⟩ := bnd_some hx69
        refine P_x rfl (Wx_callL rfl (fun w1 hw1 => lidarref06_Place_ok x56  h71 w1) rfl ?_) ?_
        rotate_left; exact P_stop
        rintro _ _ hlo ⟨rfl, rfl, -⟩
        refine T_app0 ?_
        obtain ⟨r73, h74, hx75⟩ := bnd_some hx72
        refine P_x rfl (Wx_callL rfl (fun w1 hw1 => lidarref06_Before_ok r67 r70  h74 w1) rfl ?_) ?_
        rotate_left; exact P_stop
        rintro _ _ hlo ⟨rfl, rfl, -⟩
        refine T_app0 ?_
        refine P_done ?_
        refine T_next ?_
        refine T_caseB (s := 20) rfl (fun h76 => ?_) (fun h76 => ?_)
        · have hx77 := ite_t h76 hx75
          refine T_condT rfl ?_
          refine T_reg ?_
          refine T_val (Ev_move rfl) rfl ?_
          refine T_val (Ev_assign rfl) rfl ?_
          refine T_nil ?_
          refine T_inN ?_
          exact T_metP s41.2 () hx77 trivial (by exact .cons rfl (.cons rfl (.cons rfl (.cons rfl (.nil))))) (by exact .refl)
        · have hx78 := ite_bf h76 hx75
          refine T_condF rfl ?_
          refine T_skip ?_
          refine T_inN ?_
          exact T_metP s41.1 () hx78 trivial (by exact .cons rfl (.cons rfl (.cons rfl (.cons rfl (.nil))))) (by exact .refl)
    · have hx44 := ite_f h42 hx41
      refine T_condF rfl ?_
      refine T_exit ?_
      refine T_outX ?_
      obtain rfl := exit_eq ht41 hx44
      refine T_outX ?_
      refine T_here ?_
      exact T_metP s41.1 () ho41 trivial (by exact .cons rfl (.nil)) (by exact .refl)
set_option maxHeartbeats 1000000 in
set_option maxRecDepth 100000 in
theorem lidarref06_hull_ok (p0 : List S_api_Vertex) (p1 : Int) (p2 : Bool) {K : List Ent} {A0_0 : Option Addr} {c0_0 : Nat} (ha0 : Has K A0_0 (p0).length c0_0 4 e_api_Vertex (p0)) {r : Int} (hx : lidarref06_hull p0 p1 p2 = some r) (w : World) (hK : ∀ e ∈ K, Ent.ok w e) : CtL Tryz.prog 54 [.slice (A0_0) ((p0).length) (c0_0), .int .i64 (p1), .bool (p2)] w fun v Ln => v = .int .i64 (r) ∧ Ln = [] ∧ True := by
  have ha0' := Has.up0 ha0
  refine CtL.mk 60 Tryz.func54 rfl Tryz.ntmps54 (by kernel_rfl) rfl ?_
  show T 60 _ [(0, .slice (A0_0) ((p0).length) (c0_0)), (1, .int .i64 (p1)), (2, .bool (p2))] _
  unfold lidarref06_hull at hx
  refine T_seq ?_
  refine T_reg ?_
  refine T_val (Ev_assign rfl) rfl ?_
  refine T_nil ?_
  refine T_next ?_
  refine T_seq ?_
  refine T_reg ?_
  refine T_val (Ev_assign rfl) rfl ?_
  refine T_nil ?_
  refine T_next ?_
  obtain ⟨j3, hj3, hx⟩ := jn_some hx
  refine T_cutP (τ := Int) (γ := Unit) (J := j3) (out := r) (fun s3 y3 => [(7, .int .i64 (s3))]) (fun s3 y3 => [] ++ [.old w]) (fun s3 y3 => True) ?_ ?_
  · intro s3 y3 hx597 hG598
    subst hj3
    refine T_seq ?_
    refine T_reg ?_
    refine T_val (Ev_move rfl) rfl ?_
    refine T_val (Ev_assign rfl) rfl ?_
    refine T_nil ?_
    refine T_next ?_
    refine T_retc ?_
    obtain rfl := Option.some.inj hx597
    exact T_retP (rs := [.tmp 6]) Tryz.results54 (.tmp rfl (.nil)) (Ln := []) ⟨rfl, rfl, trivial⟩ (loNil) (by exact .refl)
  · skip
    refine T_seq ?_
    refine T_reg ?_
    refine T_val (Ev_move rfl) rfl ?_
    refine T_val (Ev_len rfl 43 Tryz.underlying22) rfl ?_
    refine T_val (Ev_move rfl) rfl ?_
    refine T_nil ?_
    refine T_next ?_
    refine T_block ?_
    obtain ⟨t299, hl299, ho299⟩ := bnd_some hx
    refine T_loopP (σ := Int × Int) (γ := Unit) hl299 (fun s299 y299 => [(0, .slice (A0_0) ((p0).length) (c0_0)), (1, .int .i64 (p1)), (2, .bool (p2)), (7, .int .i64 (s299.1)), (14, .int .i64 ((((p0).length : Nat) : Int))), (15, .int .i64 (s299.2))]) (fun s299 y299 => [] ++ [.old w]) (fun s299 y299 => True) () trivial (by exact .cons rfl (.cons rfl (.cons rfl (.cons rfl (.cons rfl (.cons rfl (.nil))))))) (by exact .refl) ?_
    intro s299 y299 hG299 x299 hx299 ht299
    unfold lidarref06_hull_l3 at hx299
    refine T_seq ?_
    refine T_reg ?_
    refine T_val (Ev_lss rfl rfl) rfl ?_
    refine T_nil ?_
    refine T_next ?_
    refine T_seq ?_
    refine T_caseP (s := 16) rfl (fun h300 => ?_) (fun h300 => ?_)
    · have hx301 := ite_t h300 hx299
      refine T_condT rfl ?_
      refine T_skip ?_
      refine T_next ?_
      obtain ⟨j19, hj19, hx301⟩ := jn_some hx301
      refine T_cutP (τ := Int) (γ := Unit) (J := j19) (out := x299) (fun s19 y19 => [(0, .slice (A0_0) ((p0).length) (c0_0)), (1, .int .i64 (p1)), (2, .bool (p2)), (7, .int .i64 (s19)), (14, .int .i64 ((((p0).length : Nat) : Int))), (15, .int .i64 (s299.2))]) (fun s19 y19 => [] ++ [.old w]) (fun s19 y19 => True) ?_ ?_
      · intro s19 y19 hx595 hG596
        subst hj19
        refine T_reg ?_
        refine T_val (Ev_add_w64 rfl rfl) rfl ?_
        refine T_val (Ev_move rfl) rfl ?_
        refine T_nil ?_
        exact T_roundP (s19, w64 (s299.2 + 1)) () hx595 trivial (by exact .cons rfl (.cons rfl (.cons rfl (.cons rfl (.cons rfl (.cons rfl (.nil))))))) (by exact .refl)
      · skip
        refine T_block ?_
        refine T_seq ?_
        refine T_reg ?_
        refine T_val (Ev_move rfl) rfl ?_
        refine T_val (Ev_assign rfl) rfl ?_
        refine T_nil ?_
        refine T_next ?_
        refine T_seq ?_
        refine T_seq ?_
        refine T_reg ?_
        refine T_val (Ev_move rfl) rfl ?_
        refine T_val (Ev_move rfl) rfl ?_
        refine T_val (Ev_eql rfl rfl) rfl ?_
        refine T_nil ?_
        refine T_next ?_
        refine T_caseP (s := 20) rfl (fun h303 => ?_) (fun h303 => ?_)
        · have hx304 := ite_t h303 hx301
          refine T_condT rfl ?_
          refine T_exit ?_
          refine T_outX ?_
          refine T_here ?_
          exact T_metP s299.1 () hx304 trivial (by exact .cons rfl (.cons rfl (.cons rfl (.cons rfl (.cons rfl (.cons rfl (.nil))))))) (by exact .refl)
        · have hx305 := ite_f h303 hx301
          refine T_condF rfl ?_
          refine T_skip ?_
          refine T_next ?_
          refine T_seq ?_
          refine T_seq ?_
          refine T_reg ?_
          refine T_val (Ev_move rfl) rfl ?_
          refine T_val (Ev_lss rfl rfl) rfl ?_
          refine T_nil ?_
          refine T_next ?_
          refine T_caseP (s := 22) rfl (fun h306 => ?_) (fun h306 => ?_)
          · have hx307 := ite_t h306 hx305
            refine T_condT rfl ?_
            refine T_seq ?_
            refine T_reg ?_
            refine T_val (Ev_move rfl) rfl ?_
            refine T_val (Ev_assign rfl) rfl ?_
            refine T_nil ?_
            refine T_next ?_
            refine T_exit ?_
            refine T_outX ?_
            refine T_here ?_
            exact T_metP s299.2 () hx307 trivial (by exact .cons rfl (.cons rfl (.cons rfl (.cons rfl (.cons rfl (.cons rfl (.nil))))))) (by exact .refl)
          · have hx308 := ite_f h306 hx305
            refine T_condF rfl ?_
            refine T_skip ?_
            refine T_next ?_
            obtain ⟨j26, hj26, hx308⟩ := jn_some hx308
            refine T_cutP (τ := Int × Int × Int × Int × Int × Int) (γ := Nat × Nat × Nat) (J := j26) (out := x299) (fun s26 y26 => [(0, .slice (A0_0) ((p0).length) (c0_0)), (1, .int .i64 (p1)), (2, .bool (p2)), (7, .int .i64 (s299.1)), (8, .int .i64 (s299.2)), (9, .pointer (some ⟨y26.1, 0, none⟩)), (10, .pointer (some ⟨y26.2.1, 0, none⟩)), (11, .pointer (some ⟨y26.2.2, 0, none⟩)), (14, .int .i64 ((((p0).length : Nat) : Int))), (15, .int .i64 (s299.2))]) (fun s26 y26 => [.m y26.2.2 38 [.int .i64 (s26.2.2.2.2.1), .int .i64 (s26.2.2.2.2.2)], .m y26.2.1 38 [.int .i64 (s26.2.2.1), .int .i64 (s26.2.2.2.1)], .m y26.1 38 [.int .i64 (s26.1), .int .i64 (s26.2.1)]] ++ [.old w]) (fun s26 y26 => True) ?_ ?_
            · intro s26 y26 hx576 hG577
              subst hj26
              refine T_seq ?_
              refine T_reg ?_
              refine T_val (Ev_loadK rfl (i := 2) rfl rfl agg38) rfl ?_
              refine T_val (Ev_loadK rfl (i := 1) rfl rfl agg38) rfl ?_
              refine T_val (Ev_loadK rfl (i := 0) rfl rfl agg38) rfl ?_
              obtain ⟨r578, h579, hx580⟩ := bnd_some hx576
              refine T_x (Wx_callL rfl (fun w1 hw1 => lidarref06_Turn_ok (⟨s26.1, s26.2.1⟩ : S_api_XY) (⟨s26.2.2.1, s26.2.2.2.1⟩ : S_api_XY) (⟨s26.2.2.2.2.1, s26.2.2.2.2.2⟩ : S_api_XY)  h579 w1) rfl ?_)
              rintro _ _ hlo ⟨rfl, rfl, -⟩
              refine T_app0 ?_
              refine T_val (Ev_assign rfl) rfl ?_
              refine T_nil ?_
              refine T_next ?_
              obtain ⟨j28, hj28, hx580⟩ := jn_some hx580
              refine T_cutP (τ := Bool) (γ := Unit) (J := j28) (out := x299) (fun s28 y28 => [(0, .slice (A0_0) ((p0).length) (c0_0)), (1, .int .i64 (p1)), (2, .bool (p2)), (7, .int .i64 (s299.1)), (8, .int .i64 (s299.2)), (14, .int .i64 ((((p0).length : Nat) : Int))), (15, .int .i64 (s299.2)), (56, .bool (s28))]) (fun s28 y28 => [] ++ [.old w]) (fun s28 y28 => True) ?_ ?_
              · intro s28 y28 hx590 hG591
                subst hj28
                refine T_caseB (s := 56) rfl (fun h592 => ?_) (fun h592 => ?_)
                · have hx593 := ite_t h592 hx590
                  refine T_condT rfl ?_
                  refine T_reg ?_
                  refine T_val (Ev_move rfl) rfl ?_
                  refine T_val (Ev_assign rfl) rfl ?_
                  refine T_nil ?_
                  refine T_inN ?_
                  exact T_metP s299.2 () hx593 trivial (by exact .cons rfl (.cons rfl (.cons rfl (.cons rfl (.cons rfl (.cons rfl (.nil))))))) (by exact .refl)
                · have hx594 := ite_bf h592 hx590
                  refine T_condF rfl ?_
                  refine T_skip ?_
                  refine T_inN ?_
                  exact T_metP s299.1 () hx594 trivial (by exact .cons rfl (.cons rfl (.cons rfl (.cons rfl (.cons rfl (.cons rfl (.nil))))))) (by exact .refl)
              · skip
                refine T_reg ?_
                refine T_val (Ev_move rfl) rfl ?_
                refine T_val (Ev_lss rfl rfl) rfl ?_
                refine T_val (Ev_move rfl) rfl ?_
                refine T_caseP (s := 45) rfl (fun h581 => ?_) (fun h581 => ?_)
                · have hx582 := ite_t h581 hx580
                  refine T_skipG rfl rfl rfl rfl rfl ?_
                  refine T_skipG rfl rfl rfl rfl rfl ?_
                  refine T_skipG rfl rfl rfl rfl rfl ?_
                  refine T_skipU rfl rfl rfl rfl ?_
                  refine T_skipU rfl rfl rfl rfl ?_
                  refine T_skipU rfl rfl rfl rfl ?_
                  refine T_skipU rfl rfl rfl rfl ?_
                  refine T_skipU rfl rfl rfl rfl ?_
                  refine T_skipU rfl rfl rfl rfl ?_
                  refine T_skipG rfl rfl rfl rfl rfl ?_
                  refine T_val (Ev_pickT rfl rfl) rfl ?_
                  refine T_nil ?_
                  exact T_metP true () hx582 trivial (by exact .cons rfl (.cons rfl (.cons rfl (.cons rfl (.cons rfl (.cons rfl (.cons rfl (.cons rfl (.nil))))))))) (by exact .drop 0 rfl (.drop 0 rfl (.drop 0 rfl (.refl))))
                · have hx583 := ite_f h581 hx580
                  refine T_valG rfl rfl rfl (Ev_move rfl) rfl ?_
                  refine T_valG rfl rfl rfl (Ev_eql rfl rfl) rfl ?_
                  refine T_valG rfl rfl rfl (Ev_move rfl) rfl ?_
                  refine T_caseP (s := 48) rfl (fun h584 => ?_) (fun h584 => ?_)
                  · have hx585 := ite_t h584 hx583
                    refine T_valG rfl rfl rfl (Ev_loadK rfl (i := 2) rfl rfl agg38) rfl ?_
                    refine T_valG rfl rfl rfl (Ev_loadK rfl (i := 1) rfl rfl agg38) rfl ?_
                    refine T_valG rfl rfl rfl (Ev_loadK rfl (i := 0) rfl rfl agg38) rfl ?_
                    obtain ⟨r586, h587, hx588⟩ := bnd_some hx585
                    refine T_xG rfl rfl rfl (Wx_callL rfl (fun w1 hw1 => lidarref06_between_ok (⟨s26.1, s26.2.1⟩ : S_api_XY) (⟨s26.2.2.1, s26.2.2.2.1⟩ : S_api_XY) (⟨s26.2.2.2.2.1, s26.2.2.2.2.2⟩ : S_api_XY)  h587 w1) rfl ?_)
                    rintro _ _ hlo ⟨rfl, rfl, -⟩
                    refine T_app0 ?_
                    refine T_valG rfl rfl rfl (Ev_move rfl) rfl ?_
                    refine T_valG rfl rfl rfl (Ev_neqB rfl rfl (by kernel_rfl)) rfl ?_
                    refine T_valG rfl rfl rfl (Ev_pickT rfl rfl) rfl ?_
                    refine T_val (Ev_pickF rfl rfl) rfl ?_
                    refine T_nil ?_
                    exact T_metP (!((r586) == (p2))) () hx588 trivial (by exact .cons rfl (.cons rfl (.cons rfl (.cons rfl (.cons rfl (.cons rfl (.cons rfl (.cons rfl (.nil))))))))) (by exact .drop 0 rfl (.drop 0 rfl (.drop 0 rfl (.refl))))
                  · have hx589 := ite_f h584 hx583
                    refine T_skipG rfl rfl rfl rfl rfl ?_
                    refine T_skipG rfl rfl rfl rfl rfl ?_
                    refine T_skipG rfl rfl rfl rfl rfl ?_
                    refine T_skipG rfl rfl rfl rfl rfl ?_
                    refine T_skipG rfl rfl rfl rfl rfl ?_
                    refine T_skipG rfl rfl rfl rfl rfl ?_
                    refine T_valG rfl rfl rfl (Ev_pickF rfl rfl) rfl ?_
                    refine T_val (Ev_pickF rfl rfl) rfl ?_
                    refine T_nil ?_
                    exact T_metP false () hx589 trivial (by exact .cons rfl (.cons rfl (.cons rfl (.cons rfl (.cons rfl (.cons rfl (.cons rfl (.cons rfl (.nil))))))))) (by exact .drop 0 rfl (.drop 0 rfl (.drop 0 rfl (.refl))))
            · skip
              obtain ⟨x309, h310, hx354⟩ := bnd_some hx308
              obtain ⟨x320, h321, hx355⟩ := bnd_some hx354
              obtain ⟨x331, h332, hx356⟩ := bnd_some hx355
              obtain ⟨r342, h343, hx357⟩ := bnd_some hx356
              obtain ⟨r345, h346, hx358⟩ := bnd_some hx357
              obtain ⟨r348, h349, hx359⟩ := bnd_some hx358
              refine T_draw [0, 0, 0, 1, 2, 0, 0, 0, 1, 2, 0, 0, 0, 1, 2, 2, 2, 2, 3, 3, 3] [[], [], [0, 1], [0, 1, 2], [0, 1, 2, 3], [], [], [5, 6], [5, 6, 7], [0, 1, 2, 3, 4, 5, 6, 7, 8], [], [], [10, 11], [10, 11, 12], [0, 1, 2, 3, 4, 5, 6, 7, 8, 9, 10, 11, 12, 13], [], [], [], [0, 1, 2, 3, 4, 5, 6, 7, 8, 9, 10, 11, 12, 13, 14, 15, 16, 17], [0, 1, 2, 3, 4, 5, 6, 7, 8, 9, 10, 11, 12, 13, 14, 15, 16, 17, 18], [0, 1, 2, 3, 4, 5, 6, 7, 8, 9, 10, 11, 12, 13, 14, 15, 16, 17, 18, 19]] (.q 0 (.q 1 (.q 2 (.q 3 (.q 5 (.q 6 (.q 7 (.q 8 (.q 10 (.q 11 (.q 12 (.q 13 (.e 4 (.e 9 (.e 14 (.e 15 (.e 16 (.e 17 (.e 18 (.e 19 (.e 20 (.done) (.stop)) (.stop)) (.stop)) (.stop)) (.e 17 (.e 16 (.e 18 (.e 19 (.e 20 (.done) (.stop)) (.stop)) (.stop)) (.stop)) (.stop))) (.e 16 (.e 15 (.e 17 (.e 18 (.e 19 (.e 20 (.done) (.stop)) (.stop)) (.stop)) (.stop)) (.e 17 (.e 15 (.e 18 (.e 19 (.e 20 (.done) (.stop)) (.stop)) (.stop)) (.stop)) (.stop))) (.e 17 (.e 15 (.e 16 (.e 18 (.e 19 (.e 20 (.done) (.stop)) (.stop)) (.stop)) (.stop)) (.e 16 (.e 15 (.e 18 (.e 19 (.e 20 (.done) (.stop)) (.stop)) (.stop)) (.stop)) (.stop))) (.stop)))) (.e 15 (.e 14 (.e 16 (.e 17 (.e 18 (.e 19 (.e 20 (.done) (.stop)) (.stop)) (.stop)) (.stop)) (.e 17 (.e 16 (.e 18 (.e 19 (.e 20 (.done) (.stop)) (.stop)) (.stop)) (.stop)) (.stop))) (.e 16 (.e 14 (.e 17 (.e 18 (.e 19 (.e 20 (.done) (.stop)) (.stop)) (.stop)) (.stop)) (.e 17 (.e 14 (.e 18 (.e 19 (.e 20 (.done) (.stop)) (.stop)) (.stop)) (.stop)) (.stop))) (.e 17 (.e 14 (.e 16 (.e 18 (.e 19 (.e 20 (.done) (.stop)) (.stop)) (.stop)) (.stop)) (.e 16 (.e 14 (.e 18 (.e 19 (.e 20 (.done) (.stop)) (.stop)) (.stop)) (.stop)) (.stop))) (.stop)))) (.e 16 (.e 14 (.e 15 (.e 17 (.e 18 (.e 19 (.e 20 (.done) (.stop)) (.stop)) (.stop)) (.stop)) (.e 17 (.e 15 (.e 18 (.e 19 (.e 20 (.done) (.stop)) (.stop)) (.stop)) (.stop)) (.stop))) (.e 15 (.e 14 (.e 17 (.e 18 (.e 19 (.e 20 (.done) (.stop)) (.stop)) (.stop)) (.stop)) (.e 17 (.e 14 (.e 18 (.e 19 (.e 20 (.done) (.stop)) (.stop)) (.stop)) (.stop)) (.stop))) (.e 17 (.e 14 (.e 15 (.e 18 (.e 19 (.e 20 (.done) (.stop)) (.stop)) (.stop)) (.stop)) (.e 15 (.e 14 (.e 18 (.e 19 (.e 20 (.done) (.stop)) (.stop)) (.stop)) (.stop)) (.stop))) (.stop)))) (.e 17 (.e 14 (.e 15 (.e 16 (.e 18 (.e 19 (.e 20 (.done) (.stop)) (.stop)) (.stop)) (.stop)) (.e 16 (.e 15 (.e 18 (.e 19 (.e 20 (.done) (.stop)) (.stop)) (.stop)) (.stop)) (.stop))) (.e 15 (.e 14 (.e 16 (.e 18 (.e 19 (.e 20 (.done) (.stop)) (.stop)) (.stop)) (.stop)) (.e 16 (.e 14 (.e 18 (.e 19 (.e 20 (.done) (.stop)) (.stop)) (.stop)) (.stop)) (.stop))) (.e 16 (.e 14 (.e 15 (.e 18 (.e 19 (.e 20 (.done) (.stop)) (.stop)) (.stop)) (.stop)) (.e 15 (.e 14 (.e 18 (.e 19 (.e 20 (.done) (.stop)) (.stop)) (.stop)) (.stop)) (.stop))) (.stop)))) (.stop))))) (.e 15 (.e 9 (.e 14 (.e 16 (.e 17 (.e 18 (.e 19 (.e 20 (.done) (.stop)) (.stop)) (.stop)) (.stop)) (.e 17 (.e 16 (.e 18 (.e 19 (.e 20 (.done) (.stop)) (.stop)) (.stop)) (.stop)) (.stop))) (.e 16 (.e 14 (.e 17 (.e 18 (.e 19 (.e 20 (.done) (.stop)) (.stop)) (.stop)) (.stop)) (.e 17 (.e 14 (.e 18 (.e 19 (.e 20 (.done) (.stop)) (.stop)) (.stop)) (.stop)) (.stop))) (.e 17 (.e 14 (.e 16 (.e 18 (.e 19 (.e 20 (.done) (.stop)) (.stop)) (.stop)) (.stop)) (.e 16 (.e 14 (.e 18 (.e 19 (.e 20 (.done) (.stop)) (.stop)) (.stop)) (.stop)) (.stop))) (.stop)))) (.e 16 (.e 9 (.e 14 (.e 17 (.e 18 (.e 19 (.e 20 (.done) (.stop)) (.stop)) (.stop)) (.stop)) (.e 17 (.e 14 (.e 18 (.e 19 (.e 20 (.done) (.stop)) (.stop)) (.stop)) (.stop)) (.stop))) (.e 17 (.e 9 (.e 14 (.e 18 (.e 19 (.e 20 (.done) (.stop)) (.stop)) (.stop)) (.stop)) (.stop)) (.stop))) (.e 17 (.e 9 (.e 14 (.e 16 (.e 18 (.e 19 (.e 20 (.done) (.stop)) (.stop)) (.stop)) (.stop)) (.e 16 (.e 14 (.e 18 (.e 19 (.e 20 (.done) (.stop)) (.stop)) (.stop)) (.stop)) (.stop))) (.e 16 (.e 9 (.e 14 (.e 18 (.e 19 (.e 20 (.done) (.stop)) (.stop)) (.stop)) (.stop)) (.stop)) (.stop))) (.stop)))) (.e 16 (.e 9 (.e 14 (.e 15 (.e 17 (.e 18 (.e 19 (.e 20 (.done) (.stop)) (.stop)) (.stop)) (.stop)) (.e 17 (.e 15 (.e 18 (.e 19 (.e 20 (.done) (.stop)) (.stop)) (.stop)) (.stop)) (.stop))) (.e 15 (.e 14 (.e 17 (.e 18 (.e 19 (.e 20 (.done) (.stop)) (.stop)) (.stop)) (.stop)) (.e 17 (.e 14 (.e 18 (.e 19 (.e 20 (.done) (.stop)) (.stop)) (.stop)) (.stop)) (.stop))) (.e 17 (.e 14 (.e 15 (.e 18 (.e 19 (.e 20 (.done) (.stop)) (.stop)) (.stop)) (.stop)) (.e 15 (.e 14 (.e 18 (.e 19 (.e 20 (.done) (.stop)) (.stop)) (.stop)) (.stop)) (.stop))) (.stop)))) (.e 15 (.e 9 (.e 14 (.e 17 (.e 18 (.e 19 (.e 20 (.done) (.stop)) (.stop)) (.stop)) (.stop)) (.e 17 (.e 14 (.e 18 (.e 19 (.e 20 (.done) (.stop)) (.stop)) (.stop)) (.stop)) (.stop))) (.e 17 (.e 9 (.e 14 (.e 18 (.e 19 (.e 20 (.done) (.stop)) (.stop)) (.stop)) (.stop)) (.stop)) (.stop))) (.e 17 (.e 9 (.e 14 (.e 15 (.e 18 (.e 19 (.e 20 (.done) (.stop)) (.stop)) (.stop)) (.stop)) (.e 15 (.e 14 (.e 18 (.e 19 (.e 20 (.done) (.stop)) (.stop)) (.stop)) (.stop)) (.stop))) (.e 15 (.e 9 (.e 14 (.e 18 (.e 19 (.e 20 (.done) (.stop)) (.stop)) (.stop)) (.stop)) (.stop)) (.stop))) (.stop)))) (.e 17 (.e 9 (.e 14 (.e 15 (.e 16 (.e 18 (.e 19 (.e 20 (.done) (.stop)) (.stop)) (.stop)) (.stop)) (.e 16 (.e 15 (.e 18 (.e 19 (.e 20 (.done) (.stop)) (.stop)) (.stop)) (.stop)) (.stop))) (.e 15 (.e 14 (.e 16 (.e 18 (.e 19 (.e 20 (.done) (.stop)) (.stop)) (.stop)) (.stop)) (.e 16 (.e 14 (.e 18 (.e 19 (.e 20 (.done) (.stop)) (.stop)) (.stop)) (.stop)) (.stop))) (.e 16 (.e 14 (.e 15 (.e 18 (.e 19 (.e 20 (.done) (.stop)) (.stop)) (.stop)) (.stop)) (.e 15 (.e 14 (.e 18 (.e 19 (.e 20 (.done) (.stop)) (.stop)) (.stop)) (.stop)) (.stop))) (.stop)))) (.e 15 (.e 9 (.e 14 (.e 16 (.e 18 (.e 19 (.e 20 (.done) (.stop)) (.stop)) (.stop)) (.stop)) (.e 16 (.e 14 (.e 18 (.e 19 (.e 20 (.done) (.stop)) (.stop)) (.stop)) (.stop)) (.stop))) (.e 16 (.e 9 (.e 14 (.e 18 (.e 19 (.e 20 (.done) (.stop)) (.stop)) (.stop)) (.stop)) (.stop)) (.stop))) (.e 16 (.e 9 (.e 14 (.e 15 (.e 18 (.e 19 (.e 20 (.done) (.stop)) (.stop)) (.stop)) (.stop)) (.e 15 (.e 14 (.e 18 (.e 19 (.e 20 (.done) (.stop)) (.stop)) (.stop)) (.stop)) (.stop))) (.e 15 (.e 9 (.e 14 (.e 18 (.e 19 (.e 20 (.done) (.stop)) (.stop)) (.stop)) (.stop)) (.stop)) (.stop))) (.stop)))) (.stop))))) (.e 15 (.e 4 (.e 9 (.e 14 (.e 16 (.e 17 (.e 18 (.e 19 (.e 20 (.done) (.stop)) (.stop)) (.stop)) (.stop)) (.e 17 (.e 16 (.e 18 (.e 19 (.e 20 (.done) (.stop)) (.stop)) (.stop)) (.stop)) (.stop))) (.e 16 (.e 14 (.e 17 (.e 18 (.e 19 (.e 20 (.done) (.stop)) (.stop)) (.stop)) (.stop)) (.e 17 (.e 14 (.e 18 (.e 19 (.e 20 (.done) (.stop)) (.stop)) (.stop)) (.stop)) (.stop))) (.e 17 (.e 14 (.e 16 (.e 18 (.e 19 (.e 20 (.done) (.stop)) (.stop)) (.stop)) (.stop)) (.e 16 (.e 14 (.e 18 (.e 19 (.e 20 (.done) (.stop)) (.stop)) (.stop)) (.stop)) (.stop))) (.stop)))) (.e 16 (.e 9 (.e 14 (.e 17 (.e 18 (.e 19 (.e 20 (.done) (.stop)) (.stop)) (.stop)) (.stop)) (.e 17 (.e 14 (.e 18 (.e 19 (.e 20 (.done) (.stop)) (.stop)) (.stop)) (.stop)) (.stop))) (.e 17 (.e 9 (.e 14 (.e 18 (.e 19 (.e 20 (.done) (.stop)) (.stop)) (.stop)) (.stop)) (.stop)) (.stop))) (.e 17 (.e 9 (.e 14 (.e 16 (.e 18 (.e 19 (.e 20 (.done) (.stop)) (.stop)) (.stop)) (.stop)) (.e 16 (.e 14 (.e 18 (.e 19 (.e 20 (.done) (.stop)) (.stop)) (.stop)) (.stop)) (.stop))) (.e 16 (.e 9 (.e 14 (.e 18 (.e 19 (.e 20 (.done) (.stop)) (.stop)) (.stop)) (.stop)) (.stop)) (.stop))) (.stop)))) (.e 16 (.e 4 (.e 9 (.e 14 (.e 17 (.e 18 (.e 19 (.e 20 (.done) (.stop)) (.stop)) (.stop)) (.stop)) (.e 17 (.e 14 (.e 18 (.e 19 (.e 20 (.done) (.stop)) (.stop)) (.stop)) (.stop)) (.stop))) (.e 17 (.e 9 (.e 14 (.e 18 (.e 19 (.e 20 (.done) (.stop)) (.stop)) (.stop)) (.stop)) (.stop)) (.stop))) (.e 17 (.e 4 (.e 9 (.e 14 (.e 18 (.e 19 (.e 20 (.done) (.stop)) (.stop)) (.stop)) (.stop)) (.stop)) (.stop)) (.stop))) (.e 17 (.e 4 (.e 9 (.e 14 (.e 16 (.e 18 (.e 19 (.e 20 (.done) (.stop)) (.stop)) (.stop)) (.stop)) (.e 16 (.e 14 (.e 18 (.e 19 (.e 20 (.done) (.stop)) (.stop)) (.stop)) (.stop)) (.stop))) (.e 16 (.e 9 (.e 14 (.e 18 (.e 19 (.e 20 (.done) (.stop)) (.stop)) (.stop)) (.stop)) (.stop)) (.stop))) (.e 16 (.e 4 (.e 9 (.e 14 (.e 18 (.e 19 (.e 20 (.done) (.stop)) (.stop)) (.stop)) (.stop)) (.stop)) (.stop)) (.stop))) (.stop)))) (.e 16 (.e 4 (.e 9 (.e 14 (.e 15 (.e 17 (.e 18 (.e 19 (.e 20 (.done) (.stop)) (.stop)) (.stop)) (.stop)) (.e 17 (.e 15 (.e 18 (.e 19 (.e 20 (.done) (.stop)) (.stop)) (.stop)) (.stop)) (.stop))) (.e 15 (.e 14 (.e 17 (.e 18 (.e 19 (.e 20 (.done) (.stop)) (.stop)) (.stop)) (.stop)) (.e 17 (.e 14 (.e 18 (.e 19 (.e 20 (.done) (.stop)) (.stop)) (.stop)) (.stop)) (.stop))) (.e 17 (.e 14 (.e 15 (.e 18 (.e 19 (.e 20 (.done) (.stop)) (.stop)) (.stop)) (.stop)) (.e 15 (.e 14 (.e 18 (.e 19 (.e 20 (.done) (.stop)) (.stop)) (.stop)) (.stop)) (.stop))) (.stop)))) (.e 15 (.e 9 (.e 14 (.e 17 (.e 18 (.e 19 (.e 20 (.done) (.stop)) (.stop)) (.stop)) (.stop)) (.e 17 (.e 14 (.e 18 (.e 19 (.e 20 (.done) (.stop)) (.stop)) (.stop)) (.stop)) (.stop))) (.e 17 (.e 9 (.e 14 (.e 18 (.e 19 (.e 20 (.done) (.stop)) (.stop)) (.stop)) (.stop)) (.stop)) (.stop))) (.e 17 (.e 9 (.e 14 (.e 15 (.e 18 (.e 19 (.e 20 (.done) (.stop)) (.stop)) (.stop)) (.stop)) (.e 15 (.e 14 (.e 18 (.e 19 (.e 20 (.done) (.stop)) (.stop)) (.stop)) (.stop)) (.stop))) (.e 15 (.e 9 (.e 14 (.e 18 (.e 19 (.e 20 (.done) (.stop)) (.stop)) (.stop)) (.stop)) (.stop)) (.stop))) (.stop)))) (.e 15 (.e 4 (.e 9 (.e 14 (.e 17 (.e 18 (.e 19 (.e 20 (.done) (.stop)) (.stop)) (.stop)) (.stop)) (.e 17 (.e 14 (.e 18 (.e 19 (.e 20 (.done) (.stop)) (.stop)) (.stop)) (.stop)) (.stop))) (.e 17 (.e 9 (.e 14 (.e 18 (.e 19 (.e 20 (.done) (.stop)) (.stop)) (.stop)) (.stop)) (.stop)) (.stop))) (.e 17 (.e 4 (.e 9 (.e 14 (.e 18 (.e 19 (.e 20 (.done) (.stop)) (.stop)) (.stop)) (.stop)) (.stop)) (.stop)) (.stop))) (.e 17 (.e 4 (.e 9 (.e 14 (.e 15 (.e 18 (.e 19 (.e 20 (.done) (.stop)) (.stop)) (.stop)) (.stop)) (.e 15 (.e 14 (.e 18 (.e 19 (.e 20 (.done) (.stop)) (.stop)) (.stop)) (.stop)) (.stop))) (.e 15 (.e 9 (.e 14 (.e 18 (.e 19 (.e 20 (.done) (.stop)) (.stop)) (.stop)) (.stop)) (.stop)) (.stop))) (.e 15 (.e 4 (.e 9 (.e 14 (.e 18 (.e 19 (.e 20 (.done) (.stop)) (.stop)) (.stop)) (.stop)) (.stop)) (.stop)) (.stop))) (.stop)))) (.e 17 (.e 4 (.e 9 (.e 14 (.e 15 (.e 16 (.e 18 (.e 19 (.e 20 (.done) (.stop)) (.stop)) (.stop)) (.stop)) (.e 16 (.e 15 (.e 18 (.e 19 (.e 20 (.done) (.stop)) (.stop)) (.stop)) (.stop)) (.stop))) (.e 15 (.e 14 (.e 16 (.e 18 (.e 19 (.e 20 (.done) (.stop)) (.stop)) (.stop)) (.stop)) (.e 16 (.e 14 (.e 18 (.e 19 (.e 20 (.done) (.stop)) (.stop)) (.stop)) (.stop)) (.stop))) (.e 16 (.e 14 (.e 15 (.e 18 (.e 19 (.e 20 (.done) (.stop)) (.stop)) (.stop)) (.stop)) (.e 15 (.e 14 (.e 18 (.e 19 (.e 20 (.done) (.stop)) (.stop)) (.stop)) (.stop)) (.stop))) (.stop)))) (.e 15 (.e 9 (.e 14 (.e 16 (.e 18 (.e 19 (.e 20 (.done) (.stop)) (.stop)) (.stop)) (.stop)) (.e 16 (.e 14 (.e 18 (.e 19 (.e 20 (.done) (.stop)) (.stop)) (.stop)) (.stop)) (.stop))) (.e 16 (.e 9 (.e 14 (.e 18 (.e 19 (.e 20 (.done) (.stop)) (.stop)) (.stop)) (.stop)) (.stop)) (.stop))) (.e 16 (.e 9 (.e 14 (.e 15 (.e 18 (.e 19 (.e 20 (.done) (.stop)) (.stop)) (.stop)) (.stop)) (.e 15 (.e 14 (.e 18 (.e 19 (.e 20 (.done) (.stop)) (.stop)) (.stop)) (.stop)) (.stop))) (.e 15 (.e 9 (.e 14 (.e 18 (.e 19 (.e 20 (.done) (.stop)) (.stop)) (.stop)) (.stop)) (.stop)) (.stop))) (.stop)))) (.e 15 (.e 4 (.e 9 (.e 14 (.e 16 (.e 18 (.e 19 (.e 20 (.done) (.stop)) (.stop)) (.stop)) (.stop)) (.e 16 (.e 14 (.e 18 (.e 19 (.e 20 (.done) (.stop)) (.stop)) (.stop)) (.stop)) (.stop))) (.e 16 (.e 9 (.e 14 (.e 18 (.e 19 (.e 20 (.done) (.stop)) (.stop)) (.stop)) (.stop)) (.stop)) (.stop))) (.e 16 (.e 4 (.e 9 (.e 14 (.e 18 (.e 19 (.e 20 (.done) (.stop)) (.stop)) (.stop)) (.stop)) (.stop)) (.stop)) (.stop))) (.e 16 (.e 4 (.e 9 (.e 14 (.e 15 (.e 18 (.e 19 (.e 20 (.done) (.stop)) (.stop)) (.stop)) (.stop)) (.e 15 (.e 14 (.e 18 (.e 19 (.e 20 (.done) (.stop)) (.stop)) (.stop)) (.stop)) (.stop))) (.e 15 (.e 9 (.e 14 (.e 18 (.e 19 (.e 20 (.done) (.stop)) (.stop)) (.stop)) (.stop)) (.stop)) (.stop))) (.e 15 (.e 4 (.e 9 (.e 14 (.e 18 (.e 19 (.e 20 (.done) (.stop)) (.stop)) (.stop)) (.stop)) (.stop)) (.stop)) (.stop))) (.stop)))) (.stop))))))))))))))))) mixed (by kernel_rfl) (by kernel_rfl) ?_
              refine P_p rfl rfl (Ev_move rfl) rfl ?_
              refine P_p rfl rfl (Ev_move rfl) rfl ?_
              have hw367 := Has.low (E := []) ha0' hK
              obtain ⟨b360, o361, j362, hA363, hj364, hl365, hp366⟩ := Has.at_idx hw367 h310
              refine P_p rfl rfl (Ev_index rfl rfl hA363 (j := j362) hj364 hl365 slc22) rfl ?_
              refine P_q rfl rfl (Ev_loadPK0 rfl hp366 (SubE.cons2 (i := 0) rfl (SubE.nil)) rfl agg43) rfl ?_
              refine P_p rfl rfl (Ev_move rfl) rfl ?_
              refine P_p rfl rfl (Ev_move rfl) rfl ?_
              have hw375 := Has.low (E := []) ha0' hK
              obtain ⟨b368, o369, j370, hA371, hj372, hl373, hp374⟩ := Has.at_idx hw375 h321
              refine P_p rfl rfl (Ev_index rfl rfl hA371 (j := j370) hj372 hl373 slc22) rfl ?_
              refine P_q rfl rfl (Ev_loadPK0 rfl hp374 (SubE.cons2 (i := 0) rfl (SubE.nil)) rfl agg43) rfl ?_
              refine P_p rfl rfl (Ev_move rfl) rfl ?_
              refine P_p rfl rfl (Ev_move rfl) rfl ?_
              have hw383 := Has.low (E := []) ha0' hK
              obtain ⟨b376, o377, j378, hA379, hj380, hl381, hp382⟩ := Has.at_idx hw383 h332
              refine P_p rfl rfl (Ev_index rfl rfl hA379 (j := j378) hj380 hl381 slc22) rfl ?_
              refine P_q rfl rfl (Ev_loadPK0 rfl hp382 (SubE.cons2 (i := 0) rfl (SubE.nil)) rfl agg43) rfl ?_
              repeat'
                first
                | (with_reducible exact P_stop)
                | ((with_reducible refine P_at 4 ?_); refine P_x rfl (Wx_callL rfl (fun w1 hw1 => lidarref06_Place_ok x309  h343 w1) rfl ?_) ?_)
                | ((with_reducible refine P_at 9 ?_); refine P_x rfl (Wx_callL rfl (fun w1 hw1 => lidarref06_Place_ok x320  h346 w1) rfl ?_) ?_)
                | ((with_reducible refine P_at 14 ?_); refine P_x rfl (Wx_callL rfl (fun w1 hw1 => lidarref06_Place_ok x331  h349 w1) rfl ?_) ?_)
                | ((with_reducible refine P_at 15 ?_); refine P_x rfl (Wx_alloc zer38 rfl (fun g => ?_)) ?_)
                | ((with_reducible refine P_at 16 ?_); refine P_x rfl (Wx_alloc zer38 rfl (fun g => ?_)) ?_)
                | ((with_reducible refine P_at 17 ?_); refine P_x rfl (Wx_alloc zer38 rfl (fun g => ?_)) ?_)
                | ((with_reducible refine P_at 18 ?_); refine P_h rfl rfl (Wh_store rfl rfl rfl (.there (.there (.here))) (.put (.put (.done))) rfl (List.cons_ne_nil _ _) agg38.2 ?_) ?_)
                | ((with_reducible refine P_at 19 ?_); refine P_h rfl rfl (Wh_store rfl rfl rfl (.there (.here)) (.put (.put (.done))) rfl (List.cons_ne_nil _ _) agg38.2 ?_) ?_)
                | ((with_reducible refine P_at 20 ?_); refine P_h rfl rfl (Wh_store rfl rfl rfl (.here) (.put (.put (.done))) rfl (List.cons_ne_nil _ _) agg38.2 ?_) ?_)
                | ((with_reducible refine P_done ?_); exact T_metP (r342.X, r342.Y, r345.X, r345.Y, r348.X, r348.Y) (_, _, _) hx359 trivial (by repeat (first | exact .nil | refine .cons rfl ?_)) (by repeat (first | exact .refl | refine .pick 0 rfl ?_ | refine .pick 1 rfl ?_ | refine .pick 2 rfl ?_ | refine .pick 3 rfl ?_ | refine .pick 4 rfl ?_ | refine .pick 5 rfl ?_ | refine .pick 6 rfl ?_ | refine .pick 7 rfl ?_)))
                | ((with_reducible refine P_at 19 ?_); refine P_h rfl rfl (Wh_store rfl rfl rfl (.here) (.put (.put (.done))) rfl (List.cons_ne_nil _ _) agg38.2 ?_) ?_)
                | ((with_reducible refine P_at 20 ?_); refine P_h rfl rfl (Wh_store rfl rfl rfl (.there (.here)) (.put (.put (.done))) rfl (List.cons_ne_nil _ _) agg38.2 ?_) ?_)
                | ((with_reducible refine P_at 18 ?_); refine P_h rfl rfl (Wh_store rfl rfl rfl (.there (.here)) (.put (.put (.done))) rfl (List.cons_ne_nil _ _) agg38.2 ?_) ?_)
                | ((with_reducible refine P_at 19 ?_); refine P_h rfl rfl (Wh_store rfl rfl rfl (.there (.there (.here))) (.put (.put (.done))) rfl (List.cons_ne_nil _ _) agg38.2 ?_) ?_)
                | ((with_reducible refine P_at 18 ?_); refine P_h rfl rfl (Wh_store rfl rfl rfl (.here) (.put (.put (.done))) rfl (List.cons_ne_nil _ _) agg38.2 ?_) ?_)
                | ((with_reducible refine P_at 20 ?_); refine P_h rfl rfl (Wh_store rfl rfl rfl (.there (.there (.here))) (.put (.put (.done))) rfl (List.cons_ne_nil _ _) agg38.2 ?_) ?_)
                | (rintro _ _ hlo ⟨rfl, rfl, -⟩; refine T_app0 ?_)
    · have hx302 := ite_f h300 hx299
      refine T_condF rfl ?_
      refine T_exit ?_
      refine T_outX ?_
      obtain rfl := exit_eq ht299 hx302
      refine T_outX ?_
      refine T_here ?_
      exact T_metP s299.1 () ho299 trivial (by exact .cons rfl (.nil)) (by exact .refl)
set_option maxRecDepth 100000 in
theorem lidarref06_flat_ok (p0 : List S_api_Vertex) {K : List Ent} {A0_0 : Option Addr} {c0_0 : Nat} (ha0 : Has K A0_0 (p0).length c0_0 4 e_api_Vertex (p0)) {r : Bool} (hx : lidarref06_flat p0 = some r) (w : World) (hK : ∀ e ∈ K, Ent.ok w e) : CtL Tryz.prog 53 [.slice (A0_0) ((p0).length) (c0_0)] w fun v Ln => v = .bool (r) ∧ Ln = [] ∧ True := by
  have ha0' := Has.up0 ha0
  refine CtL.mk 25 Tryz.func53 rfl Tryz.ntmps53 (by kernel_rfl) rfl ?_
  show T 25 _ [(0, .slice (A0_0) ((p0).length) (c0_0))] _
  unfold lidarref06_flat at hx
  refine T_seq ?_
  refine T_reg ?_
  refine T_val (Ev_assign rfl) rfl ?_
  refine T_nil ?_
  refine T_next ?_
  obtain ⟨j2, hj2, hx⟩ := jn_some hx
  refine T_cutP (τ := Unit) (γ := Unit) (J := j2) (out := r) (fun s2 y2 => []) (fun s2 y2 => [] ++ [.old w]) (fun s2 y2 => True) ?_ ?_
  · intro s2 y2 hx105 hG106
    subst hj2
    refine T_seq ?_
    refine T_reg ?_
    refine T_val (Ev_assign rfl) rfl ?_
    refine T_nil ?_
    refine T_next ?_
    refine T_retc ?_
    obtain rfl := Option.some.inj hx105
    exact T_retP (rs := [.tmp 2]) Tryz.results53 (.tmp rfl (.nil)) (Ln := []) ⟨rfl, rfl, trivial⟩ (loNil) (by exact .refl)
  · skip
    refine T_seq ?_
    refine T_reg ?_
    refine T_val (Ev_assign rfl) rfl ?_
    refine T_nil ?_
    refine T_next ?_
    refine T_block ?_
    obtain ⟨t53, hl53, ho53⟩ := bnd_some hx
    refine T_loopP (σ := Int) (γ := Unit) hl53 (fun s53 y53 => [(0, .slice (A0_0) ((p0).length) (c0_0)), (3, .int .i64 (s53))]) (fun s53 y53 => [] ++ [.old w]) (fun s53 y53 => True) () trivial (by exact .cons rfl (.cons rfl (.nil))) (by exact .refl) ?_
    intro s53 y53 hG53 x53 hx53 ht53
    unfold lidarref06_flat_l2 at hx53
    refine T_seq ?_
    refine T_seq ?_
    refine T_reg ?_
    refine T_val (Ev_move rfl) rfl ?_
    refine T_val (Ev_move rfl) rfl ?_
    refine T_val (Ev_len rfl 43 Tryz.underlying22) rfl ?_
    refine T_val (Ev_lss rfl rfl) rfl ?_
    refine T_nil ?_
    refine T_next ?_
    refine T_caseP (s := 7) rfl (fun h54 => ?_) (fun h54 => ?_)
    · have hx55 := ite_t h54 hx53
      refine T_condT rfl ?_
      refine T_skip ?_
      refine T_next ?_
      refine T_seq ?_
      refine T_block ?_
      refine T_seq ?_
      refine T_draw [0, 0, 1, 2, 0, 0, 1, 2, 0, 0, 0, 1, 2, 2, 0] [[], [0], [0, 1], [0, 1, 2], [], [4], [4, 5], [0, 1, 2, 3, 4, 5, 6], [], [], [8, 9], [8, 9, 10], [0, 1, 2, 3, 4, 5, 6, 7, 8, 9, 10, 11], [0, 1, 2, 3, 4, 5, 6, 7, 8, 9, 10, 11, 12], [0, 1, 2, 3, 4, 5, 6, 7, 8, 9, 10, 11, 12, 13]] (.q 0 (.q 1 (.q 2 (.q 4 (.q 5 (.q 6 (.q 8 (.q 9 (.q 10 (.q 11 (.e 3 (.e 7 (.e 12 (.e 13 (.q 14 (.done)) (.stop)) (.stop)) (.stop)) (.stop)))))))))))) mixed (by kernel_rfl) (by kernel_rfl) ?_
      refine P_p rfl rfl (Ev_move rfl) rfl ?_
      obtain ⟨x57, h58, hx59⟩ := bnd_some hx55
      have hw67 := Has.low (E := []) ha0' hK
      obtain ⟨b60, o61, j62, hA63, hj64, hl65, hp66⟩ := Has.at_idx hw67 h58
      refine P_p rfl rfl (Ev_index rfl rfl hA63 (j := j62) hj64 hl65 slc22) rfl ?_
      refine P_q rfl rfl (Ev_loadPK0 rfl hp66 (SubE.cons2 (i := 0) rfl (SubE.nil)) rfl agg43) rfl ?_
      refine P_p rfl rfl (Ev_move rfl) rfl ?_
      obtain ⟨x68, h69, hx70⟩ := bnd_some hx59
      have hw78 := Has.low (E := []) ha0' hK
      obtain ⟨b71, o72, j73, hA74, hj75, hl76, hp77⟩ := Has.at_idx hw78 h69
      refine P_p rfl rfl (Ev_index rfl rfl hA74 (j := j73) hj75 hl76 slc22) rfl ?_
      refine P_q rfl rfl (Ev_loadPK0 rfl hp77 (SubE.cons2 (i := 0) rfl (SubE.nil)) rfl agg43) rfl ?_
      refine P_p rfl rfl (Ev_move rfl) rfl ?_
      refine P_p rfl rfl (Ev_move rfl) rfl ?_
      obtain ⟨x79, h80, hx81⟩ := bnd_some hx70
      have hw89 := Has.low (E := []) ha0' hK
      obtain ⟨b82, o83, j84, hA85, hj86, hl87, hp88⟩ := Has.at_idx hw89 h80
      refine P_p rfl rfl (Ev_index rfl rfl hA85 (j := j84) hj86 hl87 slc22) rfl ?_
      refine P_q rfl rfl (Ev_loadPK0 rfl hp88 (SubE.cons2 (i := 0) rfl (SubE.nil)) rfl agg43) rfl ?_
      obtain ⟨r90, h91, hx92⟩ := bnd_some hx81
      refine P_x rfl (Wx_callL rfl (fun w1 hw1 => lidarref06_Place_ok x57  h91 w1) rfl ?_) ?_
      rotate_left; exact P_stop
      rintro _ _ hlo ⟨rfl, rfl, -⟩
      refine T_app0 ?_
      obtain ⟨r93, h94, hx95⟩ := bnd_some hx92
      refine P_x rfl (Wx_callL rfl (fun w1 hw1 => lidarref06_Place_ok x68  h94 w1) rfl ?_) ?_
      rotate_left; exact P_stop
      rintro _ _ hlo ⟨rfl, rfl, -⟩
      refine T_app0 ?_
      obtain ⟨r96, h97, hx98⟩ := bnd_some hx95
      refine P_x rfl (Wx_callL rfl (fun w1 hw1 => lidarref06_Place_ok x79  h97 w1) rfl ?_) ?_
      rotate_left; exact P_stop
      rintro _ _ hlo ⟨rfl, rfl, -⟩
      refine T_app0 ?_
      obtain ⟨r99, h100, hx101⟩ := bnd_some hx98
      refine P_x rfl (Wx_callL rfl (fun w1 hw1 => lidarref06_Turn_ok r90 r93 r96  h100 w1) rfl ?_) ?_
      rotate_left; exact P_stop
      rintro _ _ hlo ⟨rfl, rfl, -⟩
      refine T_app0 ?_
      refine P_p rfl rfl (Ev_neq rfl rfl) rfl ?_
      refine P_done ?_
      refine T_next ?_
      refine T_caseNP (s := 24) rfl (fun h102 => ?_) (fun h102 => ?_)
      · have hx103 := ite_f h102 hx101
        refine T_condT rfl ?_
        refine T_seq ?_
        refine T_reg ?_
        refine T_val (Ev_assign rfl) rfl ?_
        refine T_nil ?_
        refine T_next ?_
        refine T_retc ?_
        refine T_inR ?_
        refine T_outR ?_
        obtain rfl := exit_eq ht53 hx103
        refine T_outR ?_
        refine T_inR ?_
        refine T_outR ?_
        obtain rfl := Option.some.inj ho53
        exact T_retP (rs := [.tmp 2]) Tryz.results53 (.tmp rfl (.nil)) (Ln := []) ⟨rfl, rfl, trivial⟩ (loNil) (by exact .refl)
      · have hx104 := ite_t h102 hx101
        refine T_condF rfl ?_
        refine T_skip ?_
        refine T_inN ?_
        refine T_next ?_
        refine T_reg ?_
        refine T_val (Ev_move rfl) rfl ?_
        refine T_val (Ev_add_w64 rfl rfl) rfl ?_
        refine T_val (Ev_assign rfl) rfl ?_
        refine T_nil ?_
        exact T_roundP (w64 (s53 + 1)) () hx104 trivial (by exact .cons rfl (.cons rfl (.nil))) (by exact .refl)
    · have hx56 := ite_f h54 hx53
      refine T_condF rfl ?_
      refine T_exit ?_
      refine T_outX ?_
      obtain rfl := exit_eq ht53 hx56
      refine T_outX ?_
      refine T_here ?_
      exact T_metP () () ho53 trivial (by exact .nil) (by exact .refl)
set_option maxRecDepth 100000 in
theorem lidarref06_Border_ok (p0 : List S_api_Vertex) {K : List Ent} {A0_0 : Option Addr} {c0_0 : Nat} (ha0 : Has K A0_0 (p0).length c0_0 4 e_api_Vertex (p0)) {r : (List Int) × Int} (hx : lidarref06_Border p0 = some r) (w : World) (hK : ∀ e ∈ K, Ent.ok w e) : CtL Tryz.prog 25 [.slice (A0_0) ((p0).length) (c0_0)] w fun v Ln => ∃ (A0 : Option Addr) (c0 : Nat), v = .tuple #[.slice (A0) ((r.1).length) (c0), .int .i64 (r.2)] ∧ Ln = [.r A0 (r.1).length c0 3 1 ((r.1).flatMap e_i64)] ∧ True := by
  have ha0' := Has.up0 ha0
  refine CtL.mk 65 Tryz.func25 rfl Tryz.ntmps25 (by kernel_rfl) rfl ?_
  show T 65 _ [(0, .slice (A0_0) ((p0).length) (c0_0))] _
  unfold lidarref06_Border at hx
  refine T_seq ?_
  refine T_reg ?_
  refine T_val (Ev_assign rfl) rfl ?_
  refine T_val (Ev_assign rfl) rfl ?_
  refine T_nil ?_
  refine T_next ?_
  refine T_seq ?_
  refine T_seq ?_
  refine T_reg ?_
  refine T_val (Ev_move rfl) rfl ?_
  obtain ⟨r1, h2, hx3⟩ := bnd_some hx
  refine T_x (Wx_callL rfl (fun w1 hw1 => lidarref06_vertices_ok p0 (Has.len' ha0') h2 w1 (okApp (K := K) (K2 := []) hK (by exact (SubE.cons2 (i := 0) rfl (SubE.nil))) (by exact (SubE.nil)) hw1)) rfl ?_)
  rintro _ _ hlo ⟨rfl, rfl, -⟩
  refine T_app0 ?_
  refine T_val (Ev_assign rfl) rfl ?_
  refine T_nil ?_
  refine T_next ?_
  refine T_seq ?_
  refine T_reg ?_
  refine T_val (Ev_move rfl) rfl ?_
  refine T_val (Ev_neq rfl rfl) rfl ?_
  refine T_nil ?_
  refine T_next ?_
  refine T_caseNP (s := 13) rfl (fun h4 => ?_) (fun h4 => ?_)
  · have hx5 := ite_f h4 hx3
    refine T_condT rfl ?_
    refine T_seq ?_
    refine T_reg ?_
    refine T_val (Ev_move rfl) rfl ?_
    refine T_val (Ev_assign rfl) rfl ?_
    refine T_val (Ev_assign rfl) rfl ?_
    refine T_nil ?_
    refine T_next ?_
    refine T_retc ?_
    refine T_outR ?_
    refine T_none 3 1 ?_
    obtain rfl := Option.some.inj hx5
    exact T_retP (rs := [.tmp 2, .tmp 3]) Tryz.results25 (.tmp rfl (.tmp rfl (.nil))) (Ln := [.r (none) (0) (0) 3 1 ((([] : List Int)).flatMap e_i64)]) ⟨none, 0, rfl, rfl, trivial⟩ (loCons rfl (loNil)) (by exact .pick 0 rfl (.refl))
  · have hx6 := ite_t h4 hx3
    refine T_condF rfl ?_
    refine T_skip ?_
    refine T_next ?_
    refine T_seq ?_
    refine T_seq ?_
    refine T_reg ?_
    refine T_val (Ev_move rfl) rfl ?_
    refine T_val (Ev_len rfl 43 Tryz.underlying22) rfl ?_
    refine T_val (Ev_eql rfl rfl) rfl ?_
    refine T_nil ?_
    refine T_next ?_
    refine T_caseP (s := 17) rfl (fun h7 => ?_) (fun h7 => ?_)
    · have hx8 := ite_t h7 hx6
      refine T_condT rfl ?_
      refine T_seq ?_
      refine T_reg ?_
      refine T_val (Ev_assign rfl) rfl ?_
      refine T_val (Ev_assign rfl) rfl ?_
      refine T_nil ?_
      refine T_next ?_
      refine T_retc ?_
      refine T_outR ?_
      refine T_none 3 1 ?_
      obtain rfl := Option.some.inj hx8
      exact T_retP (rs := [.tmp 2, .tmp 3]) Tryz.results25 (.tmp rfl (.tmp rfl (.nil))) (Ln := [.r (none) (0) (0) 3 1 ((([] : List Int)).flatMap e_i64)]) ⟨none, 0, rfl, rfl, trivial⟩ (loCons rfl (loNil)) (by exact .pick 0 rfl (.refl))
    · have hx9 := ite_f h7 hx6
      refine T_condF rfl ?_
      refine T_skip ?_
      refine T_next ?_
      refine T_seq ?_
      refine T_reg ?_
      refine T_val (Ev_move rfl) rfl ?_
      obtain ⟨r10, h11, hx12⟩ := bnd_some hx9
      refine T_x (Wx_callL rfl (fun w1 hw1 => lidarref06_first_ok p0 (Has.len' ha0') h11 w1 (okApp (K := K) (K2 := []) hK (by exact (SubE.cons2 (i := 0) rfl (SubE.nil))) (by exact (SubE.nil)) hw1)) rfl ?_)
      rintro _ _ hlo ⟨rfl, rfl, -⟩
      refine T_app0 ?_
      refine T_val (Ev_assign rfl) rfl ?_
      refine T_nil ?_
      refine T_next ?_
      refine T_seq ?_
      refine T_seq ?_
      refine T_reg ?_
      refine T_val (Ev_move rfl) rfl ?_
      obtain ⟨r13, h14, hx15⟩ := bnd_some hx12
      refine T_x (Wx_callL rfl (fun w1 hw1 => lidarref06_flat_ok p0 (Has.len' ha0') h14 w1 (okApp (K := K) (K2 := []) hK (by exact (SubE.cons2 (i := 0) rfl (SubE.nil))) (by exact (SubE.nil)) hw1)) rfl ?_)
      rintro _ _ hlo ⟨rfl, rfl, -⟩
      refine T_app0 ?_
      refine T_nil ?_
      refine T_next ?_
      refine T_caseB (s := 21) rfl (fun h16 => ?_) (fun h16 => ?_)
      · have hx17 := ite_t h16 hx15
        refine T_condT rfl ?_
        refine T_seq ?_
        refine T_reg ?_
        refine T_val (Ev_move rfl) rfl ?_
        refine T_val (Ev_assign rfl) rfl ?_
        refine T_nil ?_
        refine T_next ?_
        obtain ⟨j13, hj13, hx17⟩ := jn_some hx17
        refine T_cutP (τ := Int) (γ := Unit) (J := j13) (out := r) (fun s13 y13 => [(5, .int .i64 (r10)), (6, .int .i64 (s13))]) (fun s13 y13 => [] ++ [.old w]) (fun s13 y13 => True) ?_ ?_
        · intro s13 y13 hx98 hG99
          subst hj13
          refine T_seq ?_
          refine T_seq ?_
          refine T_reg ?_
          refine T_val (Ev_move rfl) rfl ?_
          refine T_val (Ev_move rfl) rfl ?_
          refine T_val (Ev_eql rfl rfl) rfl ?_
          refine T_nil ?_
          refine T_next ?_
          refine T_caseP (s := 43) rfl (fun h100 => ?_) (fun h100 => ?_)
          · have hx101 := ite_t h100 hx98
            refine T_condT rfl ?_
            refine T_seq ?_
            refine T_reg ?_
            refine T_val (Ev_move rfl) rfl ?_
            refine T_x (Wx_buildSlice rfl (bls58_1_0i64 _) rfl (fun g102 => ?_))
            refine T_val (Ev_assign rfl) rfl ?_
            refine T_val (Ev_assign rfl) rfl ?_
            refine T_nil ?_
            refine T_next ?_
            refine T_retc ?_
            refine T_outR ?_
            refine T_outR ?_
            refine T_mr (enc := e_i64) (sz := 1) ([r10]) (.here) rfl rfl (fun _ => rfl) (by show 1 ≤ maxLen; decide) ?_
            have hn103 : 1 = ([r10]).length := by simp [setI_len, cpy_len, List.length_append] <;> omega
            refine T_ent (.here) (e' := .r (some ⟨g102, 0, none⟩) (([r10]).length) (1) 3 1 (([r10]).flatMap e_i64)) (by first | (rw [← hn103]; done) | rfl) ?_
            refine T_slot (s := 2) (v' := .slice (some ⟨g102, 0, none⟩) (([r10]).length) (1)) rfl (by have hn104 : (1) = ([r10]).length := (by simp [setI_len, cpy_len, List.length_append] <;> omega); first | (rw [← hn104]; done) | rfl) ?_
            obtain rfl := Option.some.inj hx101
            exact T_retP (rs := [.tmp 2, .tmp 3]) Tryz.results25 (.tmp rfl (.tmp rfl (.nil))) (Ln := [.r (some ⟨g102, 0, none⟩) (([r10]).length) (1) 3 1 (([r10]).flatMap e_i64)]) ⟨(some ⟨g102, 0, none⟩), 1, rfl, rfl, trivial⟩ (loCons rfl (loNil)) (by exact .pick 0 rfl (.refl))
          · have hx105 := ite_f h100 hx98
            refine T_condF rfl ?_
            refine T_skip ?_
            refine T_next ?_
            refine T_seq ?_
            refine T_reg ?_
            refine T_val (Ev_move rfl) rfl ?_
            refine T_val (Ev_move rfl) rfl ?_
            refine T_x (Wx_buildSlice rfl (bls58_2_0i641i64 _ _) rfl (fun g106 => ?_))
            refine T_val (Ev_assign rfl) rfl ?_
            refine T_val (Ev_assign rfl) rfl ?_
            refine T_nil ?_
            refine T_next ?_
            refine T_retc ?_
            refine T_outR ?_
            refine T_mr (enc := e_i64) (sz := 1) ([r10, s13]) (.here) rfl rfl (fun _ => rfl) (by show 2 ≤ maxLen; decide) ?_
            have hn107 : 2 = ([r10, s13]).length := by simp [setI_len, cpy_len, List.length_append] <;> omega
            refine T_ent (.here) (e' := .r (some ⟨g106, 0, none⟩) (([r10, s13]).length) (2) 3 1 (([r10, s13]).flatMap e_i64)) (by first | (rw [← hn107]; done) | rfl) ?_
            refine T_slot (s := 2) (v' := .slice (some ⟨g106, 0, none⟩) (([r10, s13]).length) (2)) rfl (by have hn108 : (2) = ([r10, s13]).length := (by simp [setI_len, cpy_len, List.length_append] <;> omega); first | (rw [← hn108]; done) | rfl) ?_
            obtain rfl := Option.some.inj hx105
            exact T_retP (rs := [.tmp 2, .tmp 3]) Tryz.results25 (.tmp rfl (.tmp rfl (.nil))) (Ln := [.r (some ⟨g106, 0, none⟩) (([r10, s13]).length) (2) 3 1 (([r10, s13]).flatMap e_i64)]) ⟨(some ⟨g106, 0, none⟩), 2, rfl, rfl, trivial⟩ (loCons rfl (loNil)) (by exact .pick 0 rfl (.refl))
        · skip
          refine T_seq ?_
          refine T_reg ?_
          refine T_val (Ev_move rfl) rfl ?_
          refine T_val (Ev_len rfl 43 Tryz.underlying22) rfl ?_
          refine T_val (Ev_move rfl) rfl ?_
          refine T_nil ?_
          refine T_next ?_
          refine T_block ?_
          obtain ⟨t58, hl58, ho58⟩ := bnd_some hx17
          refine T_loopP (σ := Int × Int) (γ := Unit) hl58 (fun s58 y58 => [(0, .slice (A0_0) ((p0).length) (c0_0)), (5, .int .i64 (r10)), (6, .int .i64 (s58.1)), (24, .int .i64 ((((p0).length : Nat) : Int))), (25, .int .i64 (s58.2))]) (fun s58 y58 => [] ++ [.old w]) (fun s58 y58 => True) () trivial (by exact .cons rfl (.cons rfl (.cons rfl (.cons rfl (.cons rfl (.nil)))))) (by exact .refl) ?_
          intro s58 y58 hG58 x58 hx58 ht58
          unfold lidarref06_Border_l10 at hx58
          refine T_seq ?_
          refine T_reg ?_
          refine T_val (Ev_lss rfl rfl) rfl ?_
          refine T_nil ?_
          refine T_next ?_
          refine T_seq ?_
          refine T_caseP (s := 26) rfl (fun h59 => ?_) (fun h59 => ?_)
          · have hx60 := ite_t h59 hx58
            refine T_condT rfl ?_
            refine T_skip ?_
            refine T_next ?_
            obtain ⟨j22, hj22, hx60⟩ := jn_some hx60
            refine T_cutP (τ := Int) (γ := Unit) (J := j22) (out := x58) (fun s22 y22 => [(0, .slice (A0_0) ((p0).length) (c0_0)), (5, .int .i64 (r10)), (6, .int .i64 (s22)), (24, .int .i64 ((((p0).length : Nat) : Int))), (25, .int .i64 (s58.2))]) (fun s22 y22 => [] ++ [.old w]) (fun s22 y22 => True) ?_ ?_
            · intro s22 y22 hx96 hG97
              subst hj22
              refine T_reg ?_
              refine T_val (Ev_add_w64 rfl rfl) rfl ?_
              refine T_val (Ev_move rfl) rfl ?_
              refine T_nil ?_
              exact T_roundP (s22, w64 (s58.2 + 1)) () hx96 trivial (by exact .cons rfl (.cons rfl (.cons rfl (.cons rfl (.cons rfl (.nil)))))) (by exact .refl)
            · skip
              refine T_block ?_
              refine T_seq ?_
              refine T_reg ?_
              refine T_val (Ev_move rfl) rfl ?_
              refine T_val (Ev_assign rfl) rfl ?_
              refine T_nil ?_
              refine T_next ?_
              refine T_seq ?_
              refine T_draw [0, 0, 0, 1, 2, 0, 0, 0, 1, 2, 2] [[], [], [0, 1], [0, 1, 2], [0, 1, 2, 3], [], [], [5, 6], [5, 6, 7], [0, 1, 2, 3, 4, 5, 6, 7, 8], [0, 1, 2, 3, 4, 5, 6, 7, 8, 9]] (.q 0 (.q 1 (.q 2 (.q 3 (.q 5 (.q 6 (.q 7 (.q 8 (.e 4 (.e 9 (.e 10 (.done) (.stop)) (.stop)) (.stop)))))))))) mixed (by kernel_rfl) (by kernel_rfl) ?_
              refine P_p rfl rfl (Ev_move rfl) rfl ?_
              refine P_p rfl rfl (Ev_move rfl) rfl ?_
              obtain ⟨x62, h63, hx64⟩ := bnd_some hx60
              have hw72 := Has.low (E := []) ha0' hK
              obtain ⟨b65, o66, j67, hA68, hj69, hl70, hp71⟩ := Has.at_idx hw72 h63
              refine P_p rfl rfl (Ev_index rfl rfl hA68 (j := j67) hj69 hl70 slc22) rfl ?_
              refine P_q rfl rfl (Ev_loadPK0 rfl hp71 (SubE.cons2 (i := 0) rfl (SubE.nil)) rfl agg43) rfl ?_
              refine P_p rfl rfl (Ev_move rfl) rfl ?_
              refine P_p rfl rfl (Ev_move rfl) rfl ?_
              obtain ⟨x73, h74, hx75⟩ := bnd_some hx64
              have hw83 := Has.low (E := []) ha0' hK
              obtain ⟨b76, o77, j78, hA79, hj80, hl81, hp82⟩ := Has.at_idx hw83 h74
              refine P_p rfl rfl (Ev_index rfl rfl hA79 (j := j78) hj80 hl81 slc22) rfl ?_
              refine P_q rfl rfl (Ev_loadPK0 rfl hp82 (SubE.cons2 (i := 0) rfl (SubE.nil)) rfl agg43) rfl ?_
              obtain ⟨r84, h85, hx86⟩ := bnd_some hx75
              refine P_x rfl (Wx_callL rfl (fun w1 hw1 => lidarref06_Place_ok x62  h85 w1) rfl ?_) ?_
              rotate_left; exact P_stop
              rintro _ _ hlo ⟨rfl, rfl, -⟩
              refine T_app0 ?_
              obtain ⟨r87, h88, hx89⟩ := bnd_some hx86
              refine P_x rfl (Wx_callL rfl (fun w1 hw1 => lidarref06_Place_ok x73  h88 w1) rfl ?_) ?_
              rotate_left; exact P_stop
              rintro _ _ hlo ⟨rfl, rfl, -⟩
              refine T_app0 ?_
              obtain ⟨r90, h91, hx92⟩ := bnd_some hx89
              refine P_x rfl (Wx_callL rfl (fun w1 hw1 => lidarref06_Before_ok r84 r87  h91 w1) rfl ?_) ?_
              rotate_left; exact P_stop
              rintro _ _ hlo ⟨rfl, rfl, -⟩
              refine T_app0 ?_
              refine P_done ?_
              refine T_next ?_
              refine T_caseB (s := 38) rfl (fun h93 => ?_) (fun h93 => ?_)
              · have hx94 := ite_t h93 hx92
                refine T_condT rfl ?_
                refine T_reg ?_
                refine T_val (Ev_move rfl) rfl ?_
                refine T_val (Ev_assign rfl) rfl ?_
                refine T_nil ?_
                refine T_inN ?_
                exact T_metP s58.2 () hx94 trivial (by exact .cons rfl (.cons rfl (.cons rfl (.cons rfl (.cons rfl (.nil)))))) (by exact .refl)
              · have hx95 := ite_bf h93 hx92
                refine T_condF rfl ?_
                refine T_skip ?_
                refine T_inN ?_
                exact T_metP s58.1 () hx95 trivial (by exact .cons rfl (.cons rfl (.cons rfl (.cons rfl (.cons rfl (.nil)))))) (by exact .refl)
          · have hx61 := ite_f h59 hx58
            refine T_condF rfl ?_
            refine T_exit ?_
            refine T_outX ?_
            obtain rfl := exit_eq ht58 hx61
            refine T_outX ?_
            refine T_here ?_
            exact T_metP s58.1 () ho58 trivial (by exact .cons rfl (.cons rfl (.nil))) (by exact .refl)
      · have hx109 := ite_bf h16 hx15
        refine T_condF rfl ?_
        refine T_skip ?_
        refine T_next ?_
        refine T_seq ?_
        refine T_reg ?_
        refine T_val (Ev_move rfl) rfl ?_
        refine T_x (Wx_buildSlice rfl (bls58_1_0i64 _) rfl (fun g110 => ?_))
        refine T_val (Ev_assign rfl) rfl ?_
        refine T_nil ?_
        refine T_next ?_
        obtain ⟨j30, hj30, hx109⟩ := jn_some hx109
        refine T_cutP (τ := List Int) (γ := (Option Addr) × Nat) (J := j30) (out := r) (fun s30 y30 => [(8, .slice (y30.1) ((s30).length) (y30.2))]) (fun s30 y30 => [.r (y30.1) ((s30).length) (y30.2) 3 1 ((s30).flatMap e_i64)] ++ [.old w]) (fun s30 y30 => True) ?_ ?_
        · intro s30 y30 hx142 hG143
          subst hj30
          refine T_seq ?_
          refine T_reg ?_
          refine T_val (Ev_move rfl) rfl ?_
          refine T_val (Ev_assign rfl) rfl ?_
          refine T_val (Ev_assign rfl) rfl ?_
          refine T_nil ?_
          refine T_next ?_
          refine T_retc ?_
          obtain rfl := Option.some.inj hx142
          exact T_retP (rs := [.tmp 2, .tmp 3]) Tryz.results25 (.tmp rfl (.tmp rfl (.nil))) (Ln := [.r (y30.1) ((s30).length) (y30.2) 3 1 ((s30).flatMap e_i64)]) ⟨y30.1, y30.2, rfl, rfl, trivial⟩ (loCons rfl (loNil)) (by exact .pick 0 rfl (.refl))
        · skip
          refine T_seq ?_
          refine T_reg ?_
          refine T_val (Ev_move rfl) rfl ?_
          refine T_val (Ev_move rfl) rfl ?_
          obtain ⟨r111, h112, hx113⟩ := bnd_some hx109
          refine T_x (Wx_callL rfl (fun w1 hw1 => lidarref06_hull_ok p0 r10 true (Has.len' ha0') h112 w1 (okApp (K := K) (K2 := []) hK (by exact (SubE.cons2 (i := 1) rfl (SubE.nil))) (by exact (SubE.nil)) hw1)) rfl ?_)
          rintro _ _ hlo ⟨rfl, rfl, -⟩
          refine T_app0 ?_
          refine T_val (Ev_assign rfl) rfl ?_
          refine T_nil ?_
          refine T_next ?_
          refine T_block ?_
          refine T_mr (enc := e_i64) (sz := 1) ([r10]) (.here) rfl rfl (fun _ => rfl) (by show 1 ≤ maxLen; decide) ?_
          obtain ⟨t128, hl128, ho128⟩ := bnd_some hx113
          have hn129 : 1 = ([r10]).length := by simp [setI_len, cpy_len, List.length_append] <;> omega
          refine T_ent (.here) (e' := .r (some ⟨g110, 0, none⟩) (([r10]).length) (1) 3 1 (([r10]).flatMap e_i64)) (by first | (rw [← hn129]; done) | rfl) ?_
          refine T_slot (s := 8) (v' := .slice (some ⟨g110, 0, none⟩) (([r10]).length) (1)) rfl (by have hn130 : (1) = ([r10]).length := (by simp [setI_len, cpy_len, List.length_append] <;> omega); first | (rw [← hn130]; done) | rfl) ?_
          refine T_loopP (σ := (List Int) × Int) (γ := (Option Addr) × Nat) hl128 (fun s128 y128 => [(0, .slice (A0_0) ((p0).length) (c0_0)), (5, .int .i64 (r10)), (8, .slice (y128.1) ((s128.1).length) (y128.2)), (9, .int .i64 (s128.2))]) (fun s128 y128 => [.r (y128.1) ((s128.1).length) (y128.2) 3 1 ((s128.1).flatMap e_i64)] ++ [.old w]) (fun s128 y128 => True) (some ⟨g110, 0, none⟩, 1) trivial (by exact .cons rfl (.cons rfl (.cons rfl (.cons rfl (.nil))))) (by exact .pick 0 rfl (.refl)) ?_
          intro s128 y128 hG128 x128 hx128 ht128
          unfold lidarref06_Border_l20 at hx128
          refine T_seq ?_
          refine T_seq ?_
          refine T_reg ?_
          refine T_val (Ev_move rfl) rfl ?_
          refine T_val (Ev_move rfl) rfl ?_
          refine T_val (Ev_neq rfl rfl) rfl ?_
          refine T_nil ?_
          refine T_next ?_
          refine T_caseNP (s := 56) rfl (fun h131 => ?_) (fun h131 => ?_)
          · have hx132 := ite_f h131 hx128
            refine T_condT rfl ?_
            refine T_skip ?_
            refine T_next ?_
            refine T_seq ?_
            refine T_block ?_
            refine T_reg ?_
            refine T_val (Ev_move rfl) rfl ?_
            refine T_val (Ev_move rfl) rfl ?_
            refine T_x (Wx_buildSlice rfl (bls58_1_0i64 _) rfl (fun g134 => ?_))
            obtain ⟨h135, hx136⟩ := gd_some hx132
            refine T_h (Wh_appendP e_i64 (s128.1) [s128.2] rfl rfl rfl elm58 (fun _ => rfl) (i' := 0) rfl rfl rfl rfl h135 rfl (fun _ _ => .there (.here)) (fun _ _ => .drop .refl) (by decide) (fun A137 c138 => ?_))
            refine T_val (Ev_assign rfl) rfl ?_
            refine T_nil ?_
            refine T_inN ?_
            refine T_next ?_
            refine T_reg ?_
            refine T_val (Ev_move rfl) rfl ?_
            refine T_val (Ev_move rfl) rfl ?_
            obtain ⟨r139, h140, hx141⟩ := bnd_some hx136
            refine T_x (Wx_callL rfl (fun w1 hw1 => lidarref06_hull_ok p0 s128.2 true (Has.len' ha0') h140 w1 (okApp (K := K) (K2 := []) hK (by exact (SubE.cons2 (i := 1) rfl (SubE.nil))) (by exact (SubE.nil)) hw1)) rfl ?_)
            rintro _ _ hlo ⟨rfl, rfl, -⟩
            refine T_app0 ?_
            refine T_val (Ev_assign rfl) rfl ?_
            refine T_nil ?_
            exact T_roundP (s128.1 ++ [s128.2], r139) (A137, c138) hx141 trivial (by exact .cons rfl (.cons rfl (.cons rfl (.cons rfl (.nil))))) (by exact .pick 0 rfl (.refl))
          · have hx133 := ite_t h131 hx128
            refine T_condF rfl ?_
            refine T_exit ?_
            refine T_outX ?_
            obtain rfl := exit_eq ht128 hx133
            refine T_outX ?_
            refine T_here ?_
            exact T_metP s128.1 (y128.1, y128.2) ho128 trivial (by exact .cons rfl (.nil)) (by exact .pick 0 rfl (.refl))
end Go.Proofs.YtlkgeeppfifeeaaGreat
