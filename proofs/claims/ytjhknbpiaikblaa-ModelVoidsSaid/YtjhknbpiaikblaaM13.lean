/- Walks of the program, with their plain functions: holes, the law ModelVoids. -/
import Derived.Test.YtjhknbpiaikblaaM17
namespace Go.Proofs.Ytjhknbpiaikblaa
open Go Go.RowKit
theorem slc91 : SliceOf Try.prog 91 27 1 := .mk Try.underlying91 (show Try.prog.info? 27 = some Try.t27 from by kernel_rfl) (by kernel_rfl)
theorem bld86_0i641s (x0 : Int) (x1 : Option Addr) (x2 : Nat) (x3 : Nat) : BuildOf Try.prog 86 [(0, .int .i64 x0), (1, .slice x1 x2 x3)] [.int .i64 x0, .slice x1 x2 x3, .bool (false)] := fun w => by kernel_rfl
theorem zer86 : ZeroOf Try.prog 86 [.int .i64 (0), .slice (none) (0) (0), .bool (false)] := ⟨_, Try.zeroValue86, rfl⟩
theorem agg86 : AggOf Try.prog 86 3 := .mk Try.underlying86 rfl (show Try.prog.info? 86 = some Try.t86 from by kernel_rfl) (by kernel_rfl)
theorem fld86_2 : FieldOf Try.prog 86 2 2 := .mk Try.underlying86 rfl rfl (show Try.prog.info? 4 = some Try.t4 from by kernel_rfl) (show Try.t4.size = 1 from by kernel_rfl) rfl
theorem bls82_1_0ai64sb (x0 : Int) (x1 : Option Addr) (x2 : Nat) (x3 : Nat) (x4 : Bool) : BuildSliceOf Try.prog 82 1 [(0, .agg #[.int .i64 x0, .slice x1 x2 x3, .bool x4])] 86 [.int .i64 x0, .slice x1 x2 x3, .bool x4] := fun w => by kernel_rfl
theorem elm82 : ElemOf Try.prog 82 86 3 40 := ⟨Try.underlying82, ⟨Try.t86, .agg #[.int .i64 (0), .slice (none) (0) (0), .bool (false)], by kernel_rfl, by kernel_rfl, by kernel_rfl, by kernel_rfl, rfl⟩, by decide⟩
theorem zer23 : ZeroOf Try.prog 23 [.int .i64 (0), .int .i64 (0), .int .i64 (0), .int .i64 (0), .int .i64 (0)] := ⟨_, Try.zeroValue23, rfl⟩
theorem slc82 : SliceOf Try.prog 82 86 3 := .mk Try.underlying82 (show Try.prog.info? 86 = some Try.t86 from by kernel_rfl) (by kernel_rfl)
theorem fld86_0 : FieldOf Try.prog 86 0 0 := .mk Try.underlying86 rfl rfl (show Try.prog.info? 3 = some Try.t3 from by kernel_rfl) (show Try.t3.size = 1 from by kernel_rfl) rfl
theorem fld86_1 : FieldOf Try.prog 86 1 1 := .mk Try.underlying86 rfl rfl (show Try.prog.info? 27 = some Try.t27 from by kernel_rfl) (show Try.t27.size = 1 from by kernel_rfl) rfl
noncomputable def model_atEdge (p0 : S_api_Raster) (p1 : Int) : Option Bool :=
 gd (p0.NX ≠ 0) <|
 gd (p0.NX ≠ 0) <|
 jn (fun (s3 : Bool) =>
 some s3)
 (fun j3 => if (Int.tmod p1 p0.NX) = 0 then (j3 true)
 else (if (w64 (Int.tdiv p1 p0.NX)) = 0 then (j3 true)
 else (if (Int.tmod p1 p0.NX) = (w64 (p0.NX - 1)) then (j3 true)
 else (j3 (decide ((w64 (Int.tdiv p1 p0.NX)) = (w64 (p0.NY - 1))))))))
structure S_api_Hole where
  Name : Int
  Nodes : List Int
  Edge : Bool
def n_api_Hole (K : List Ent) (x : S_api_Hole) (ys : List Value) : Prop := ∃ (A0 : Option Addr) (c0 : Nat), ys = [.int .i64 (x.Name), .slice (A0) ((x.Nodes).length) (c0), .bool (x.Edge)] ∧ Has K A0 (x.Nodes).length c0 1 e_i64 (x.Nodes)
theorem n_api_Hole_mono {K L : List Ent} {x : S_api_Hole} {ys : List Value} (hK : SubE K L) (h : n_api_Hole K x ys) : n_api_Hole L x ys := by
  obtain ⟨A0, c0, h0, h1⟩ := h
  exact ⟨A0, c0, h0, Has.up h1 hK⟩
noncomputable def model_Voids_l5 (p0 : S_api_Grid) : ((List Int) × Int) → Option (Sum ((List Int) × Int) (List Int)) := fun s45 =>
 if s45.2 < ((((p0.Cells).length : Nat) : Int)) then (jn (fun (s15 : List Int) =>
 some (.inl (s15, w64 (s45.2 + 1))))
 (fun j15 => bnd (idx p0.Cells s45.2) fun x49 =>
 if x49.Void = true then (bnd (idx s45.1 s45.2) fun x63 =>
 j15 (setI s45.1 s45.2 1))
 else (j15 s45.1)))
 else (some (.inr s45.1))
noncomputable def model_Voids_l16 (x248 : List Int) (p0 : S_api_Grid) : (Bool × Int) → Option (Sum (Bool × Int) Bool) := fun s286 =>
 if s286.2 < ((((x248).length : Nat) : Int)) then (jn (fun (s64 : Bool) =>
 some (.inl (s64, w64 (s286.2 + 1))))
 (fun j64 => bnd (idx x248 s286.2) fun x290 =>
 if s286.1 = true then (j64 true)
 else (bnd (model_atEdge p0.Raster x290) fun r303 =>
 j64 r303)))
 else (some (.inr s286.1))
noncomputable def model_Voids_l12 (r83 : List (List Int)) (p0 : S_api_Grid) : ((List S_api_Hole) × Int) → Option (Sum ((List S_api_Hole) × Int) (List S_api_Hole)) := fun s242 =>
 if s242.2 < ((((r83).length : Nat) : Int)) then (bnd (idx r83 s242.2) fun x248 =>
 jn (fun (s56 : Bool) =>
 gd (((s242.1).length + 1) * 40 ≤ 140737488355328) <|
 some (.inl (s242.1 ++ [(⟨w64 (((((s242.1).length : Nat) : Int)) + 1), x248, s56⟩ : S_api_Hole)], w64 (s242.2 + 1))))
 (fun j56 => bnd (lfix (model_Voids_l16 x248 p0) (false, 0)) fun t286 =>
 j56 t286))
 else (some (.inr s242.1))
noncomputable def model_Voids (p0 : S_api_Grid) : Option ((List S_api_Hole) × Int) :=
 bnd (model_Valid p0) fun r2 =>
 if r2 = true then (gd ((0 : Int) ≤ ((((p0.Cells).length : Nat) : Int)) ∧ 8 * Int.toNat ((((p0.Cells).length : Nat) : Int)) ≤ 140737488355328) <|
 jn (fun (s6 : List Int) =>
 jn (fun (s19 : List S_api_Hole) =>
 some (s19, 0))
 (fun j19 => bnd (model_groups p0.Raster s6) fun r83 =>
 bnd (lfix (model_Voids_l12 r83 p0) (([] : List S_api_Hole), 0)) fun t242 =>
 j19 t242))
 (fun j6 => bnd (lfix (model_Voids_l5 p0) (List.replicate (Int.toNat ((((p0.Cells).length : Nat) : Int))) (0 : Int), 0)) fun t45 =>
 j6 t45))
 else (some (([] : List S_api_Hole), 90))
noncomputable def lidarref09_Voids_l6 (p0 : S_api_Grid) : ((List Int) × Int) → Option (Sum ((List Int) × Int) (List Int)) := fun s45 =>
 if s45.2 < ((((s45.1).length : Nat) : Int)) then (jn (fun (s15 : List Int) =>
 some (.inl (s15, w64 (s45.2 + 1))))
 (fun j15 => bnd (idx p0.Cells s45.2) fun x49 =>
 if x49.Void = true then (bnd (idx s45.1 s45.2) fun x62 =>
 j15 (setI s45.1 s45.2 1))
 else (j15 s45.1)))
 else (some (.inr s45.1))
noncomputable def lidarref09_Voids_l17 (r82 : List (List Int)) (s501 : (List S_api_Hole) × Int) (p0 : S_api_Grid) : (Bool × Int) → Option (Sum (Bool × Int) Bool) := fun s610 =>
 bnd (idx r82 s501.2) fun x611 =>
 if s610.2 < ((((x611).length : Nat) : Int)) then (jn (fun (s61 : Bool) =>
 some (.inl (s61, w64 (s610.2 + 1))))
 (fun j61 => bnd (idx r82 s501.2) fun x629 =>
 bnd (idx x629 s610.2) fun x644 =>
 gd (p0.Raster.NX ≠ 0) <|
 bnd (idx r82 s501.2) fun x656 =>
 bnd (idx x656 s610.2) fun x671 =>
 gd (p0.Raster.NX ≠ 0) <|
 if s610.1 = true then (j61 true)
 else (if (Int.tmod x644 p0.Raster.NX) = 0 then (j61 true)
 else (if (Int.tmod x644 p0.Raster.NX) = (w64 (p0.Raster.NX - 1)) then (j61 true)
 else (if (w64 (Int.tdiv x671 p0.Raster.NX)) = 0 then (j61 true)
 else (j61 (decide ((w64 (Int.tdiv x671 p0.Raster.NX)) = (w64 (p0.Raster.NY - 1))))))))))
 else (some (.inr s610.1))
noncomputable def lidarref09_Voids_l13 (r82 : List (List Int)) (p0 : S_api_Grid) : ((List S_api_Hole) × Int) → Option (Sum ((List S_api_Hole) × Int) (List S_api_Hole)) := fun s501 =>
 if s501.2 < ((((r82).length : Nat) : Int)) then (bnd (idx r82 s501.2) fun x507 =>
 jn (fun (s53 : Bool) =>
 gd (((s501.1).length + 1) * 40 ≤ 140737488355328) <|
 some (.inl (s501.1 ++ [(⟨w64 (s501.2 + 1), x507, s53⟩ : S_api_Hole)], w64 (s501.2 + 1))))
 (fun j53 => bnd (lfix (lidarref09_Voids_l17 r82 s501 p0) (false, 0)) fun t610 =>
 j53 t610))
 else (some (.inr s501.1))
noncomputable def lidarref09_Voids (p0 : S_api_Grid) : Option ((List S_api_Hole) × Int) :=
 bnd (lidarref09_Valid p0) fun r2 =>
 if r2 = true then (gd ((0 : Int) ≤ ((((p0.Cells).length : Nat) : Int)) ∧ 8 * Int.toNat ((((p0.Cells).length : Nat) : Int)) ≤ 140737488355328) <|
 jn (fun (s7 : List Int) =>
 bnd (lidarref09_groups p0.Raster s7) fun r82 =>
 jn (fun (s19 : List S_api_Hole) =>
 some (s19, 0))
 (fun j19 => bnd (lfix (lidarref09_Voids_l13 r82 p0) (([] : List S_api_Hole), 0)) fun t501 =>
 j19 t501))
 (fun j7 => bnd (lfix (lidarref09_Voids_l6 p0) (List.replicate (Int.toNat ((((p0.Cells).length : Nat) : Int))) (0 : Int), 0)) fun t45 =>
 j7 t45))
 else (some (([] : List S_api_Hole), 90))
noncomputable def lidarlaw09_ModelVoids_l8 (r11 : (List S_api_Hole) × Int) (r24 : (List S_api_Hole) × Int) : Int → Option (Sum Int (Sum Unit Bool)) := fun s172 =>
 if s172 < ((((r11.1).length : Nat) : Int)) then (jn (fun (s20 : Bool) =>
 if s20 = true then (some (.inr (.inr (false))))
 else (some (.inl (w64 (s172 + 1)))))
 (fun j20 => bnd (idx r11.1 s172) fun x176 =>
 bnd (idx r24.1 s172) fun x192 =>
 if x176.Name = x192.Name then (bnd (idx r11.1 s172) fun x211 =>
 bnd (idx r24.1 s172) fun x227 =>
 if ((x211.Edge) == (x227.Edge)) = true then (bnd (idx r11.1 s172) fun x246 =>
 bnd (idx r24.1 s172) fun x262 =>
 bnd (lidarlaw09_sameInts x246.Nodes x262.Nodes) fun r278 =>
 j20 (!(r278)))
 else (j20 true))
 else (j20 true)))
 else (some (.inr (.inl ())))
noncomputable def lidarlaw09_ModelVoids (p0 : S_api_Grid) : Option Bool :=
 bnd (lidarlaw09_heavy p0) fun r2 =>
 if r2 = true then (bnd (lidarlaw09_first) fun r7 =>
 some r7)
 else (bnd (model_Voids p0) fun r11 =>
 bnd (lidarref09_Voids p0) fun r24 =>
 jn (fun (s8 : Bool) =>
 if s8 = true then (some false)
 else (jn (fun (s10 : Unit) =>
 bnd (lidarlaw09_first) fun r288 =>
 some r288)
 (fun j10 => bnd (lfix (lidarlaw09_ModelVoids_l8 r11 r24) 0) fun t172 =>
 (match t172 with
 | (.inl z172) => j10 z172
 | (.inr (z172)) => some z172
 ))))
 (fun j8 => bnd (model_Valid p0) fun r41 =>
 bnd (lidarref09_Valid p0) fun r44 =>
 if ((r41) == (r44)) = true then (if r11.2 = r24.2 then (j8 (!(decide (((((r11.1).length : Nat) : Int)) = ((((r24.1).length : Nat) : Int))))))
 else (j8 true))
 else (j8 true)))
set_option maxRecDepth 100000 in
theorem model_atEdge_ok (p0 : S_api_Raster) (p1 : Int)  {r : Bool} (hx : model_atEdge p0 p1 = some r) (w : World) : CtL Try.prog 91 [.agg #[.int .i64 (p0.X0), .int .i64 (p0.Y0), .int .i64 (p0.Step), .int .i64 (p0.NX), .int .i64 (p0.NY)], .int .i64 (p1)] w fun v Ln => v = .bool (r) ∧ Ln = [] ∧ True := by
  refine CtL.mk 35 Try.func91 rfl Try.ntmps91 (by kernel_rfl) rfl ?_
  show T 35 _ [(0, .agg #[.int .i64 (p0.X0), .int .i64 (p0.Y0), .int .i64 (p0.Step), .int .i64 (p0.NX), .int .i64 (p0.NY)]), (1, .int .i64 (p1))] _
  unfold model_atEdge at hx
  refine T_seq ?_
  refine T_reg ?_
  refine T_x (Wx_box rfl rfl rfl (fun g1 => ?_))
  refine T_val (Ev_assign rfl) rfl ?_
  refine T_nil ?_
  refine T_next ?_
  refine T_seq ?_
  refine T_draw [0, 0, 1, 0, 0, 0, 1, 0, 2, 2] [[], [], [1], [0, 1, 2], [], [], [5], [4, 5, 6], [0, 1, 2, 3], [0, 1, 2, 3, 4, 5, 6, 7, 8]] (.q 0 (.q 1 (.q 2 (.q 3 (.q 4 (.q 5 (.q 6 (.q 7 (.e 8 (.e 9 (.done) (.stop)) (.stop)))))))))) mixed (by kernel_rfl) (by kernel_rfl) ?_
  refine P_p rfl rfl (Ev_move rfl) rfl ?_
  refine P_p rfl rfl (Ev_field rfl fld23_3 rfl) rfl ?_
  refine P_q rfl rfl (Ev_load1 rfl (i := 0) rfl rfl one3) rfl ?_
  obtain ⟨h2, hx3⟩ := gd_some hx
  refine P_p rfl rfl (Ev_rem rfl rfl h2) rfl ?_
  refine P_p rfl rfl (Ev_move rfl) rfl ?_
  refine P_p rfl rfl (Ev_field rfl fld23_3 rfl) rfl ?_
  refine P_q rfl rfl (Ev_load1 rfl (i := 0) rfl rfl one3) rfl ?_
  obtain ⟨h4, hx5⟩ := gd_some hx3
  refine P_p rfl rfl (Ev_quo_w64 rfl rfl h4) rfl ?_
  refine P_x rfl (Wx_val (Ev_assign rfl) rfl ?_) ?_
  rotate_left; exact P_stop
  refine P_x rfl (Wx_val (Ev_assign rfl) rfl ?_) ?_
  rotate_left; exact P_stop
  refine P_done ?_
  refine T_next ?_
  obtain ⟨j3, hj3, hx5⟩ := jn_some hx5
  refine T_cutP (τ := Bool) (γ := Unit) (J := j3) (out := r) (fun s3 y3 => [(4, .bool (s3))]) (fun s3 y3 => [] ++ [.old w]) (fun s3 y3 => True) ?_ ?_
  · intro s3 y3 hx15 hG16
    subst hj3
    refine T_retc ?_
    obtain rfl := Option.some.inj hx15
    exact T_retP (rs := [.tmp 4]) Try.results91 (.tmp rfl (.nil)) (Ln := []) ⟨rfl, rfl, trivial⟩ (loNil) (by exact .refl)
  · skip
    refine T_reg ?_
    refine T_val (Ev_move rfl) rfl ?_
    refine T_val (Ev_eql rfl rfl) rfl ?_
    refine T_val (Ev_move rfl) rfl ?_
    refine T_caseP (s := 17) rfl (fun h6 => ?_) (fun h6 => ?_)
    · have hx7 := ite_t h6 hx5
      refine T_skipG rfl rfl rfl rfl rfl ?_
      refine T_skipG rfl rfl rfl rfl rfl ?_
      refine T_val (Ev_pickT rfl rfl) rfl ?_
      refine T_val (Ev_move rfl) rfl ?_
      refine T_skipG rfl rfl rfl rfl rfl ?_
      refine T_skipG rfl rfl rfl rfl rfl ?_
      refine T_skipG rfl rfl rfl rfl rfl ?_
      refine T_skipG rfl rfl rfl rfl rfl ?_
      refine T_skipG rfl rfl rfl rfl rfl ?_
      refine T_val (Ev_pickT rfl rfl) rfl ?_
      refine T_val (Ev_move rfl) rfl ?_
      refine T_skipG rfl rfl rfl rfl rfl ?_
      refine T_skipG rfl rfl rfl rfl rfl ?_
      refine T_skipG rfl rfl rfl rfl rfl ?_
      refine T_skipG rfl rfl rfl rfl rfl ?_
      refine T_skipG rfl rfl rfl rfl rfl ?_
      refine T_val (Ev_pickT rfl rfl) rfl ?_
      refine T_val (Ev_assign rfl) rfl ?_
      refine T_nil ?_
      exact T_metP true () hx7 trivial (by exact .cons rfl (.nil)) (by exact .drop 0 rfl (.refl))
    · have hx8 := ite_f h6 hx5
      refine T_valG rfl rfl rfl (Ev_move rfl) rfl ?_
      refine T_valG rfl rfl rfl (Ev_eql rfl rfl) rfl ?_
      refine T_val (Ev_pickF rfl rfl) rfl ?_
      refine T_val (Ev_move rfl) rfl ?_
      refine T_caseP (s := 21) rfl (fun h9 => ?_) (fun h9 => ?_)
      · have hx10 := ite_t h9 hx8
        refine T_skipG rfl rfl rfl rfl rfl ?_
        refine T_skipG rfl rfl rfl rfl rfl ?_
        refine T_skipG rfl rfl rfl rfl rfl ?_
        refine T_skipG rfl rfl rfl rfl rfl ?_
        refine T_skipG rfl rfl rfl rfl rfl ?_
        refine T_val (Ev_pickT rfl rfl) rfl ?_
        refine T_val (Ev_move rfl) rfl ?_
        refine T_skipG rfl rfl rfl rfl rfl ?_
        refine T_skipG rfl rfl rfl rfl rfl ?_
        refine T_skipG rfl rfl rfl rfl rfl ?_
        refine T_skipG rfl rfl rfl rfl rfl ?_
        refine T_skipG rfl rfl rfl rfl rfl ?_
        refine T_val (Ev_pickT rfl rfl) rfl ?_
        refine T_val (Ev_assign rfl) rfl ?_
        refine T_nil ?_
        exact T_metP true () hx10 trivial (by exact .cons rfl (.nil)) (by exact .drop 0 rfl (.refl))
      · have hx11 := ite_f h9 hx8
        refine T_valG rfl rfl rfl (Ev_move rfl) rfl ?_
        refine T_valG rfl rfl rfl (Ev_field rfl fld23_3 rfl) rfl ?_
        refine T_valG rfl rfl rfl (Ev_load1 rfl (i := 0) rfl rfl one3) rfl ?_
        refine T_valG rfl rfl rfl (Ev_sub_w64 rfl rfl) rfl ?_
        refine T_valG rfl rfl rfl (Ev_eql rfl rfl) rfl ?_
        refine T_val (Ev_pickF rfl rfl) rfl ?_
        refine T_val (Ev_move rfl) rfl ?_
        refine T_caseP (s := 28) rfl (fun h12 => ?_) (fun h12 => ?_)
        · have hx13 := ite_t h12 hx11
          refine T_skipG rfl rfl rfl rfl rfl ?_
          refine T_skipG rfl rfl rfl rfl rfl ?_
          refine T_skipG rfl rfl rfl rfl rfl ?_
          refine T_skipG rfl rfl rfl rfl rfl ?_
          refine T_skipG rfl rfl rfl rfl rfl ?_
          refine T_val (Ev_pickT rfl rfl) rfl ?_
          refine T_val (Ev_assign rfl) rfl ?_
          refine T_nil ?_
          exact T_metP true () hx13 trivial (by exact .cons rfl (.nil)) (by exact .drop 0 rfl (.refl))
        · have hx14 := ite_f h12 hx11
          refine T_valG rfl rfl rfl (Ev_move rfl) rfl ?_
          refine T_valG rfl rfl rfl (Ev_field rfl fld23_4 rfl) rfl ?_
          refine T_valG rfl rfl rfl (Ev_load1 rfl (i := 0) rfl rfl one3) rfl ?_
          refine T_valG rfl rfl rfl (Ev_sub_w64 rfl rfl) rfl ?_
          refine T_valG rfl rfl rfl (Ev_eql rfl rfl) rfl ?_
          refine T_val (Ev_pickF rfl rfl) rfl ?_
          refine T_val (Ev_assign rfl) rfl ?_
          refine T_nil ?_
          exact T_metP (decide ((w64 (Int.tdiv p1 p0.NX)) = (w64 (p0.NY - 1)))) () hx14 trivial (by exact .cons rfl (.nil)) (by exact .drop 0 rfl (.refl))
set_option maxRecDepth 100000 in
theorem model_Voids_ok (p0 : S_api_Grid) {K : List Ent} {A0_0 : Option Addr} {c0_0 : Nat} (ha0 : Has K A0_0 (p0.Cells).length c0_0 3 e_api_Cell (p0.Cells)) {r : (List S_api_Hole) × Int} (hx : model_Voids p0 = some r) (w : World) (hK : ∀ e ∈ K, Ent.ok w e) : CtL Try.prog 48 [.agg #[.int .i64 (p0.Raster.X0), .int .i64 (p0.Raster.Y0), .int .i64 (p0.Raster.Step), .int .i64 (p0.Raster.NX), .int .i64 (p0.Raster.NY), .slice (A0_0) ((p0.Cells).length) (c0_0)]] w fun v Ln => ∃ (A0 : Option Addr) (c0 : Nat) (e0 : Ent) (e1 : Ent) (e2 : Ent), v = .tuple #[.slice (A0) ((r.1).length) (c0), .int .i64 (r.2)] ∧ Ln = [e0, e1, e2] ∧ HasN (K ++ [e0, e1, e2]) A0 (r.1).length c0 3 n_api_Hole (r.1) ∧ True := by
  have ha0' := Has.up0 ha0
  refine CtL.mk 70 Try.func48 rfl Try.ntmps48 (by kernel_rfl) rfl ?_
  show T 70 _ [(0, .agg #[.int .i64 (p0.Raster.X0), .int .i64 (p0.Raster.Y0), .int .i64 (p0.Raster.Step), .int .i64 (p0.Raster.NX), .int .i64 (p0.Raster.NY), .slice (A0_0) ((p0.Cells).length) (c0_0)])] _
  unfold model_Voids at hx
  refine T_seq ?_
  refine T_reg ?_
  refine T_x (Wx_box rfl rfl rfl (fun g1 => ?_))
  refine T_val (Ev_assign rfl) rfl ?_
  refine T_val (Ev_assign rfl) rfl ?_
  refine T_nil ?_
  refine T_next ?_
  refine T_seq ?_
  refine T_seq ?_
  refine T_reg ?_
  refine T_val (Ev_loadK rfl (i := 0) rfl rfl agg26) rfl ?_
  obtain ⟨r2, h3, hx4⟩ := bnd_some hx
  refine T_x (Wx_callL rfl (fun w1 hw1 => model_Valid_ok p0 (Has.len' ha0') h3 w1 (okApp (K := K) (K2 := []) hK (by exact (SubE.cons2 (i := 1) rfl (SubE.nil))) (by exact (SubE.nil)) hw1)) rfl ?_)
  rintro _ _ hlo ⟨rfl, rfl, -⟩
  refine T_app0 ?_
  refine T_val (Ev_not rfl) rfl ?_
  refine T_nil ?_
  refine T_next ?_
  refine T_caseNB (s := 15) rfl (fun h5 => ?_) (fun h5 => ?_)
  · have hx6 := ite_bf h5 hx4
    refine T_condT rfl ?_
    refine T_seq ?_
    refine T_reg ?_
    refine T_val (Ev_assign rfl) rfl ?_
    refine T_val (Ev_assign rfl) rfl ?_
    refine T_nil ?_
    refine T_next ?_
    refine T_retc ?_
    refine T_outR ?_
    refine T_none 0 1 ?_
    refine T_none 0 1 ?_
    refine T_none 0 1 ?_
    obtain rfl := Option.some.inj hx6
    exact T_retP (rs := [.tmp 2, .tmp 3]) Try.results48 (.tmp rfl (.tmp rfl (.nil))) (Ln := [.r none 0 0 0 1 [], .r none 0 0 0 1 [], .r none 0 0 0 1 []]) ⟨none, 0, (.r none 0 0 0 1 []), (.r none 0 0 0 1 []), (.r none 0 0 0 1 []), rfl, rfl, HasN.nil, trivial⟩ (loCons rfl (loCons rfl (loCons rfl (loNil)))) (by exact .pick 2 rfl (.pick 1 rfl (.pick 0 rfl (.drop 0 rfl (.refl)))))
  · have hx7 := ite_t h5 hx4
    refine T_condF rfl ?_
    refine T_skip ?_
    refine T_next ?_
    refine T_seq ?_
    refine T_reg ?_
    refine T_val (Ev_field rfl fld26_1 rfl) rfl ?_
    refine T_val (Ev_load1 rfl (i := 0) rfl rfl one24) rfl ?_
    refine T_val (Ev_len rfl 41 Try.underlying24) rfl ?_
    obtain ⟨h9, hx10⟩ := gd_some hx7
    refine T_x (Wx_makeP e_i64 (0) (z := .int .i64 (0)) rfl rfl rfl h9.1 Try.underlying27 (show Try.prog.info? 3 = some Try.t3 from by kernel_rfl) (by kernel_rfl) rfl rfl (by kernel_rfl) (show 8 * _ ≤ _ from h9.2) (by decide) rfl (fun A8 => ?_))
    refine T_val (Ev_assign rfl) rfl ?_
    refine T_nil ?_
    refine T_next ?_
    obtain ⟨j6, hj6, hx10⟩ := jn_some hx10
    refine T_cutP (τ := List Int) (γ := (Option Addr) × Nat) (J := j6) (out := r) (fun s6 y6 => [(1, .pointer (some ⟨g1, 0, none⟩)), (4, .slice (y6.1) ((s6).length) (y6.2))]) (fun s6 y6 => [.r (y6.1) ((s6).length) (y6.2) 3 1 ((s6).flatMap e_i64), .m g1 26 [.int .i64 (p0.Raster.X0), .int .i64 (p0.Raster.Y0), .int .i64 (p0.Raster.Step), .int .i64 (p0.Raster.NX), .int .i64 (p0.Raster.NY), .slice (A0_0) ((p0.Cells).length) (c0_0)]] ++ [.old w]) (fun s6 y6 => True) ?_ ?_
    · intro s6 y6 hx79 hG80
      subst hj6
      refine T_seq ?_
      refine T_reg ?_
      refine T_val (Ev_assign rfl) rfl ?_
      refine T_nil ?_
      refine T_next ?_
      obtain ⟨j19, hj19, hx79⟩ := jn_some hx79
      refine T_cutP (τ := List S_api_Hole) (γ := (List (Vec 3)) × (Option Addr) × Nat × Ent) (J := j19) (out := r) (fun s19 y19 => [(7, .slice (y19.2.1) ((s19).length) (y19.2.2.1))]) (fun s19 y19 => [y19.2.2.2, .r (y19.2.1) ((s19).length) (y19.2.2.1) 86 3 ((y19.1).flatMap cellsV), .r (y6.1) ((s6).length) (y6.2) 3 1 ((s6).flatMap e_i64)] ++ [.old w]) (fun s19 y19 => y19.2.2.2.low = 0 ∧ RowN ([.r (y6.1) ((s6).length) (y6.2) 3 1 ((s6).flatMap e_i64), y19.2.2.2] : List Ent) n_api_Hole (y19.1) (s19) ∧ True) ?_ ?_
      · intro s19 y19 hx318 hG319
        obtain ⟨lo320, hr321, -⟩ := hG319
        subst hj19
        refine T_seq ?_
        refine T_reg ?_
        refine T_val (Ev_move rfl) rfl ?_
        refine T_val (Ev_assign rfl) rfl ?_
        refine T_val (Ev_assign rfl) rfl ?_
        refine T_nil ?_
        refine T_next ?_
        refine T_retc ?_
        refine T_rowP (k := 1) rfl (by decide) (fun x => x.2) (fun hn322 hs323 => ?_)
        have hs324 : HasN ([.r (y19.2.1) ((s19).length) (y19.2.2.1) 86 3 ((y19.1).flatMap cellsV), .r (y6.1) ((s6).length) (y6.2) 3 1 ((s6).flatMap e_i64), y19.2.2.2] : List Ent) _ _ _ _ _ _ := HasN.ofRowN (Has.up (L := ([.r (y19.2.1) ((s19).length) (y19.2.2.1) 86 3 ((y19.1).flatMap cellsV), .r (y6.1) ((s6).length) (y6.2) 3 1 ((s6).flatMap e_i64), y19.2.2.2] : List Ent)) hs323 (SubE.cons2 (i := 0) rfl (SubE.nil))) (RowN.up (R := n_api_Hole) (L := ([.r (y19.2.1) ((s19).length) (y19.2.2.1) 86 3 ((y19.1).flatMap cellsV), .r (y6.1) ((s6).length) (y6.2) 3 1 ((s6).flatMap e_i64), y19.2.2.2] : List Ent)) n_api_Hole_mono hr321 (SubE.cons2 (i := 1) rfl (SubE.cons2 (i := 2) rfl (SubE.nil))))
        obtain rfl := Option.some.inj hx318
        exact T_retP (rs := [.tmp 2, .tmp 3]) Try.results48 (.tmp rfl (.tmp rfl (.nil))) (Ln := [.r (y19.2.1) ((s19).length) (y19.2.2.1) 86 3 ((y19.1).flatMap cellsV), .r (y6.1) ((s6).length) (y6.2) 3 1 ((s6).flatMap e_i64), y19.2.2.2]) ⟨y19.2.1, y19.2.2.1, (.r (y19.2.1) ((s19).length) (y19.2.2.1) 86 3 ((y19.1).flatMap cellsV)), (.r (y6.1) ((s6).length) (y6.2) 3 1 ((s6).flatMap e_i64)), y19.2.2.2, rfl, rfl, HasN.len' (HasN.up (L := (K ++ [.r (y19.2.1) ((s19).length) (y19.2.2.1) 86 3 ((y19.1).flatMap cellsV), .r (y6.1) ((s6).length) (y6.2) 3 1 ((s6).flatMap e_i64), y19.2.2.2])) n_api_Hole_mono hs324 (SubE.appR2 (SubE.cons2 (i := 0) rfl (SubE.cons2 (i := 1) rfl (SubE.cons2 (i := 2) rfl (SubE.nil)))))), trivial⟩ (loCons rfl (loCons rfl (loCons lo320 (loNil)))) (by exact .pick 1 rfl (.pick 1 rfl (.pick 0 rfl (.refl))))
      · skip
        refine T_seq ?_
        refine T_reg ?_
        refine T_val (Ev_field rfl fld26_0 rfl) rfl ?_
        refine T_val (Ev_loadK rfl (i := 1) rfl rfl agg23) rfl ?_
        refine T_val (Ev_move rfl) rfl ?_
        refine T_rowP (k := 0) rfl (by decide) (fun _ => rfl) (fun hn81 hs82 => ?_)
        obtain ⟨r83, h84, hx85⟩ := bnd_some hx79
        refine T_x (Wx_callL rfl (fun w1 hw1 => model_groups_ok p0.Raster s6 (Has.len' hs82) h84 w1 (okAll (K := ([.r (y6.1) ((s6).length) (y6.2) 3 1 ((s6).flatMap e_i64)] : List Ent)) (by exact (SubE.cons2 (i := 0) rfl (SubE.nil))) hw1)) rfl ?_)
        rintro _ _ hlo ⟨A86, c87, e88, e89, rfl, rfl, hs90, -⟩
        have lo91 := hlo e88 (by simp)
        have lo92 := hlo e89 (by simp)
        refine T_app2 ?_
        have hs93 : HasN ([.r (y6.1) ((s6).length) (y6.2) 3 1 ((s6).flatMap e_i64), e88, e89] : List Ent) _ _ _ _ _ _ := id hs90
        refine T_val (Ev_len rfl 27 Try.underlying91) rfl ?_
        refine T_val (Ev_move rfl) rfl ?_
        refine T_nil ?_
        refine T_next ?_
        refine T_block ?_
        obtain ⟨t242, hl242, ho242⟩ := bnd_some hx85
        refine T_none 0 1 ?_
        refine T_none 86 3 ?_
        refine T_loopP (σ := (List S_api_Hole) × Int) (γ := (List (Vec 3)) × (Option Addr) × Nat × Ent) hl242 (fun s242 y242 => [(1, .pointer (some ⟨g1, 0, none⟩)), (7, .slice (y242.2.1) ((s242.1).length) (y242.2.2.1)), (37, .slice (A86) ((r83).length) (c87)), (38, .int .i64 ((((r83).length : Nat) : Int))), (39, .int .i64 (s242.2))]) (fun s242 y242 => [y242.2.2.2, .r (y242.2.1) ((s242.1).length) (y242.2.2.1) 86 3 ((y242.1).flatMap cellsV), e88, e89, .r (y6.1) ((s6).length) (y6.2) 3 1 ((s6).flatMap e_i64), .m g1 26 [.int .i64 (p0.Raster.X0), .int .i64 (p0.Raster.Y0), .int .i64 (p0.Raster.Step), .int .i64 (p0.Raster.NX), .int .i64 (p0.Raster.NY), .slice (A0_0) ((p0.Cells).length) (c0_0)]] ++ [.old w]) (fun s242 y242 => y242.2.2.2.low = 0 ∧ RowN ([.r (y6.1) ((s6).length) (y6.2) 3 1 ((s6).flatMap e_i64), e88, e89, y242.2.2.2] : List Ent) n_api_Hole (y242.1) (s242.1) ∧ True) (([] : List (Vec 3)), none, 0, .r none 0 0 0 1 []) ((by exact ⟨rfl, RowN.nil, trivial⟩)) (by exact .cons rfl (.cons rfl (.cons rfl (.cons rfl (.cons rfl (.nil)))))) (by exact .pick 1 rfl (.pick 0 rfl (.pick 0 rfl (.pick 0 rfl (.pick 0 rfl (.pick 0 rfl (.refl))))))) ?_
        intro s242 y242 hG242 x242 hx242 ht242
        unfold model_Voids_l12 at hx242
        obtain ⟨lo243, hr244, -⟩ := hG242
        refine T_seq ?_
        refine T_reg ?_
        refine T_val (Ev_lss rfl rfl) rfl ?_
        refine T_nil ?_
        refine T_next ?_
        refine T_seq ?_
        refine T_caseP (s := 40) rfl (fun h245 => ?_) (fun h245 => ?_)
        · have hx246 := ite_t h245 hx242
          refine T_condT rfl ?_
          refine T_skip ?_
          refine T_next ?_
          refine T_seq ?_
          refine T_block ?_
          refine T_seq ?_
          refine T_reg ?_
          obtain ⟨x248, h249, hx250⟩ := bnd_some hx246
          obtain ⟨b251, o252, j253, ys261, hA254, hj255, hl256, hp257, hr262⟩ := HasN.at_idx hs93 h249
          obtain ⟨A258, c259, rfl, hs260⟩ := hr262
          refine T_val (Ev_index rfl rfl hA254 (j := j253) hj255 hl256 slc91) rfl ?_
          refine T_val (Ev_loadP0 rfl hp257 (SubE.cons2 (i := 4) rfl (SubE.cons2 (i := 2) rfl (SubE.cons2 (i := 3) rfl (SubE.nil)))) rfl one27) rfl ?_
          refine T_val (Ev_assign rfl) rfl ?_
          refine T_nil ?_
          refine T_next ?_
          refine T_seq ?_
          refine T_reg ?_
          refine T_val (Ev_move rfl) rfl ?_
          refine T_val (Ev_len rfl 86 Try.underlying82) rfl ?_
          refine T_val (Ev_add_w64 rfl rfl) rfl ?_
          refine T_val (Ev_move rfl) rfl ?_
          refine T_val (Ev_build rfl (bld86_0i641s _ _ _ _)) rfl ?_
          refine T_x (Wx_alloc zer86 rfl (fun g263 => ?_))
          refine T_h (Wh_store rfl rfl rfl (.here) (.put (.put (.put (.done)))) rfl (List.cons_ne_nil _ _) agg86.2 ?_)
          refine T_nil ?_
          refine T_next ?_
          obtain ⟨j56, hj56, hx250⟩ := jn_some hx250
          refine T_cutP (τ := Bool) (γ := Unit) (J := j56) (out := x242) (fun s56 y56 => [(1, .pointer (some ⟨g1, 0, none⟩)), (7, .slice (y242.2.1) ((s242.1).length) (y242.2.2.1)), (10, .pointer (some ⟨g263, 0, none⟩)), (37, .slice (A86) ((r83).length) (c87)), (38, .int .i64 ((((r83).length : Nat) : Int))), (39, .int .i64 (s242.2))]) (fun s56 y56 => [.m g263 86 [.int .i64 (w64 (((((s242.1).length : Nat) : Int)) + 1)), .slice (A258) ((x248).length) (c259), .bool (s56)], y242.2.2.2, .r (y242.2.1) ((s242.1).length) (y242.2.2.1) 86 3 ((y242.1).flatMap cellsV), e88, e89, .r (y6.1) ((s6).length) (y6.2) 3 1 ((s6).flatMap e_i64), .m g1 26 [.int .i64 (p0.Raster.X0), .int .i64 (p0.Raster.Y0), .int .i64 (p0.Raster.Step), .int .i64 (p0.Raster.NX), .int .i64 (p0.Raster.NY), .slice (A0_0) ((p0.Cells).length) (c0_0)]] ++ [.old w]) (fun s56 y56 => True) ?_ ?_
          · intro s56 y56 hx308 hG309
            subst hj56
            refine T_reg ?_
            refine T_val (Ev_move rfl) rfl ?_
            refine T_val (Ev_loadK rfl (i := 0) rfl rfl agg86) rfl ?_
            refine T_x (Wx_buildSlice rfl (bls82_1_0ai64sb _ _ _ _ _) rfl (fun g310 => ?_))
            have hr311 : RowN ([.r (y6.1) ((s6).length) (y6.2) 3 1 ((s6).flatMap e_i64), e88, e89, y242.2.2.2] : List Ent) n_api_Hole (y242.1 ++ [(⟨[.int .i64 (w64 (((((s242.1).length : Nat) : Int)) + 1)), .slice (A258) ((x248).length) (c259), .bool (s56)], rfl⟩ : Vec 3)]) (s242.1 ++ [(⟨w64 (((((s242.1).length : Nat) : Int)) + 1), x248, s56⟩ : S_api_Hole)]) := RowN.snoc (RowN.up (R := n_api_Hole) (L := ([.r (y6.1) ((s6).length) (y6.2) 3 1 ((s6).flatMap e_i64), e88, e89, y242.2.2.2] : List Ent)) n_api_Hole_mono hr244 (SubE.cons2 (i := 0) rfl (SubE.cons2 (i := 1) rfl (SubE.cons2 (i := 2) rfl (SubE.cons2 (i := 3) rfl (SubE.nil)))))) ⟨A258, c259, rfl, Has.len' (Has.up (L := ([.r (y6.1) ((s6).length) (y6.2) 3 1 ((s6).flatMap e_i64), e88, e89, y242.2.2.2] : List Ent)) hs260 (SubE.cons2 (i := 0) rfl (SubE.cons2 (i := 1) rfl (SubE.cons2 (i := 2) rfl (SubE.nil)))))⟩
            obtain ⟨h312, hx313⟩ := gd_some hx308
            refine T_h (Wh_appendP cellsV (y242.1) [(⟨[.int .i64 (w64 (((((s242.1).length : Nat) : Int)) + 1)), .slice (A258) ((x248).length) (c259), .bool (s56)], rfl⟩ : Vec 3)] rfl rfl rfl elm82 (fun x => x.2) (i' := 0) rfl rfl rfl rfl (by have := RowN.len (hr244); have := h312; simp only [List.length_singleton, List.length_nil] at *; omega) rfl (fun _ _ => .there (.there (.there (.here)))) (fun _ _ => .drop .refl) (by decide) (fun A314 c315 => ?_))
            refine T_val (Ev_assign rfl) rfl ?_
            refine T_nil ?_
            refine T_inN ?_
            refine T_next ?_
            refine T_reg ?_
            refine T_val (Ev_add_w64 rfl rfl) rfl ?_
            refine T_val (Ev_move rfl) rfl ?_
            refine T_nil ?_
            have hn316 : (y242.1 ++ [(⟨[.int .i64 (w64 (((((s242.1).length : Nat) : Int)) + 1)), .slice (A258) ((x248).length) (c259), .bool (s56)], rfl⟩ : Vec 3)]).length = (s242.1 ++ [(⟨w64 (((((s242.1).length : Nat) : Int)) + 1), x248, s56⟩ : S_api_Hole)]).length := RowN.len hr311
            refine T_ent (.there (.there (.here))) (e' := .r (A314) ((s242.1 ++ [(⟨w64 (((((s242.1).length : Nat) : Int)) + 1), x248, s56⟩ : S_api_Hole)]).length) (c315) 86 3 ((y242.1 ++ [(⟨[.int .i64 (w64 (((((s242.1).length : Nat) : Int)) + 1)), .slice (A258) ((x248).length) (c259), .bool (s56)], rfl⟩ : Vec 3)]).flatMap cellsV)) (by first | (rw [← hn316]; done) | rfl) ?_
            refine T_slot (s := 7) (v' := .slice (A314) ((s242.1 ++ [(⟨w64 (((((s242.1).length : Nat) : Int)) + 1), x248, s56⟩ : S_api_Hole)]).length) (c315)) rfl (by have hn317 : ((y242.1 ++ [(⟨[.int .i64 (w64 (((((s242.1).length : Nat) : Int)) + 1)), .slice (A258) ((x248).length) (c259), .bool (s56)], rfl⟩ : Vec 3)]).length) = (s242.1 ++ [(⟨w64 (((((s242.1).length : Nat) : Int)) + 1), x248, s56⟩ : S_api_Hole)]).length := (RowN.len hr311); first | (rw [← hn317]; done) | rfl) ?_
            exact T_roundP (s242.1 ++ [(⟨w64 (((((s242.1).length : Nat) : Int)) + 1), x248, s56⟩ : S_api_Hole)], w64 (s242.2 + 1)) (y242.1 ++ [(⟨[.int .i64 (w64 (((((s242.1).length : Nat) : Int)) + 1)), .slice (A258) ((x248).length) (c259), .bool (s56)], rfl⟩ : Vec 3)], A314, c315, y242.2.2.2) hx313 ((by exact ⟨lo243, (RowN.up (R := n_api_Hole) (L := ([.r (y6.1) ((s6).length) (y6.2) 3 1 ((s6).flatMap e_i64), e88, e89, y242.2.2.2] : List Ent)) n_api_Hole_mono hr311 (SubE.cons2 (i := 0) rfl (SubE.cons2 (i := 1) rfl (SubE.cons2 (i := 2) rfl (SubE.cons2 (i := 3) rfl (SubE.nil)))))), trivial⟩)) (by exact .cons rfl (.cons rfl (.cons rfl (.cons rfl (.cons rfl (.nil)))))) (by exact .pick 1 rfl (.pick 1 rfl (.pick 1 rfl (.pick 1 rfl (.pick 1 rfl (.pick 1 rfl (.drop 0 rfl (.refl))))))))
          · skip
            refine T_seq ?_
            refine T_reg ?_
            refine T_val (Ev_move rfl) rfl ?_
            refine T_val (Ev_len rfl 3 Try.underlying27) rfl ?_
            refine T_val (Ev_move rfl) rfl ?_
            refine T_nil ?_
            refine T_next ?_
            refine T_block ?_
            obtain ⟨t286, hl286, ho286⟩ := bnd_some hx250
            refine T_loopP (σ := Bool × Int) (γ := Unit) hl286 (fun s286 y286 => [(1, .pointer (some ⟨g1, 0, none⟩)), (7, .slice (y242.2.1) ((s242.1).length) (y242.2.2.1)), (10, .pointer (some ⟨g263, 0, none⟩)), (37, .slice (A86) ((r83).length) (c87)), (38, .int .i64 ((((r83).length : Nat) : Int))), (39, .int .i64 (s242.2)), (48, .slice (A258) ((x248).length) (c259)), (49, .int .i64 ((((x248).length : Nat) : Int))), (50, .int .i64 (s286.2))]) (fun s286 y286 => [.m g263 86 [.int .i64 (w64 (((((s242.1).length : Nat) : Int)) + 1)), .slice (A258) ((x248).length) (c259), .bool (s286.1)], y242.2.2.2, .r (y242.2.1) ((s242.1).length) (y242.2.2.1) 86 3 ((y242.1).flatMap cellsV), e88, e89, .r (y6.1) ((s6).length) (y6.2) 3 1 ((s6).flatMap e_i64), .m g1 26 [.int .i64 (p0.Raster.X0), .int .i64 (p0.Raster.Y0), .int .i64 (p0.Raster.Step), .int .i64 (p0.Raster.NX), .int .i64 (p0.Raster.NY), .slice (A0_0) ((p0.Cells).length) (c0_0)]] ++ [.old w]) (fun s286 y286 => True) () trivial (by exact .cons rfl (.cons rfl (.cons rfl (.cons rfl (.cons rfl (.cons rfl (.cons rfl (.cons rfl (.cons rfl (.nil)))))))))) (by exact .pick 0 rfl (.pick 0 rfl (.pick 0 rfl (.pick 0 rfl (.pick 0 rfl (.pick 0 rfl (.pick 0 rfl (.refl)))))))) ?_
            intro s286 y286 hG286 x286 hx286 ht286
            unfold model_Voids_l16 at hx286
            refine T_seq ?_
            refine T_reg ?_
            refine T_val (Ev_lss rfl rfl) rfl ?_
            refine T_nil ?_
            refine T_next ?_
            refine T_seq ?_
            refine T_caseP (s := 51) rfl (fun h287 => ?_) (fun h287 => ?_)
            · have hx288 := ite_t h287 hx286
              refine T_condT rfl ?_
              refine T_skip ?_
              refine T_next ?_
              obtain ⟨j64, hj64, hx288⟩ := jn_some hx288
              refine T_cutP (τ := Bool) (γ := Unit) (J := j64) (out := x286) (fun s64 y64 => [(1, .pointer (some ⟨g1, 0, none⟩)), (7, .slice (y242.2.1) ((s242.1).length) (y242.2.2.1)), (10, .pointer (some ⟨g263, 0, none⟩)), (37, .slice (A86) ((r83).length) (c87)), (38, .int .i64 ((((r83).length : Nat) : Int))), (39, .int .i64 (s242.2)), (48, .slice (A258) ((x248).length) (c259)), (49, .int .i64 ((((x248).length : Nat) : Int))), (50, .int .i64 (s286.2))]) (fun s64 y64 => [.m g263 86 [.int .i64 (w64 (((((s242.1).length : Nat) : Int)) + 1)), .slice (A258) ((x248).length) (c259), .bool (s64)], y242.2.2.2, .r (y242.2.1) ((s242.1).length) (y242.2.2.1) 86 3 ((y242.1).flatMap cellsV), e88, e89, .r (y6.1) ((s6).length) (y6.2) 3 1 ((s6).flatMap e_i64), .m g1 26 [.int .i64 (p0.Raster.X0), .int .i64 (p0.Raster.Y0), .int .i64 (p0.Raster.Step), .int .i64 (p0.Raster.NX), .int .i64 (p0.Raster.NY), .slice (A0_0) ((p0.Cells).length) (c0_0)]] ++ [.old w]) (fun s64 y64 => True) ?_ ?_
              · intro s64 y64 hx306 hG307
                subst hj64
                refine T_reg ?_
                refine T_val (Ev_add_w64 rfl rfl) rfl ?_
                refine T_val (Ev_move rfl) rfl ?_
                refine T_nil ?_
                exact T_roundP (s64, w64 (s286.2 + 1)) () hx306 trivial (by exact .cons rfl (.cons rfl (.cons rfl (.cons rfl (.cons rfl (.cons rfl (.cons rfl (.cons rfl (.cons rfl (.nil)))))))))) (by exact .pick 0 rfl (.pick 0 rfl (.pick 0 rfl (.pick 0 rfl (.pick 0 rfl (.pick 0 rfl (.pick 0 rfl (.refl))))))))
              · skip
                refine T_block ?_
                refine T_seq ?_
                refine T_reg ?_
                obtain ⟨x290, h291, hx292⟩ := bnd_some hx288
                obtain ⟨b293, o294, j295, hA296, hj297, hl298, hp299⟩ := Has.at_idx hs260 h291
                refine T_val (Ev_index rfl rfl hA296 (j := j295) hj297 hl298 slc27) rfl ?_
                refine T_val (Ev_loadP0 rfl hp299 (SubE.cons2 (i := 5) rfl (SubE.cons2 (i := 3) rfl (SubE.cons2 (i := 4) rfl (SubE.nil)))) rfl one3) rfl ?_
                refine T_val (Ev_assign rfl) rfl ?_
                refine T_nil ?_
                refine T_next ?_
                refine T_reg ?_
                refine T_val (Ev_field rfl fld86_2 rfl) rfl ?_
                refine T_val (Ev_load1 rfl (i := 0) rfl rfl one4) rfl ?_
                refine T_val (Ev_move rfl) rfl ?_
                refine T_caseB (s := 56) rfl (fun h300 => ?_) (fun h300 => ?_)
                · have hx301 := ite_t h300 hx292
                  refine T_skipG rfl rfl rfl rfl rfl ?_
                  refine T_skipG rfl rfl rfl rfl rfl ?_
                  refine T_skipG rfl rfl rfl rfl rfl ?_
                  refine T_skipG rfl rfl rfl rfl rfl ?_
                  refine T_val (Ev_pickT rfl rfl) rfl ?_
                  refine T_val (Ev_field rfl fld86_2 rfl) rfl ?_
                  refine T_h (Wh_store rfl rfl rfl (.here) (.skip (.skip (.put (.done)))) rfl (List.cons_ne_nil _ _) one4.2 ?_)
                  refine T_nil ?_
                  refine T_inN ?_
                  exact T_metP true () hx301 trivial (by exact .cons rfl (.cons rfl (.cons rfl (.cons rfl (.cons rfl (.cons rfl (.cons rfl (.cons rfl (.cons rfl (.nil)))))))))) (by exact .pick 0 rfl (.pick 0 rfl (.pick 0 rfl (.pick 0 rfl (.pick 0 rfl (.pick 0 rfl (.pick 0 rfl (.refl))))))))
                · have hx302 := ite_bf h300 hx292
                  refine T_valG rfl rfl rfl (Ev_field rfl fld26_0 rfl) rfl ?_
                  refine T_valG rfl rfl rfl (Ev_loadK rfl (i := 6) rfl rfl agg23) rfl ?_
                  refine T_valG rfl rfl rfl (Ev_move rfl) rfl ?_
                  obtain ⟨r303, h304, hx305⟩ := bnd_some hx302
                  refine T_xG rfl rfl rfl (Wx_callL rfl (fun w1 hw1 => model_atEdge_ok p0.Raster x290  h304 w1) rfl ?_)
                  rintro _ _ hlo ⟨rfl, rfl, -⟩
                  refine T_app0 ?_
                  refine T_val (Ev_pickF rfl rfl) rfl ?_
                  refine T_val (Ev_field rfl fld86_2 rfl) rfl ?_
                  refine T_h (Wh_store rfl rfl rfl (.here) (.skip (.skip (.put (.done)))) rfl (List.cons_ne_nil _ _) one4.2 ?_)
                  refine T_nil ?_
                  refine T_inN ?_
                  exact T_metP r303 () hx305 trivial (by exact .cons rfl (.cons rfl (.cons rfl (.cons rfl (.cons rfl (.cons rfl (.cons rfl (.cons rfl (.cons rfl (.nil)))))))))) (by exact .pick 0 rfl (.pick 0 rfl (.pick 0 rfl (.pick 0 rfl (.pick 0 rfl (.pick 0 rfl (.pick 0 rfl (.refl))))))))
            · have hx289 := ite_f h287 hx286
              refine T_condF rfl ?_
              refine T_exit ?_
              refine T_outX ?_
              obtain rfl := exit_eq ht286 hx289
              refine T_outX ?_
              refine T_here ?_
              exact T_metP s286.1 () ho286 trivial (by exact .cons rfl (.cons rfl (.cons rfl (.cons rfl (.cons rfl (.cons rfl (.nil))))))) (by exact .pick 0 rfl (.pick 0 rfl (.pick 0 rfl (.pick 0 rfl (.pick 0 rfl (.pick 0 rfl (.pick 0 rfl (.refl))))))))
        · have hx247 := ite_f h245 hx242
          refine T_condF rfl ?_
          refine T_exit ?_
          refine T_outX ?_
          obtain rfl := exit_eq ht242 hx247
          refine T_outX ?_
          refine T_here ?_
          refine T_bundle (es := [e88, e89, y242.2.2.2]) (by exact .pick 2 rfl (.pick 2 rfl (.pick 0 rfl (.refl)))) (loCons lo91 (loCons lo92 (loCons lo243 (loNil)))) ?_
          exact T_metP s242.1 (y242.1, y242.2.1, y242.2.2.1, bun [e88, e89, y242.2.2.2]) ho242 ((by exact ⟨rfl, (RowN.up (R := n_api_Hole) (L := ([.r (y6.1) ((s6).length) (y6.2) 3 1 ((s6).flatMap e_i64), (bun [e88, e89, y242.2.2.2])] : List Ent)) n_api_Hole_mono hr244 (SubE.cons2 (i := 0) rfl (SubE.consB (i := 1) (j := 0) rfl rfl (SubE.consB (i := 1) (j := 1) rfl rfl (SubE.consB (i := 1) (j := 2) rfl rfl (SubE.nil)))))), trivial⟩)) (by exact .cons rfl (.nil)) (by exact .pick 0 rfl (.pick 0 rfl (.pick 0 rfl (.drop 0 rfl (.refl)))))
    · skip
      refine T_seq ?_
      refine T_reg ?_
      refine T_val (Ev_field rfl fld26_1 rfl) rfl ?_
      refine T_val (Ev_load1 rfl (i := 1) rfl rfl one24) rfl ?_
      refine T_val (Ev_len rfl 41 Try.underlying24) rfl ?_
      refine T_val (Ev_move rfl) rfl ?_
      refine T_nil ?_
      refine T_next ?_
      refine T_block ?_
      obtain ⟨t45, hl45, ho45⟩ := bnd_some hx10
      refine T_loopP (σ := (List Int) × Int) (γ := (Option Addr) × Nat) hl45 (fun s45 y45 => [(1, .pointer (some ⟨g1, 0, none⟩)), (4, .slice (y45.1) ((s45.1).length) (y45.2)), (21, .slice (A0_0) ((p0.Cells).length) (c0_0)), (22, .int .i64 ((((p0.Cells).length : Nat) : Int))), (23, .int .i64 (s45.2))]) (fun s45 y45 => [.r (y45.1) ((s45.1).length) (y45.2) 3 1 ((s45.1).flatMap e_i64), .m g1 26 [.int .i64 (p0.Raster.X0), .int .i64 (p0.Raster.Y0), .int .i64 (p0.Raster.Step), .int .i64 (p0.Raster.NX), .int .i64 (p0.Raster.NY), .slice (A0_0) ((p0.Cells).length) (c0_0)]] ++ [.old w]) (fun s45 y45 => True) (A8, (List.replicate (Int.toNat ((((p0.Cells).length : Nat) : Int))) (0 : Int)).length) trivial (by exact .cons rfl (.cons rfl (.cons rfl (.cons rfl (.cons rfl (.nil)))))) (by exact .pick 0 rfl (.pick 0 rfl (.refl))) ?_
      intro s45 y45 hG45 x45 hx45 ht45
      unfold model_Voids_l5 at hx45
      refine T_seq ?_
      refine T_reg ?_
      refine T_val (Ev_lss rfl rfl) rfl ?_
      refine T_nil ?_
      refine T_next ?_
      refine T_seq ?_
      refine T_caseP (s := 24) rfl (fun h46 => ?_) (fun h46 => ?_)
      · have hx47 := ite_t h46 hx45
        refine T_condT rfl ?_
        refine T_skip ?_
        refine T_next ?_
        obtain ⟨j15, hj15, hx47⟩ := jn_some hx47
        refine T_cutP (τ := List Int) (γ := (Option Addr) × Nat) (J := j15) (out := x45) (fun s15 y15 => [(1, .pointer (some ⟨g1, 0, none⟩)), (4, .slice (y15.1) ((s15).length) (y15.2)), (21, .slice (A0_0) ((p0.Cells).length) (c0_0)), (22, .int .i64 ((((p0.Cells).length : Nat) : Int))), (23, .int .i64 (s45.2))]) (fun s15 y15 => [.r (y15.1) ((s15).length) (y15.2) 3 1 ((s15).flatMap e_i64), .m g1 26 [.int .i64 (p0.Raster.X0), .int .i64 (p0.Raster.Y0), .int .i64 (p0.Raster.Step), .int .i64 (p0.Raster.NX), .int .i64 (p0.Raster.NY), .slice (A0_0) ((p0.Cells).length) (c0_0)]] ++ [.old w]) (fun s15 y15 => True) ?_ ?_
        · intro s15 y15 hx75 hG76
          subst hj15
          refine T_reg ?_
          refine T_val (Ev_add_w64 rfl rfl) rfl ?_
          refine T_val (Ev_move rfl) rfl ?_
          refine T_nil ?_
          exact T_roundP (s15, w64 (s45.2 + 1)) (y15.1, y15.2) hx75 trivial (by exact .cons rfl (.cons rfl (.cons rfl (.cons rfl (.cons rfl (.nil)))))) (by exact .pick 0 rfl (.pick 0 rfl (.refl)))
        · skip
          refine T_block ?_
          refine T_seq ?_
          refine T_reg ?_
          refine T_val (Ev_move rfl) rfl ?_
          obtain ⟨x49, h50, hx51⟩ := bnd_some hx47
          have hw59 := Has.low (E := []) ha0' hK
          obtain ⟨b52, o53, j54, hA55, hj56, hl57, hp58⟩ := Has.at_idx hw59 h50
          refine T_val (Ev_index rfl rfl hA55 (j := j54) hj56 hl57 slc24) rfl ?_
          refine T_val (Ev_loadPK0 rfl hp58 (SubE.cons2 (i := 2) rfl (SubE.nil)) rfl agg41) rfl ?_
          refine T_x (Wx_alloc zer41 rfl (fun g60 => ?_))
          refine T_val (Ev_assign rfl) rfl ?_
          refine T_h (Wh_store rfl rfl rfl (.here) (.put (.put (.put (.done)))) rfl (List.cons_ne_nil _ _) agg41.2 ?_)
          refine T_nil ?_
          refine T_next ?_
          refine T_seq ?_
          refine T_reg ?_
          refine T_val (Ev_field rfl fld41_0 rfl) rfl ?_
          refine T_val (Ev_load1 rfl (i := 0) rfl rfl one4) rfl ?_
          refine T_nil ?_
          refine T_next ?_
          refine T_caseB (s := 29) rfl (fun h61 => ?_) (fun h61 => ?_)
          · have hx62 := ite_t h61 hx51
            refine T_condT rfl ?_
            refine T_reg ?_
            refine T_val (Ev_move rfl) rfl ?_
            refine T_val (Ev_move rfl) rfl ?_
            obtain ⟨x63, h64, hx65⟩ := bnd_some hx62
            refine T_idxR (k := 1) rfl (by decide) (fun _ => rfl) h64 (fun b66 j68 hA69 hj70 hl71 hm73 hp72 => ?_)
            refine T_val (Ev_index rfl rfl hA69 (j := j68) hj70 hl71 slc27) rfl ?_
            refine T_h (Wh_storeP e_i64 (s45.1) (s45.2) (1) rfl rfl rfl (.there (.here)) hA69 rfl hj70 hl71 (fun _ => rfl) (by decide) rfl one3.2 ?_)
            refine T_nil ?_
            refine T_inN ?_
            have hn77 : (s45.1).length = (setI s45.1 s45.2 1).length := by simp [setI_len, cpy_len, List.length_append] <;> omega
            refine T_ent (.there (.here)) (e' := .r (y45.1) ((setI s45.1 s45.2 1).length) (y45.2) 3 1 ((setI s45.1 s45.2 1).flatMap e_i64)) (by first | (rw [← hn77]; done) | rfl) ?_
            refine T_slot (s := 4) (v' := .slice (y45.1) ((setI s45.1 s45.2 1).length) (y45.2)) rfl (by have hn78 : ((s45.1).length) = (setI s45.1 s45.2 1).length := (by simp [setI_len, cpy_len, List.length_append] <;> omega); first | (rw [← hn78]; done) | rfl) ?_
            exact T_metP (setI s45.1 s45.2 1) (y45.1, y45.2) hx65 trivial (by exact .cons rfl (.cons rfl (.cons rfl (.cons rfl (.cons rfl (.nil)))))) (by exact .pick 1 rfl (.pick 1 rfl (.drop 0 rfl (.refl))))
          · have hx74 := ite_bf h61 hx51
            refine T_condF rfl ?_
            refine T_skip ?_
            refine T_inN ?_
            exact T_metP s45.1 (y45.1, y45.2) hx74 trivial (by exact .cons rfl (.cons rfl (.cons rfl (.cons rfl (.cons rfl (.nil)))))) (by exact .pick 1 rfl (.pick 1 rfl (.drop 0 rfl (.refl))))
      · have hx48 := ite_f h46 hx45
        refine T_condF rfl ?_
        refine T_exit ?_
        refine T_outX ?_
        obtain rfl := exit_eq ht45 hx48
        refine T_outX ?_
        refine T_here ?_
        exact T_metP s45.1 (y45.1, y45.2) ho45 trivial (by exact .cons rfl (.cons rfl (.nil))) (by exact .pick 0 rfl (.pick 0 rfl (.refl)))
set_option maxRecDepth 100000 in
theorem lidarref09_Voids_ok (p0 : S_api_Grid) {K : List Ent} {A0_0 : Option Addr} {c0_0 : Nat} (ha0 : Has K A0_0 (p0.Cells).length c0_0 3 e_api_Cell (p0.Cells)) {r : (List S_api_Hole) × Int} (hx : lidarref09_Voids p0 = some r) (w : World) (hK : ∀ e ∈ K, Ent.ok w e) : CtL Try.prog 49 [.agg #[.int .i64 (p0.Raster.X0), .int .i64 (p0.Raster.Y0), .int .i64 (p0.Raster.Step), .int .i64 (p0.Raster.NX), .int .i64 (p0.Raster.NY), .slice (A0_0) ((p0.Cells).length) (c0_0)]] w fun v Ln => ∃ (A0 : Option Addr) (c0 : Nat) (e0 : Ent) (e1 : Ent) (e2 : Ent) (e3 : Ent) (e4 : Ent), v = .tuple #[.slice (A0) ((r.1).length) (c0), .int .i64 (r.2)] ∧ Ln = [e0, e1, e2, e3, e4] ∧ HasN (K ++ [e0, e1, e2, e3, e4]) A0 (r.1).length c0 3 n_api_Hole (r.1) ∧ True := by
  have ha0' := Has.up0 ha0
  refine CtL.mk 113 Try.func49 rfl Try.ntmps49 (by kernel_rfl) rfl ?_
  show T 113 _ [(0, .agg #[.int .i64 (p0.Raster.X0), .int .i64 (p0.Raster.Y0), .int .i64 (p0.Raster.Step), .int .i64 (p0.Raster.NX), .int .i64 (p0.Raster.NY), .slice (A0_0) ((p0.Cells).length) (c0_0)])] _
  unfold lidarref09_Voids at hx
  refine T_seq ?_
  refine T_reg ?_
  refine T_x (Wx_box rfl rfl rfl (fun g1 => ?_))
  refine T_val (Ev_assign rfl) rfl ?_
  refine T_val (Ev_assign rfl) rfl ?_
  refine T_nil ?_
  refine T_next ?_
  refine T_seq ?_
  refine T_seq ?_
  refine T_reg ?_
  refine T_val (Ev_loadK rfl (i := 0) rfl rfl agg26) rfl ?_
  obtain ⟨r2, h3, hx4⟩ := bnd_some hx
  refine T_x (Wx_callL rfl (fun w1 hw1 => lidarref09_Valid_ok p0 (Has.len' ha0') h3 w1 (okApp (K := K) (K2 := []) hK (by exact (SubE.cons2 (i := 1) rfl (SubE.nil))) (by exact (SubE.nil)) hw1)) rfl ?_)
  rintro _ _ hlo ⟨rfl, rfl, -⟩
  refine T_app0 ?_
  refine T_val (Ev_not rfl) rfl ?_
  refine T_nil ?_
  refine T_next ?_
  refine T_caseNB (s := 16) rfl (fun h5 => ?_) (fun h5 => ?_)
  · have hx6 := ite_bf h5 hx4
    refine T_condT rfl ?_
    refine T_seq ?_
    refine T_reg ?_
    refine T_val (Ev_assign rfl) rfl ?_
    refine T_val (Ev_assign rfl) rfl ?_
    refine T_nil ?_
    refine T_next ?_
    refine T_retc ?_
    refine T_outR ?_
    refine T_none 0 1 ?_
    refine T_none 0 1 ?_
    refine T_none 0 1 ?_
    refine T_none 0 1 ?_
    refine T_none 0 1 ?_
    obtain rfl := Option.some.inj hx6
    exact T_retP (rs := [.tmp 2, .tmp 3]) Try.results49 (.tmp rfl (.tmp rfl (.nil))) (Ln := [.r none 0 0 0 1 [], .r none 0 0 0 1 [], .r none 0 0 0 1 [], .r none 0 0 0 1 [], .r none 0 0 0 1 []]) ⟨none, 0, (.r none 0 0 0 1 []), (.r none 0 0 0 1 []), (.r none 0 0 0 1 []), (.r none 0 0 0 1 []), (.r none 0 0 0 1 []), rfl, rfl, HasN.nil, trivial⟩ (loCons rfl (loCons rfl (loCons rfl (loCons rfl (loCons rfl (loNil)))))) (by exact .pick 4 rfl (.pick 3 rfl (.pick 2 rfl (.pick 1 rfl (.pick 0 rfl (.drop 0 rfl (.refl)))))))
  · have hx7 := ite_t h5 hx4
    refine T_condF rfl ?_
    refine T_skip ?_
    refine T_next ?_
    refine T_seq ?_
    refine T_reg ?_
    refine T_val (Ev_field rfl fld26_0 rfl) rfl ?_
    refine T_val (Ev_loadK rfl (i := 0) rfl rfl agg23) rfl ?_
    refine T_x (Wx_alloc zer23 rfl (fun g8 => ?_))
    refine T_h (Wh_store rfl rfl rfl (.here) (.put (.put (.put (.put (.put (.done)))))) rfl (List.cons_ne_nil _ _) agg23.2 ?_)
    refine T_nil ?_
    refine T_next ?_
    refine T_seq ?_
    refine T_reg ?_
    refine T_val (Ev_field rfl fld26_1 rfl) rfl ?_
    refine T_val (Ev_load1 rfl (i := 1) rfl rfl one24) rfl ?_
    refine T_val (Ev_len rfl 41 Try.underlying24) rfl ?_
    obtain ⟨h10, hx11⟩ := gd_some hx7
    refine T_x (Wx_makeP e_i64 (0) (z := .int .i64 (0)) rfl rfl rfl h10.1 Try.underlying27 (show Try.prog.info? 3 = some Try.t3 from by kernel_rfl) (by kernel_rfl) rfl rfl (by kernel_rfl) (show 8 * _ ≤ _ from h10.2) (by decide) rfl (fun A9 => ?_))
    refine T_val (Ev_assign rfl) rfl ?_
    refine T_nil ?_
    refine T_next ?_
    obtain ⟨j7, hj7, hx11⟩ := jn_some hx11
    refine T_cutP (τ := List Int) (γ := (Option Addr) × Nat) (J := j7) (out := r) (fun s7 y7 => [(4, .pointer (some ⟨g8, 0, none⟩)), (5, .slice (y7.1) ((s7).length) (y7.2))]) (fun s7 y7 => [.r (y7.1) ((s7).length) (y7.2) 3 1 ((s7).flatMap e_i64), .m g8 23 [.int .i64 (p0.Raster.X0), .int .i64 (p0.Raster.Y0), .int .i64 (p0.Raster.Step), .int .i64 (p0.Raster.NX), .int .i64 (p0.Raster.NY)]] ++ [.old w]) (fun s7 y7 => True) ?_ ?_
    · intro s7 y7 hx78 hG79
      subst hj7
      refine T_seq ?_
      refine T_reg ?_
      refine T_val (Ev_loadK rfl (i := 1) rfl rfl agg23) rfl ?_
      refine T_val (Ev_move rfl) rfl ?_
      refine T_rowP (k := 0) rfl (by decide) (fun _ => rfl) (fun hn80 hs81 => ?_)
      obtain ⟨r82, h83, hx84⟩ := bnd_some hx78
      refine T_x (Wx_callL rfl (fun w1 hw1 => lidarref09_groups_ok p0.Raster s7 (Has.len' hs81) h83 w1 (okAll (K := ([.r (y7.1) ((s7).length) (y7.2) 3 1 ((s7).flatMap e_i64)] : List Ent)) (by exact (SubE.cons2 (i := 0) rfl (SubE.nil))) hw1)) rfl ?_)
      rintro _ _ hlo ⟨A85, c86, e87, e88, rfl, rfl, hs89, -⟩
      have lo90 := hlo e87 (by simp)
      have lo91 := hlo e88 (by simp)
      refine T_app2 ?_
      have hs92 : HasN ([.r (y7.1) ((s7).length) (y7.2) 3 1 ((s7).flatMap e_i64), e87, e88] : List Ent) _ _ _ _ _ _ := id hs89
      refine T_val (Ev_assign rfl) rfl ?_
      refine T_nil ?_
      refine T_next ?_
      refine T_seq ?_
      refine T_reg ?_
      refine T_val (Ev_assign rfl) rfl ?_
      refine T_nil ?_
      refine T_next ?_
      obtain ⟨j19, hj19, hx84⟩ := jn_some hx84
      refine T_cutP (τ := List S_api_Hole) (γ := (List (Vec 3)) × (Option Addr) × Nat × Ent) (J := j19) (out := r) (fun s19 y19 => [(8, .slice (y19.2.1) ((s19).length) (y19.2.2.1))]) (fun s19 y19 => [y19.2.2.2, .r (y19.2.1) ((s19).length) (y19.2.2.1) 86 3 ((y19.1).flatMap cellsV), e87, e88, .r (y7.1) ((s7).length) (y7.2) 3 1 ((s7).flatMap e_i64)] ++ [.old w]) (fun s19 y19 => y19.2.2.2.low = 0 ∧ RowN ([.r (y7.1) ((s7).length) (y7.2) 3 1 ((s7).flatMap e_i64), e87, e88, y19.2.2.2] : List Ent) n_api_Hole (y19.1) (s19) ∧ True) ?_ ?_
      · intro s19 y19 hx707 hG708
        obtain ⟨lo709, hr710, -⟩ := hG708
        subst hj19
        refine T_seq ?_
        refine T_reg ?_
        refine T_val (Ev_move rfl) rfl ?_
        refine T_val (Ev_assign rfl) rfl ?_
        refine T_val (Ev_assign rfl) rfl ?_
        refine T_nil ?_
        refine T_next ?_
        refine T_retc ?_
        refine T_rowP (k := 1) rfl (by decide) (fun x => x.2) (fun hn711 hs712 => ?_)
        have hs713 : HasN ([.r (y19.2.1) ((s19).length) (y19.2.2.1) 86 3 ((y19.1).flatMap cellsV), .r (y7.1) ((s7).length) (y7.2) 3 1 ((s7).flatMap e_i64), e87, e88, y19.2.2.2] : List Ent) _ _ _ _ _ _ := HasN.ofRowN (Has.up (L := ([.r (y19.2.1) ((s19).length) (y19.2.2.1) 86 3 ((y19.1).flatMap cellsV), .r (y7.1) ((s7).length) (y7.2) 3 1 ((s7).flatMap e_i64), e87, e88, y19.2.2.2] : List Ent)) hs712 (SubE.cons2 (i := 0) rfl (SubE.nil))) (RowN.up (R := n_api_Hole) (L := ([.r (y19.2.1) ((s19).length) (y19.2.2.1) 86 3 ((y19.1).flatMap cellsV), .r (y7.1) ((s7).length) (y7.2) 3 1 ((s7).flatMap e_i64), e87, e88, y19.2.2.2] : List Ent)) n_api_Hole_mono hr710 (SubE.cons2 (i := 1) rfl (SubE.cons2 (i := 2) rfl (SubE.cons2 (i := 3) rfl (SubE.cons2 (i := 4) rfl (SubE.nil))))))
        obtain rfl := Option.some.inj hx707
        exact T_retP (rs := [.tmp 2, .tmp 3]) Try.results49 (.tmp rfl (.tmp rfl (.nil))) (Ln := [.r (y19.2.1) ((s19).length) (y19.2.2.1) 86 3 ((y19.1).flatMap cellsV), .r (y7.1) ((s7).length) (y7.2) 3 1 ((s7).flatMap e_i64), e87, e88, y19.2.2.2]) ⟨y19.2.1, y19.2.2.1, (.r (y19.2.1) ((s19).length) (y19.2.2.1) 86 3 ((y19.1).flatMap cellsV)), (.r (y7.1) ((s7).length) (y7.2) 3 1 ((s7).flatMap e_i64)), e87, e88, y19.2.2.2, rfl, rfl, HasN.len' (HasN.up (L := (K ++ [.r (y19.2.1) ((s19).length) (y19.2.2.1) 86 3 ((y19.1).flatMap cellsV), .r (y7.1) ((s7).length) (y7.2) 3 1 ((s7).flatMap e_i64), e87, e88, y19.2.2.2])) n_api_Hole_mono hs713 (SubE.appR2 (SubE.cons2 (i := 0) rfl (SubE.cons2 (i := 1) rfl (SubE.cons2 (i := 2) rfl (SubE.cons2 (i := 3) rfl (SubE.cons2 (i := 4) rfl (SubE.nil)))))))), trivial⟩ (loCons rfl (loCons rfl (loCons lo90 (loCons lo91 (loCons lo709 (loNil)))))) (by exact .pick 1 rfl (.pick 3 rfl (.pick 1 rfl (.pick 1 rfl (.pick 0 rfl (.refl))))))
      · skip
        refine T_seq ?_
        refine T_reg ?_
        refine T_val (Ev_assign rfl) rfl ?_
        refine T_nil ?_
        refine T_next ?_
        refine T_block ?_
        obtain ⟨t501, hl501, ho501⟩ := bnd_some hx84
        refine T_none 0 1 ?_
        refine T_none 86 3 ?_
        refine T_loopP (σ := (List S_api_Hole) × Int) (γ := (List (Vec 3)) × (Option Addr) × Nat × Ent) hl501 (fun s501 y501 => [(4, .pointer (some ⟨g8, 0, none⟩)), (7, .slice (A85) ((r82).length) (c86)), (8, .slice (y501.2.1) ((s501.1).length) (y501.2.2.1)), (9, .int .i64 (s501.2))]) (fun s501 y501 => [y501.2.2.2, .r (y501.2.1) ((s501.1).length) (y501.2.2.1) 86 3 ((y501.1).flatMap cellsV), e87, e88, .r (y7.1) ((s7).length) (y7.2) 3 1 ((s7).flatMap e_i64), .m g8 23 [.int .i64 (p0.Raster.X0), .int .i64 (p0.Raster.Y0), .int .i64 (p0.Raster.Step), .int .i64 (p0.Raster.NX), .int .i64 (p0.Raster.NY)]] ++ [.old w]) (fun s501 y501 => y501.2.2.2.low = 0 ∧ RowN ([.r (y7.1) ((s7).length) (y7.2) 3 1 ((s7).flatMap e_i64), e87, e88, y501.2.2.2] : List Ent) n_api_Hole (y501.1) (s501.1) ∧ True) (([] : List (Vec 3)), none, 0, .r none 0 0 0 1 []) ((by exact ⟨rfl, RowN.nil, trivial⟩)) (by exact .cons rfl (.cons rfl (.cons rfl (.cons rfl (.nil))))) (by exact .pick 1 rfl (.pick 0 rfl (.pick 0 rfl (.pick 0 rfl (.pick 0 rfl (.pick 0 rfl (.refl))))))) ?_
        intro s501 y501 hG501 x501 hx501 ht501
        unfold lidarref09_Voids_l13 at hx501
        obtain ⟨lo502, hr503, -⟩ := hG501
        refine T_seq ?_
        refine T_seq ?_
        refine T_reg ?_
        refine T_val (Ev_move rfl) rfl ?_
        refine T_val (Ev_move rfl) rfl ?_
        refine T_val (Ev_len rfl 27 Try.underlying91) rfl ?_
        refine T_val (Ev_lss rfl rfl) rfl ?_
        refine T_nil ?_
        refine T_next ?_
        refine T_caseP (s := 44) rfl (fun h504 => ?_) (fun h504 => ?_)
        · have hx505 := ite_t h504 hx501
          refine T_condT rfl ?_
          refine T_skip ?_
          refine T_next ?_
          refine T_seq ?_
          refine T_block ?_
          refine T_seq ?_
          refine T_reg ?_
          refine T_val (Ev_move rfl) rfl ?_
          refine T_val (Ev_add_w64 rfl rfl) rfl ?_
          refine T_val (Ev_move rfl) rfl ?_
          refine T_val (Ev_move rfl) rfl ?_
          obtain ⟨x507, h508, hx509⟩ := bnd_some hx505
          obtain ⟨b510, o511, j512, ys520, hA513, hj514, hl515, hp516, hr521⟩ := HasN.at_idx hs92 h508
          obtain ⟨A517, c518, rfl, hs519⟩ := hr521
          refine T_val (Ev_index rfl rfl hA513 (j := j512) hj514 hl515 slc91) rfl ?_
          refine T_val (Ev_loadP0 rfl hp516 (SubE.cons2 (i := 4) rfl (SubE.cons2 (i := 2) rfl (SubE.cons2 (i := 3) rfl (SubE.nil)))) rfl one27) rfl ?_
          refine T_val (Ev_build rfl (bld86_0i641s _ _ _ _)) rfl ?_
          refine T_x (Wx_alloc zer86 rfl (fun g522 => ?_))
          refine T_h (Wh_store rfl rfl rfl (.here) (.put (.put (.put (.done)))) rfl (List.cons_ne_nil _ _) agg86.2 ?_)
          refine T_nil ?_
          refine T_next ?_
          obtain ⟨j53, hj53, hx509⟩ := jn_some hx509
          refine T_cutP (τ := Bool) (γ := Unit) (J := j53) (out := x501) (fun s53 y53 => [(4, .pointer (some ⟨g8, 0, none⟩)), (7, .slice (A85) ((r82).length) (c86)), (8, .slice (y501.2.1) ((s501.1).length) (y501.2.2.1)), (9, .int .i64 (s501.2)), (10, .pointer (some ⟨g522, 0, none⟩))]) (fun s53 y53 => [.m g522 86 [.int .i64 (w64 (s501.2 + 1)), .slice (A517) ((x507).length) (c518), .bool (s53)], y501.2.2.2, .r (y501.2.1) ((s501.1).length) (y501.2.2.1) 86 3 ((y501.1).flatMap cellsV), e87, e88, .r (y7.1) ((s7).length) (y7.2) 3 1 ((s7).flatMap e_i64), .m g8 23 [.int .i64 (p0.Raster.X0), .int .i64 (p0.Raster.Y0), .int .i64 (p0.Raster.Step), .int .i64 (p0.Raster.NX), .int .i64 (p0.Raster.NY)]] ++ [.old w]) (fun s53 y53 => True) ?_ ?_
          · intro s53 y53 hx697 hG698
            subst hj53
            refine T_reg ?_
            refine T_val (Ev_move rfl) rfl ?_
            refine T_val (Ev_loadK rfl (i := 0) rfl rfl agg86) rfl ?_
            refine T_x (Wx_buildSlice rfl (bls82_1_0ai64sb _ _ _ _ _) rfl (fun g699 => ?_))
            have hr700 : RowN ([.r (y7.1) ((s7).length) (y7.2) 3 1 ((s7).flatMap e_i64), e87, e88, y501.2.2.2] : List Ent) n_api_Hole (y501.1 ++ [(⟨[.int .i64 (w64 (s501.2 + 1)), .slice (A517) ((x507).length) (c518), .bool (s53)], rfl⟩ : Vec 3)]) (s501.1 ++ [(⟨w64 (s501.2 + 1), x507, s53⟩ : S_api_Hole)]) := RowN.snoc (RowN.up (R := n_api_Hole) (L := ([.r (y7.1) ((s7).length) (y7.2) 3 1 ((s7).flatMap e_i64), e87, e88, y501.2.2.2] : List Ent)) n_api_Hole_mono hr503 (SubE.cons2 (i := 0) rfl (SubE.cons2 (i := 1) rfl (SubE.cons2 (i := 2) rfl (SubE.cons2 (i := 3) rfl (SubE.nil)))))) ⟨A517, c518, rfl, Has.len' (Has.up (L := ([.r (y7.1) ((s7).length) (y7.2) 3 1 ((s7).flatMap e_i64), e87, e88, y501.2.2.2] : List Ent)) hs519 (SubE.cons2 (i := 0) rfl (SubE.cons2 (i := 1) rfl (SubE.cons2 (i := 2) rfl (SubE.nil)))))⟩
            obtain ⟨h701, hx702⟩ := gd_some hx697
            refine T_h (Wh_appendP cellsV (y501.1) [(⟨[.int .i64 (w64 (s501.2 + 1)), .slice (A517) ((x507).length) (c518), .bool (s53)], rfl⟩ : Vec 3)] rfl rfl rfl elm82 (fun x => x.2) (i' := 0) rfl rfl rfl rfl (by have := RowN.len (hr503); have := h701; simp only [List.length_singleton, List.length_nil] at *; omega) rfl (fun _ _ => .there (.there (.there (.here)))) (fun _ _ => .drop .refl) (by decide) (fun A703 c704 => ?_))
            refine T_val (Ev_assign rfl) rfl ?_
            refine T_nil ?_
            refine T_inN ?_
            refine T_next ?_
            refine T_reg ?_
            refine T_val (Ev_move rfl) rfl ?_
            refine T_val (Ev_add_w64 rfl rfl) rfl ?_
            refine T_val (Ev_assign rfl) rfl ?_
            refine T_nil ?_
            have hn705 : (y501.1 ++ [(⟨[.int .i64 (w64 (s501.2 + 1)), .slice (A517) ((x507).length) (c518), .bool (s53)], rfl⟩ : Vec 3)]).length = (s501.1 ++ [(⟨w64 (s501.2 + 1), x507, s53⟩ : S_api_Hole)]).length := RowN.len hr700
            refine T_ent (.there (.there (.here))) (e' := .r (A703) ((s501.1 ++ [(⟨w64 (s501.2 + 1), x507, s53⟩ : S_api_Hole)]).length) (c704) 86 3 ((y501.1 ++ [(⟨[.int .i64 (w64 (s501.2 + 1)), .slice (A517) ((x507).length) (c518), .bool (s53)], rfl⟩ : Vec 3)]).flatMap cellsV)) (by first | (rw [← hn705]; done) | rfl) ?_
            refine T_slot (s := 8) (v' := .slice (A703) ((s501.1 ++ [(⟨w64 (s501.2 + 1), x507, s53⟩ : S_api_Hole)]).length) (c704)) rfl (by have hn706 : ((y501.1 ++ [(⟨[.int .i64 (w64 (s501.2 + 1)), .slice (A517) ((x507).length) (c518), .bool (s53)], rfl⟩ : Vec 3)]).length) = (s501.1 ++ [(⟨w64 (s501.2 + 1), x507, s53⟩ : S_api_Hole)]).length := (RowN.len hr700); first | (rw [← hn706]; done) | rfl) ?_
            exact T_roundP (s501.1 ++ [(⟨w64 (s501.2 + 1), x507, s53⟩ : S_api_Hole)], w64 (s501.2 + 1)) (y501.1 ++ [(⟨[.int .i64 (w64 (s501.2 + 1)), .slice (A517) ((x507).length) (c518), .bool (s53)], rfl⟩ : Vec 3)], A703, c704, y501.2.2.2) hx702 ((by exact ⟨lo502, (RowN.up (R := n_api_Hole) (L := ([.r (y7.1) ((s7).length) (y7.2) 3 1 ((s7).flatMap e_i64), e87, e88, y501.2.2.2] : List Ent)) n_api_Hole_mono hr700 (SubE.cons2 (i := 0) rfl (SubE.cons2 (i := 1) rfl (SubE.cons2 (i := 2) rfl (SubE.cons2 (i := 3) rfl (SubE.nil)))))), trivial⟩)) (by exact .cons rfl (.cons rfl (.cons rfl (.cons rfl (.nil))))) (by exact .pick 1 rfl (.pick 1 rfl (.pick 1 rfl (.pick 1 rfl (.pick 1 rfl (.pick 1 rfl (.drop 0 rfl (.refl))))))))
          · skip
            refine T_seq ?_
            refine T_reg ?_
            refine T_val (Ev_assign rfl) rfl ?_
            refine T_nil ?_
            refine T_next ?_
            refine T_block ?_
            obtain ⟨t610, hl610, ho610⟩ := bnd_some hx509
            refine T_loopP (σ := Bool × Int) (γ := Unit) hl610 (fun s610 y610 => [(4, .pointer (some ⟨g8, 0, none⟩)), (7, .slice (A85) ((r82).length) (c86)), (8, .slice (y501.2.1) ((s501.1).length) (y501.2.2.1)), (9, .int .i64 (s501.2)), (10, .pointer (some ⟨g522, 0, none⟩)), (11, .int .i64 (s610.2))]) (fun s610 y610 => [.m g522 86 [.int .i64 (w64 (s501.2 + 1)), .slice (A517) ((x507).length) (c518), .bool (s610.1)], y501.2.2.2, .r (y501.2.1) ((s501.1).length) (y501.2.2.1) 86 3 ((y501.1).flatMap cellsV), e87, e88, .r (y7.1) ((s7).length) (y7.2) 3 1 ((s7).flatMap e_i64), .m g8 23 [.int .i64 (p0.Raster.X0), .int .i64 (p0.Raster.Y0), .int .i64 (p0.Raster.Step), .int .i64 (p0.Raster.NX), .int .i64 (p0.Raster.NY)]] ++ [.old w]) (fun s610 y610 => True) () trivial (by exact .cons rfl (.cons rfl (.cons rfl (.cons rfl (.cons rfl (.cons rfl (.nil))))))) (by exact .pick 0 rfl (.pick 0 rfl (.pick 0 rfl (.pick 0 rfl (.pick 0 rfl (.pick 0 rfl (.pick 0 rfl (.refl)))))))) ?_
            intro s610 y610 hG610 x610 hx610 ht610
            unfold lidarref09_Voids_l17 at hx610
            refine T_seq ?_
            refine T_seq ?_
            refine T_reg ?_
            refine T_val (Ev_move rfl) rfl ?_
            refine T_val (Ev_move rfl) rfl ?_
            refine T_val (Ev_move rfl) rfl ?_
            obtain ⟨x611, h612, hx613⟩ := bnd_some hx610
            obtain ⟨b614, o615, j616, ys624, hA617, hj618, hl619, hp620, hr625⟩ := HasN.at_idx hs92 h612
            obtain ⟨A621, c622, rfl, hs623⟩ := hr625
            refine T_val (Ev_index rfl rfl hA617 (j := j616) hj618 hl619 slc91) rfl ?_
            refine T_val (Ev_loadP0 rfl hp620 (SubE.cons2 (i := 5) rfl (SubE.cons2 (i := 3) rfl (SubE.cons2 (i := 4) rfl (SubE.nil)))) rfl one27) rfl ?_
            refine T_val (Ev_len rfl 3 Try.underlying27) rfl ?_
            refine T_val (Ev_lss rfl rfl) rfl ?_
            refine T_nil ?_
            refine T_next ?_
            refine T_caseP (s := 60) rfl (fun h626 => ?_) (fun h626 => ?_)
            · have hx627 := ite_t h626 hx613
              refine T_condT rfl ?_
              refine T_skip ?_
              refine T_next ?_
              obtain ⟨j61, hj61, hx627⟩ := jn_some hx627
              refine T_cutP (τ := Bool) (γ := Unit) (J := j61) (out := x610) (fun s61 y61 => [(4, .pointer (some ⟨g8, 0, none⟩)), (7, .slice (A85) ((r82).length) (c86)), (8, .slice (y501.2.1) ((s501.1).length) (y501.2.2.1)), (9, .int .i64 (s501.2)), (10, .pointer (some ⟨g522, 0, none⟩)), (11, .int .i64 (s610.2))]) (fun s61 y61 => [.m g522 86 [.int .i64 (w64 (s501.2 + 1)), .slice (A517) ((x507).length) (c518), .bool (s61)], y501.2.2.2, .r (y501.2.1) ((s501.1).length) (y501.2.2.1) 86 3 ((y501.1).flatMap cellsV), e87, e88, .r (y7.1) ((s7).length) (y7.2) 3 1 ((s7).flatMap e_i64), .m g8 23 [.int .i64 (p0.Raster.X0), .int .i64 (p0.Raster.Y0), .int .i64 (p0.Raster.Step), .int .i64 (p0.Raster.NX), .int .i64 (p0.Raster.NY)]] ++ [.old w]) (fun s61 y61 => True) ?_ ?_
              · intro s61 y61 hx695 hG696
                subst hj61
                refine T_reg ?_
                refine T_val (Ev_move rfl) rfl ?_
                refine T_val (Ev_add_w64 rfl rfl) rfl ?_
                refine T_val (Ev_assign rfl) rfl ?_
                refine T_nil ?_
                exact T_roundP (s61, w64 (s610.2 + 1)) () hx695 trivial (by exact .cons rfl (.cons rfl (.cons rfl (.cons rfl (.cons rfl (.cons rfl (.nil))))))) (by exact .pick 0 rfl (.pick 0 rfl (.pick 0 rfl (.pick 0 rfl (.pick 0 rfl (.pick 0 rfl (.pick 0 rfl (.refl))))))))
              · skip
                refine T_block ?_
                refine T_seq ?_
                refine T_draw [0, 0, 0, 1, 0, 0, 1, 0, 1, 0, 0, 0, 0, 1, 0, 0, 1, 0, 1, 0, 2, 2] [[], [], [0, 1], [0, 1, 2], [], [0, 1, 2, 3, 4], [0, 1, 2, 3, 4, 5], [], [7], [0, 1, 2, 3, 4, 5, 6, 7, 8], [], [], [10, 11], [10, 11, 12], [], [10, 11, 12, 13, 14], [10, 11, 12, 13, 14, 15], [], [17], [10, 11, 12, 13, 14, 15, 16, 17, 18], [0, 1, 2, 3, 4, 5, 6, 7, 8, 9], [0, 1, 2, 3, 4, 5, 6, 7, 8, 9, 10, 11, 12, 13, 14, 15, 16, 17, 18, 19, 20]] (.q 0 (.q 1 (.q 2 (.q 3 (.q 4 (.q 5 (.q 6 (.q 7 (.q 8 (.q 9 (.q 10 (.q 11 (.q 12 (.q 13 (.q 14 (.q 15 (.q 16 (.q 17 (.q 18 (.q 19 (.e 20 (.e 21 (.done) (.stop)) (.stop)))))))))))))))))))))) mixed (by kernel_rfl) (by kernel_rfl) ?_
                refine P_p rfl rfl (Ev_move rfl) rfl ?_
                refine P_p rfl rfl (Ev_move rfl) rfl ?_
                obtain ⟨x629, h630, hx631⟩ := bnd_some hx627
                obtain ⟨b632, o633, j634, ys642, hA635, hj636, hl637, hp638, hr643⟩ := HasN.at_idx hs92 h630
                obtain ⟨A639, c640, rfl, hs641⟩ := hr643
                refine P_p rfl rfl (Ev_index rfl rfl hA635 (j := j634) hj636 hl637 slc91) rfl ?_
                refine P_q rfl rfl (Ev_loadP0 rfl hp638 (SubE.cons2 (i := 5) rfl (SubE.cons2 (i := 3) rfl (SubE.cons2 (i := 4) rfl (SubE.nil)))) rfl one27) rfl ?_
                refine P_p rfl rfl (Ev_move rfl) rfl ?_
                obtain ⟨x644, h645, hx646⟩ := bnd_some hx631
                obtain ⟨b647, o648, j649, hA650, hj651, hl652, hp653⟩ := Has.at_idx hs641 h645
                refine P_p rfl rfl (Ev_index rfl rfl hA650 (j := j649) hj651 hl652 slc27) rfl ?_
                refine P_q rfl rfl (Ev_loadP0 rfl hp653 (SubE.cons2 (i := 5) rfl (SubE.cons2 (i := 3) rfl (SubE.cons2 (i := 4) rfl (SubE.nil)))) rfl one3) rfl ?_
                refine P_p rfl rfl (Ev_field rfl fld23_3 rfl) rfl ?_
                refine P_q rfl rfl (Ev_load1 rfl (i := 6) rfl rfl one3) rfl ?_
                obtain ⟨h654, hx655⟩ := gd_some hx646
                refine P_p rfl rfl (Ev_rem rfl rfl h654) rfl ?_
                refine P_p rfl rfl (Ev_move rfl) rfl ?_
                refine P_p rfl rfl (Ev_move rfl) rfl ?_
                obtain ⟨x656, h657, hx658⟩ := bnd_some hx655
                obtain ⟨b659, o660, j661, ys669, hA662, hj663, hl664, hp665, hr670⟩ := HasN.at_idx hs92 h657
                obtain ⟨A666, c667, rfl, hs668⟩ := hr670
                refine P_p rfl rfl (Ev_index rfl rfl hA662 (j := j661) hj663 hl664 slc91) rfl ?_
                refine P_q rfl rfl (Ev_loadP0 rfl hp665 (SubE.cons2 (i := 5) rfl (SubE.cons2 (i := 3) rfl (SubE.cons2 (i := 4) rfl (SubE.nil)))) rfl one27) rfl ?_
                refine P_p rfl rfl (Ev_move rfl) rfl ?_
                obtain ⟨x671, h672, hx673⟩ := bnd_some hx658
                obtain ⟨b674, o675, j676, hA677, hj678, hl679, hp680⟩ := Has.at_idx hs668 h672
                refine P_p rfl rfl (Ev_index rfl rfl hA677 (j := j676) hj678 hl679 slc27) rfl ?_
                refine P_q rfl rfl (Ev_loadP0 rfl hp680 (SubE.cons2 (i := 5) rfl (SubE.cons2 (i := 3) rfl (SubE.cons2 (i := 4) rfl (SubE.nil)))) rfl one3) rfl ?_
                refine P_p rfl rfl (Ev_field rfl fld23_3 rfl) rfl ?_
                refine P_q rfl rfl (Ev_load1 rfl (i := 6) rfl rfl one3) rfl ?_
                obtain ⟨h681, hx682⟩ := gd_some hx673
                refine P_p rfl rfl (Ev_quo_w64 rfl rfl h681) rfl ?_
                refine P_x rfl (Wx_val (Ev_assign rfl) rfl ?_) ?_
                rotate_left; exact P_stop
                refine P_x rfl (Wx_val (Ev_assign rfl) rfl ?_) ?_
                rotate_left; exact P_stop
                refine P_done ?_
                refine T_next ?_
                refine T_reg ?_
                refine T_val (Ev_field rfl fld86_2 rfl) rfl ?_
                refine T_val (Ev_load1 rfl (i := 0) rfl rfl one4) rfl ?_
                refine T_val (Ev_move rfl) rfl ?_
                refine T_caseB (s := 85) rfl (fun h683 => ?_) (fun h683 => ?_)
                · have hx684 := ite_t h683 hx682
                  refine T_skipG rfl rfl rfl rfl rfl ?_
                  refine T_skipG rfl rfl rfl rfl rfl ?_
                  refine T_val (Ev_pickT rfl rfl) rfl ?_
                  refine T_val (Ev_move rfl) rfl ?_
                  refine T_skipG rfl rfl rfl rfl rfl ?_
                  refine T_skipG rfl rfl rfl rfl rfl ?_
                  refine T_skipG rfl rfl rfl rfl rfl ?_
                  refine T_skipG rfl rfl rfl rfl rfl ?_
                  refine T_skipG rfl rfl rfl rfl rfl ?_
                  refine T_val (Ev_pickT rfl rfl) rfl ?_
                  refine T_val (Ev_move rfl) rfl ?_
                  refine T_skipG rfl rfl rfl rfl rfl ?_
                  refine T_skipG rfl rfl rfl rfl rfl ?_
                  refine T_val (Ev_pickT rfl rfl) rfl ?_
                  refine T_val (Ev_move rfl) rfl ?_
                  refine T_skipG rfl rfl rfl rfl rfl ?_
                  refine T_skipG rfl rfl rfl rfl rfl ?_
                  refine T_skipG rfl rfl rfl rfl rfl ?_
                  refine T_skipG rfl rfl rfl rfl rfl ?_
                  refine T_skipG rfl rfl rfl rfl rfl ?_
                  refine T_val (Ev_pickT rfl rfl) rfl ?_
                  refine T_val (Ev_field rfl fld86_2 rfl) rfl ?_
                  refine T_h (Wh_store rfl rfl rfl (.here) (.skip (.skip (.put (.done)))) rfl (List.cons_ne_nil _ _) one4.2 ?_)
                  refine T_nil ?_
                  refine T_inN ?_
                  exact T_metP true () hx684 trivial (by exact .cons rfl (.cons rfl (.cons rfl (.cons rfl (.cons rfl (.cons rfl (.nil))))))) (by exact .pick 0 rfl (.pick 0 rfl (.pick 0 rfl (.pick 0 rfl (.pick 0 rfl (.pick 0 rfl (.pick 0 rfl (.refl))))))))
                · have hx685 := ite_bf h683 hx682
                  refine T_valG rfl rfl rfl (Ev_move rfl) rfl ?_
                  refine T_valG rfl rfl rfl (Ev_eql rfl rfl) rfl ?_
                  refine T_val (Ev_pickF rfl rfl) rfl ?_
                  refine T_val (Ev_move rfl) rfl ?_
                  refine T_caseP (s := 89) rfl (fun h686 => ?_) (fun h686 => ?_)
                  · have hx687 := ite_t h686 hx685
                    refine T_skipG rfl rfl rfl rfl rfl ?_
                    refine T_skipG rfl rfl rfl rfl rfl ?_
                    refine T_skipG rfl rfl rfl rfl rfl ?_
                    refine T_skipG rfl rfl rfl rfl rfl ?_
                    refine T_skipG rfl rfl rfl rfl rfl ?_
                    refine T_val (Ev_pickT rfl rfl) rfl ?_
                    refine T_val (Ev_move rfl) rfl ?_
                    refine T_skipG rfl rfl rfl rfl rfl ?_
                    refine T_skipG rfl rfl rfl rfl rfl ?_
                    refine T_val (Ev_pickT rfl rfl) rfl ?_
                    refine T_val (Ev_move rfl) rfl ?_
                    refine T_skipG rfl rfl rfl rfl rfl ?_
                    refine T_skipG rfl rfl rfl rfl rfl ?_
                    refine T_skipG rfl rfl rfl rfl rfl ?_
                    refine T_skipG rfl rfl rfl rfl rfl ?_
                    refine T_skipG rfl rfl rfl rfl rfl ?_
                    refine T_val (Ev_pickT rfl rfl) rfl ?_
                    refine T_val (Ev_field rfl fld86_2 rfl) rfl ?_
                    refine T_h (Wh_store rfl rfl rfl (.here) (.skip (.skip (.put (.done)))) rfl (List.cons_ne_nil _ _) one4.2 ?_)
                    refine T_nil ?_
                    refine T_inN ?_
                    exact T_metP true () hx687 trivial (by exact .cons rfl (.cons rfl (.cons rfl (.cons rfl (.cons rfl (.cons rfl (.nil))))))) (by exact .pick 0 rfl (.pick 0 rfl (.pick 0 rfl (.pick 0 rfl (.pick 0 rfl (.pick 0 rfl (.pick 0 rfl (.refl))))))))
                  · have hx688 := ite_f h686 hx685
                    refine T_valG rfl rfl rfl (Ev_move rfl) rfl ?_
                    refine T_valG rfl rfl rfl (Ev_field rfl fld23_3 rfl) rfl ?_
                    refine T_valG rfl rfl rfl (Ev_load1 rfl (i := 6) rfl rfl one3) rfl ?_
                    refine T_valG rfl rfl rfl (Ev_sub_w64 rfl rfl) rfl ?_
                    refine T_valG rfl rfl rfl (Ev_eql rfl rfl) rfl ?_
                    refine T_val (Ev_pickF rfl rfl) rfl ?_
                    refine T_val (Ev_move rfl) rfl ?_
                    refine T_caseP (s := 96) rfl (fun h689 => ?_) (fun h689 => ?_)
                    · have hx690 := ite_t h689 hx688
                      refine T_skipG rfl rfl rfl rfl rfl ?_
                      refine T_skipG rfl rfl rfl rfl rfl ?_
                      refine T_val (Ev_pickT rfl rfl) rfl ?_
                      refine T_val (Ev_move rfl) rfl ?_
                      refine T_skipG rfl rfl rfl rfl rfl ?_
                      refine T_skipG rfl rfl rfl rfl rfl ?_
                      refine T_skipG rfl rfl rfl rfl rfl ?_
                      refine T_skipG rfl rfl rfl rfl rfl ?_
                      refine T_skipG rfl rfl rfl rfl rfl ?_
                      refine T_val (Ev_pickT rfl rfl) rfl ?_
                      refine T_val (Ev_field rfl fld86_2 rfl) rfl ?_
                      refine T_h (Wh_store rfl rfl rfl (.here) (.skip (.skip (.put (.done)))) rfl (List.cons_ne_nil _ _) one4.2 ?_)
                      refine T_nil ?_
                      refine T_inN ?_
                      exact T_metP true () hx690 trivial (by exact .cons rfl (.cons rfl (.cons rfl (.cons rfl (.cons rfl (.cons rfl (.nil))))))) (by exact .pick 0 rfl (.pick 0 rfl (.pick 0 rfl (.pick 0 rfl (.pick 0 rfl (.pick 0 rfl (.pick 0 rfl (.refl))))))))
                    · have hx691 := ite_f h689 hx688
                      refine T_valG rfl rfl rfl (Ev_move rfl) rfl ?_
                      refine T_valG rfl rfl rfl (Ev_eql rfl rfl) rfl ?_
                      refine T_val (Ev_pickF rfl rfl) rfl ?_
                      refine T_val (Ev_move rfl) rfl ?_
                      refine T_caseP (s := 100) rfl (fun h692 => ?_) (fun h692 => ?_)
                      · have hx693 := ite_t h692 hx691
                        refine T_skipG rfl rfl rfl rfl rfl ?_
                        refine T_skipG rfl rfl rfl rfl rfl ?_
                        refine T_skipG rfl rfl rfl rfl rfl ?_
                        refine T_skipG rfl rfl rfl rfl rfl ?_
                        refine T_skipG rfl rfl rfl rfl rfl ?_
                        refine T_val (Ev_pickT rfl rfl) rfl ?_
                        refine T_val (Ev_field rfl fld86_2 rfl) rfl ?_
                        refine T_h (Wh_store rfl rfl rfl (.here) (.skip (.skip (.put (.done)))) rfl (List.cons_ne_nil _ _) one4.2 ?_)
                        refine T_nil ?_
                        refine T_inN ?_
                        exact T_metP true () hx693 trivial (by exact .cons rfl (.cons rfl (.cons rfl (.cons rfl (.cons rfl (.cons rfl (.nil))))))) (by exact .pick 0 rfl (.pick 0 rfl (.pick 0 rfl (.pick 0 rfl (.pick 0 rfl (.pick 0 rfl (.pick 0 rfl (.refl))))))))
                      · have hx694 := ite_f h692 hx691
                        refine T_valG rfl rfl rfl (Ev_move rfl) rfl ?_
                        refine T_valG rfl rfl rfl (Ev_field rfl fld23_4 rfl) rfl ?_
                        refine T_valG rfl rfl rfl (Ev_load1 rfl (i := 6) rfl rfl one3) rfl ?_
                        refine T_valG rfl rfl rfl (Ev_sub_w64 rfl rfl) rfl ?_
                        refine T_valG rfl rfl rfl (Ev_eql rfl rfl) rfl ?_
                        refine T_val (Ev_pickF rfl rfl) rfl ?_
                        refine T_val (Ev_field rfl fld86_2 rfl) rfl ?_
                        refine T_h (Wh_store rfl rfl rfl (.here) (.skip (.skip (.put (.done)))) rfl (List.cons_ne_nil _ _) one4.2 ?_)
                        refine T_nil ?_
                        refine T_inN ?_
                        exact T_metP (decide ((w64 (Int.tdiv x671 p0.Raster.NX)) = (w64 (p0.Raster.NY - 1)))) () hx694 trivial (by exact .cons rfl (.cons rfl (.cons rfl (.cons rfl (.cons rfl (.cons rfl (.nil))))))) (by exact .pick 0 rfl (.pick 0 rfl (.pick 0 rfl (.pick 0 rfl (.pick 0 rfl (.pick 0 rfl (.pick 0 rfl (.refl))))))))
            · have hx628 := ite_f h626 hx613
              refine T_condF rfl ?_
              refine T_exit ?_
              refine T_outX ?_
              obtain rfl := exit_eq ht610 hx628
              refine T_outX ?_
              refine T_here ?_
              exact T_metP s610.1 () ho610 trivial (by exact .cons rfl (.cons rfl (.cons rfl (.cons rfl (.cons rfl (.nil)))))) (by exact .pick 0 rfl (.pick 0 rfl (.pick 0 rfl (.pick 0 rfl (.pick 0 rfl (.pick 0 rfl (.pick 0 rfl (.refl))))))))
        · have hx506 := ite_f h504 hx501
          refine T_condF rfl ?_
          refine T_exit ?_
          refine T_outX ?_
          obtain rfl := exit_eq ht501 hx506
          refine T_outX ?_
          refine T_here ?_
          exact T_metP s501.1 (y501.1, y501.2.1, y501.2.2.1, y501.2.2.2) ho501 ((by exact ⟨lo502, (RowN.up (R := n_api_Hole) (L := ([.r (y7.1) ((s7).length) (y7.2) 3 1 ((s7).flatMap e_i64), e87, e88, y501.2.2.2] : List Ent)) n_api_Hole_mono hr503 (SubE.cons2 (i := 0) rfl (SubE.cons2 (i := 1) rfl (SubE.cons2 (i := 2) rfl (SubE.cons2 (i := 3) rfl (SubE.nil)))))), trivial⟩)) (by exact .cons rfl (.nil)) (by exact .pick 0 rfl (.pick 0 rfl (.pick 0 rfl (.pick 0 rfl (.pick 0 rfl (.drop 0 rfl (.refl)))))))
    · skip
      refine T_seq ?_
      refine T_reg ?_
      refine T_val (Ev_assign rfl) rfl ?_
      refine T_nil ?_
      refine T_next ?_
      refine T_block ?_
      obtain ⟨t45, hl45, ho45⟩ := bnd_some hx11
      refine T_loopP (σ := (List Int) × Int) (γ := (Option Addr) × Nat) hl45 (fun s45 y45 => [(1, .pointer (some ⟨g1, 0, none⟩)), (4, .pointer (some ⟨g8, 0, none⟩)), (5, .slice (y45.1) ((s45.1).length) (y45.2)), (6, .int .i64 (s45.2))]) (fun s45 y45 => [.r (y45.1) ((s45.1).length) (y45.2) 3 1 ((s45.1).flatMap e_i64), .m g8 23 [.int .i64 (p0.Raster.X0), .int .i64 (p0.Raster.Y0), .int .i64 (p0.Raster.Step), .int .i64 (p0.Raster.NX), .int .i64 (p0.Raster.NY)], .m g1 26 [.int .i64 (p0.Raster.X0), .int .i64 (p0.Raster.Y0), .int .i64 (p0.Raster.Step), .int .i64 (p0.Raster.NX), .int .i64 (p0.Raster.NY), .slice (A0_0) ((p0.Cells).length) (c0_0)]] ++ [.old w]) (fun s45 y45 => True) (A9, (List.replicate (Int.toNat ((((p0.Cells).length : Nat) : Int))) (0 : Int)).length) trivial (by exact .cons rfl (.cons rfl (.cons rfl (.cons rfl (.nil))))) (by exact .pick 0 rfl (.pick 0 rfl (.pick 0 rfl (.refl)))) ?_
      intro s45 y45 hG45 x45 hx45 ht45
      unfold lidarref09_Voids_l6 at hx45
      refine T_seq ?_
      refine T_seq ?_
      refine T_reg ?_
      refine T_val (Ev_move rfl) rfl ?_
      refine T_val (Ev_move rfl) rfl ?_
      refine T_val (Ev_len rfl 3 Try.underlying27) rfl ?_
      refine T_val (Ev_lss rfl rfl) rfl ?_
      refine T_nil ?_
      refine T_next ?_
      refine T_caseP (s := 26) rfl (fun h46 => ?_) (fun h46 => ?_)
      · have hx47 := ite_t h46 hx45
        refine T_condT rfl ?_
        refine T_skip ?_
        refine T_next ?_
        obtain ⟨j15, hj15, hx47⟩ := jn_some hx47
        refine T_cutP (τ := List Int) (γ := (Option Addr) × Nat) (J := j15) (out := x45) (fun s15 y15 => [(1, .pointer (some ⟨g1, 0, none⟩)), (4, .pointer (some ⟨g8, 0, none⟩)), (5, .slice (y15.1) ((s15).length) (y15.2)), (6, .int .i64 (s45.2))]) (fun s15 y15 => [.r (y15.1) ((s15).length) (y15.2) 3 1 ((s15).flatMap e_i64), .m g8 23 [.int .i64 (p0.Raster.X0), .int .i64 (p0.Raster.Y0), .int .i64 (p0.Raster.Step), .int .i64 (p0.Raster.NX), .int .i64 (p0.Raster.NY)], .m g1 26 [.int .i64 (p0.Raster.X0), .int .i64 (p0.Raster.Y0), .int .i64 (p0.Raster.Step), .int .i64 (p0.Raster.NX), .int .i64 (p0.Raster.NY), .slice (A0_0) ((p0.Cells).length) (c0_0)]] ++ [.old w]) (fun s15 y15 => True) ?_ ?_
        · intro s15 y15 hx74 hG75
          subst hj15
          refine T_reg ?_
          refine T_val (Ev_move rfl) rfl ?_
          refine T_val (Ev_add_w64 rfl rfl) rfl ?_
          refine T_val (Ev_assign rfl) rfl ?_
          refine T_nil ?_
          exact T_roundP (s15, w64 (s45.2 + 1)) (y15.1, y15.2) hx74 trivial (by exact .cons rfl (.cons rfl (.cons rfl (.cons rfl (.nil))))) (by exact .pick 0 rfl (.pick 0 rfl (.pick 0 rfl (.refl))))
        · skip
          refine T_block ?_
          refine T_seq ?_
          refine T_reg ?_
          refine T_val (Ev_field rfl fld26_1 rfl) rfl ?_
          refine T_val (Ev_load1 rfl (i := 2) rfl rfl one24) rfl ?_
          refine T_val (Ev_move rfl) rfl ?_
          obtain ⟨x49, h50, hx51⟩ := bnd_some hx47
          have hw59 := Has.low (E := []) ha0' hK
          obtain ⟨b52, o53, j54, hA55, hj56, hl57, hp58⟩ := Has.at_idx hw59 h50
          refine T_val (Ev_index rfl rfl hA55 (j := j54) hj56 hl57 slc24) rfl ?_
          refine T_val (Ev_field rfl fld41_0 rfl) rfl ?_
          refine T_val (Ev_loadP1 (d := 0) rfl hp58 (SubE.cons2 (i := 3) rfl (SubE.nil)) rfl one4) rfl ?_
          refine T_nil ?_
          refine T_next ?_
          refine T_caseB (s := 34) rfl (fun h60 => ?_) (fun h60 => ?_)
          · have hx61 := ite_t h60 hx51
            refine T_condT rfl ?_
            refine T_reg ?_
            refine T_val (Ev_move rfl) rfl ?_
            refine T_val (Ev_move rfl) rfl ?_
            obtain ⟨x62, h63, hx64⟩ := bnd_some hx61
            refine T_idxR (k := 0) rfl (by decide) (fun _ => rfl) h63 (fun b65 j67 hA68 hj69 hl70 hm72 hp71 => ?_)
            refine T_val (Ev_index rfl rfl hA68 (j := j67) hj69 hl70 slc27) rfl ?_
            refine T_h (Wh_storeP e_i64 (s45.1) (s45.2) (1) rfl rfl rfl (.here) hA68 rfl hj69 hl70 (fun _ => rfl) (by decide) rfl one3.2 ?_)
            refine T_nil ?_
            refine T_inN ?_
            have hn76 : (s45.1).length = (setI s45.1 s45.2 1).length := by simp [setI_len, cpy_len, List.length_append] <;> omega
            refine T_ent (.here) (e' := .r (y45.1) ((setI s45.1 s45.2 1).length) (y45.2) 3 1 ((setI s45.1 s45.2 1).flatMap e_i64)) (by first | (rw [← hn76]; done) | rfl) ?_
            refine T_slot (s := 5) (v' := .slice (y45.1) ((setI s45.1 s45.2 1).length) (y45.2)) rfl (by have hn77 : ((s45.1).length) = (setI s45.1 s45.2 1).length := (by simp [setI_len, cpy_len, List.length_append] <;> omega); first | (rw [← hn77]; done) | rfl) ?_
            exact T_metP (setI s45.1 s45.2 1) (y45.1, y45.2) hx64 trivial (by exact .cons rfl (.cons rfl (.cons rfl (.cons rfl (.nil))))) (by exact .pick 0 rfl (.pick 0 rfl (.pick 0 rfl (.refl))))
          · have hx73 := ite_bf h60 hx51
            refine T_condF rfl ?_
            refine T_skip ?_
            refine T_inN ?_
            exact T_metP s45.1 (y45.1, y45.2) hx73 trivial (by exact .cons rfl (.cons rfl (.cons rfl (.cons rfl (.nil))))) (by exact .pick 0 rfl (.pick 0 rfl (.pick 0 rfl (.refl))))
      · have hx48 := ite_f h46 hx45
        refine T_condF rfl ?_
        refine T_exit ?_
        refine T_outX ?_
        obtain rfl := exit_eq ht45 hx48
        refine T_outX ?_
        refine T_here ?_
        exact T_metP s45.1 (y45.1, y45.2) ho45 trivial (by exact .cons rfl (.cons rfl (.nil))) (by exact .pick 0 rfl (.pick 0 rfl (.drop 0 rfl (.refl))))
set_option maxRecDepth 100000 in
theorem lidarlaw09_ModelVoids_ok (p0 : S_api_Grid) {K : List Ent} {A0_0 : Option Addr} {c0_0 : Nat} (ha0 : Has K A0_0 (p0.Cells).length c0_0 3 e_api_Cell (p0.Cells)) {r : Bool} (hx : lidarlaw09_ModelVoids p0 = some r) (w : World) (hK : ∀ e ∈ K, Ent.ok w e) : CtL Try.prog 13 [.agg #[.int .i64 (p0.Raster.X0), .int .i64 (p0.Raster.Y0), .int .i64 (p0.Raster.Step), .int .i64 (p0.Raster.NX), .int .i64 (p0.Raster.NY), .slice (A0_0) ((p0.Cells).length) (c0_0)]] w fun v Ln => v = .bool (r) ∧ Ln = [] ∧ True := by
  have ha0' := Has.up0 ha0
  refine CtL.mk 83 Try.func13 rfl Try.ntmps13 (by kernel_rfl) rfl ?_
  show T 83 _ [(0, .agg #[.int .i64 (p0.Raster.X0), .int .i64 (p0.Raster.Y0), .int .i64 (p0.Raster.Step), .int .i64 (p0.Raster.NX), .int .i64 (p0.Raster.NY), .slice (A0_0) ((p0.Cells).length) (c0_0)])] _
  unfold lidarlaw09_ModelVoids at hx
  refine T_seq ?_
  refine T_reg ?_
  refine T_x (Wx_box rfl rfl rfl (fun g1 => ?_))
  refine T_val (Ev_assign rfl) rfl ?_
  refine T_nil ?_
  refine T_next ?_
  refine T_seq ?_
  refine T_seq ?_
  refine T_reg ?_
  refine T_val (Ev_loadK rfl (i := 0) rfl rfl agg26) rfl ?_
  obtain ⟨r2, h3, hx4⟩ := bnd_some hx
  refine T_x (Wx_callL rfl (fun w1 hw1 => lidarlaw09_heavy_ok p0 (Has.len' ha0') h3 w1 (okApp (K := K) (K2 := []) hK (by exact (SubE.cons2 (i := 1) rfl (SubE.nil))) (by exact (SubE.nil)) hw1)) rfl ?_)
  rintro _ _ hlo ⟨rfl, rfl, -⟩
  refine T_app0 ?_
  refine T_nil ?_
  refine T_next ?_
  refine T_caseB (s := 9) rfl (fun h5 => ?_) (fun h5 => ?_)
  · have hx6 := ite_t h5 hx4
    refine T_condT rfl ?_
    refine T_seq ?_
    refine T_reg ?_
    obtain ⟨r7, h8, hx9⟩ := bnd_some hx6
    refine T_x (Wx_callL rfl (fun w1 hw1 => lidarlaw09_first_ok  h8 w1) rfl ?_)
    rintro _ _ hlo ⟨rfl, rfl, -⟩
    refine T_app0 ?_
    refine T_val (Ev_assign rfl) rfl ?_
    refine T_nil ?_
    refine T_next ?_
    refine T_retc ?_
    refine T_outR ?_
    obtain rfl := Option.some.inj hx9
    exact T_retP (rs := [.tmp 2]) Try.results13 (.tmp rfl (.nil)) (Ln := []) ⟨rfl, rfl, trivial⟩ (loNil) (by exact .drop 0 rfl (.refl))
  · have hx10 := ite_bf h5 hx4
    refine T_condF rfl ?_
    refine T_skip ?_
    refine T_next ?_
    refine T_seq ?_
    refine T_reg ?_
    refine T_val (Ev_loadK rfl (i := 0) rfl rfl agg26) rfl ?_
    obtain ⟨r11, h12, hx13⟩ := bnd_some hx10
    refine T_x (Wx_callL rfl (fun w1 hw1 => model_Voids_ok p0 (Has.len' ha0') h12 w1 (okApp (K := K) (K2 := []) hK (by exact (SubE.cons2 (i := 1) rfl (SubE.nil))) (by exact (SubE.nil)) hw1)) rfl ?_)
    rintro _ _ hlo ⟨A14, c15, e16, e17, e18, rfl, rfl, hs19, -⟩
    have lo20 := hlo e16 (by simp)
    have lo21 := hlo e17 (by simp)
    have lo22 := hlo e18 (by simp)
    refine T_app3 ?_
    have hs23 : HasN (K ++ [e16, e17, e18]) _ _ _ _ _ _ := HasN.assoc hs19
    refine T_val (Ev_move rfl) rfl ?_
    refine T_val (Ev_extract rfl rfl) rfl ?_
    refine T_val (Ev_extract rfl rfl) rfl ?_
    refine T_val (Ev_assign rfl) rfl ?_
    refine T_val (Ev_assign rfl) rfl ?_
    refine T_nil ?_
    refine T_next ?_
    refine T_seq ?_
    refine T_reg ?_
    refine T_val (Ev_loadK rfl (i := 3) rfl rfl agg26) rfl ?_
    obtain ⟨r24, h25, hx26⟩ := bnd_some hx13
    refine T_x (Wx_callL rfl (fun w1 hw1 => lidarref09_Voids_ok p0 (Has.len' ha0') h25 w1 (okApp (K := K) (K2 := []) hK (by exact (SubE.cons2 (i := 4) rfl (SubE.nil))) (by exact (SubE.nil)) hw1)) rfl ?_)
    rintro _ _ hlo ⟨A27, c28, e29, e30, e31, e32, e33, rfl, rfl, hs34, -⟩
    have lo35 := hlo e29 (by simp)
    have lo36 := hlo e30 (by simp)
    have lo37 := hlo e31 (by simp)
    have lo38 := hlo e32 (by simp)
    have lo39 := hlo e33 (by simp)
    refine T_app5 ?_
    have hs40 : HasN (K ++ [e29, e30, e31, e32, e33]) _ _ _ _ _ _ := HasN.assoc hs34
    refine T_val (Ev_move rfl) rfl ?_
    refine T_val (Ev_extract rfl rfl) rfl ?_
    refine T_val (Ev_extract rfl rfl) rfl ?_
    refine T_val (Ev_assign rfl) rfl ?_
    refine T_val (Ev_assign rfl) rfl ?_
    refine T_nil ?_
    refine T_next ?_
    refine T_seq ?_
    obtain ⟨j8, hj8, hx26⟩ := jn_some hx26
    refine T_cutP (τ := Bool) (γ := Unit) (J := j8) (out := r) (fun s8 y8 => [(3, .slice (A14) ((r11.1).length) (c15)), (5, .slice (A27) ((r24.1).length) (c28)), (37, .bool (s8))]) (fun s8 y8 => [e29, e30, e31, e32, e33, e16, e17, e18] ++ [.old w]) (fun s8 y8 => True) ?_ ?_
    · intro s8 y8 hx53 hG54
      subst hj8
      refine T_caseB (s := 37) rfl (fun h55 => ?_) (fun h55 => ?_)
      · have hx56 := ite_t h55 hx53
        refine T_condT rfl ?_
        refine T_seq ?_
        refine T_reg ?_
        refine T_val (Ev_assign rfl) rfl ?_
        refine T_nil ?_
        refine T_next ?_
        refine T_retc ?_
        refine T_outR ?_
        obtain rfl := Option.some.inj hx56
        exact T_retP (rs := [.tmp 2]) Try.results13 (.tmp rfl (.nil)) (Ln := []) ⟨rfl, rfl, trivial⟩ (loNil) (by exact .drop 0 rfl (.drop 0 rfl (.drop 0 rfl (.drop 0 rfl (.drop 0 rfl (.drop 0 rfl (.drop 0 rfl (.drop 0 rfl (.refl)))))))))
      · have hx57 := ite_bf h55 hx53
        refine T_condF rfl ?_
        refine T_skip ?_
        refine T_next ?_
        obtain ⟨j10, hj10, hx57⟩ := jn_some hx57
        refine T_cutP (τ := Unit) (γ := Unit) (J := j10) (out := r) (fun s10 y10 => []) (fun s10 y10 => [] ++ [.old w]) (fun s10 y10 => True) ?_ ?_
        · intro s10 y10 hx286 hG287
          subst hj10
          refine T_seq ?_
          refine T_reg ?_
          obtain ⟨r288, h289, hx290⟩ := bnd_some hx286
          refine T_x (Wx_callL rfl (fun w1 hw1 => lidarlaw09_first_ok  h289 w1) rfl ?_)
          rintro _ _ hlo ⟨rfl, rfl, -⟩
          refine T_app0 ?_
          refine T_val (Ev_assign rfl) rfl ?_
          refine T_nil ?_
          refine T_next ?_
          refine T_retc ?_
          obtain rfl := Option.some.inj hx290
          exact T_retP (rs := [.tmp 2]) Try.results13 (.tmp rfl (.nil)) (Ln := []) ⟨rfl, rfl, trivial⟩ (loNil) (by exact .refl)
        · skip
          refine T_seq ?_
          refine T_reg ?_
          refine T_val (Ev_assign rfl) rfl ?_
          refine T_nil ?_
          refine T_next ?_
          refine T_block ?_
          obtain ⟨t172, hl172, ho172⟩ := bnd_some hx57
          refine T_loopP (σ := Int) (γ := Unit) hl172 (fun s172 y172 => [(3, .slice (A14) ((r11.1).length) (c15)), (5, .slice (A27) ((r24.1).length) (c28)), (7, .int .i64 (s172))]) (fun s172 y172 => [e29, e30, e31, e32, e33, e16, e17, e18] ++ [.old w]) (fun s172 y172 => True) () trivial (by exact .cons rfl (.cons rfl (.cons rfl (.nil)))) (by exact .pick 0 rfl (.pick 0 rfl (.pick 0 rfl (.pick 0 rfl (.pick 0 rfl (.pick 0 rfl (.pick 0 rfl (.pick 0 rfl (.refl))))))))) ?_
          intro s172 y172 hG172 x172 hx172 ht172
          unfold lidarlaw09_ModelVoids_l8 at hx172
          refine T_seq ?_
          refine T_seq ?_
          refine T_reg ?_
          refine T_val (Ev_move rfl) rfl ?_
          refine T_val (Ev_move rfl) rfl ?_
          refine T_val (Ev_len rfl 86 Try.underlying82) rfl ?_
          refine T_val (Ev_lss rfl rfl) rfl ?_
          refine T_nil ?_
          refine T_next ?_
          refine T_caseP (s := 41) rfl (fun h173 => ?_) (fun h173 => ?_)
          · have hx174 := ite_t h173 hx172
            refine T_condT rfl ?_
            refine T_skip ?_
            refine T_next ?_
            refine T_seq ?_
            refine T_block ?_
            obtain ⟨j20, hj20, hx174⟩ := jn_some hx174
            refine T_cutP (τ := Bool) (γ := Unit) (J := j20) (out := x172) (fun s20 y20 => [(3, .slice (A14) ((r11.1).length) (c15)), (5, .slice (A27) ((r24.1).length) (c28)), (7, .int .i64 (s172)), (81, .bool (s20))]) (fun s20 y20 => [e29, e30, e31, e32, e33, e16, e17, e18] ++ [.old w]) (fun s20 y20 => True) ?_ ?_
            · intro s20 y20 hx281 hG282
              subst hj20
              refine T_caseB (s := 81) rfl (fun h283 => ?_) (fun h283 => ?_)
              · have hx284 := ite_t h283 hx281
                refine T_condT rfl ?_
                refine T_seq ?_
                refine T_reg ?_
                refine T_val (Ev_assign rfl) rfl ?_
                refine T_nil ?_
                refine T_next ?_
                refine T_retc ?_
                refine T_inR ?_
                refine T_outR ?_
                obtain rfl := exit_eq ht172 hx284
                refine T_outR ?_
                refine T_inR ?_
                refine T_outR ?_
                obtain rfl := Option.some.inj ho172
                exact T_retP (rs := [.tmp 2]) Try.results13 (.tmp rfl (.nil)) (Ln := []) ⟨rfl, rfl, trivial⟩ (loNil) (by exact .drop 0 rfl (.drop 0 rfl (.drop 0 rfl (.drop 0 rfl (.drop 0 rfl (.drop 0 rfl (.drop 0 rfl (.drop 0 rfl (.refl)))))))))
              · have hx285 := ite_bf h283 hx281
                refine T_condF rfl ?_
                refine T_skip ?_
                refine T_inN ?_
                refine T_next ?_
                refine T_reg ?_
                refine T_val (Ev_move rfl) rfl ?_
                refine T_val (Ev_add_w64 rfl rfl) rfl ?_
                refine T_val (Ev_assign rfl) rfl ?_
                refine T_nil ?_
                exact T_roundP (w64 (s172 + 1)) () hx285 trivial (by exact .cons rfl (.cons rfl (.cons rfl (.nil)))) (by exact .pick 0 rfl (.pick 0 rfl (.pick 0 rfl (.pick 0 rfl (.pick 0 rfl (.pick 0 rfl (.pick 0 rfl (.pick 0 rfl (.refl)))))))))
            · skip
              refine T_draw [0, 0, 0, 0, 1, 0, 0, 0, 0, 1, 0, 0, 0, 0, 0, 0, 1, 0, 0, 0, 0, 1, 0, 0, 0, 0, 0, 0, 0, 1, 0, 0, 0, 0, 1, 2, 0, 0] [[], [], [0, 1], [0, 1, 2], [0, 1, 2, 3], [], [], [5, 6], [5, 6, 7], [5, 6, 7, 8], [0, 1, 2, 3, 4, 5, 6, 7, 8, 9], [0, 1, 2, 3, 4, 5, 6, 7, 8, 9, 10], [0, 1, 2, 3, 4, 5, 6, 7, 8, 9, 10, 11], [0, 1, 2, 3, 4, 5, 6, 7, 8, 9, 10, 11], [0, 1, 2, 3, 4, 5, 6, 7, 8, 9, 10, 11, 12, 13], [0, 1, 2, 3, 4, 5, 6, 7, 8, 9, 10, 11, 12, 13, 14], [0, 1, 2, 3, 4, 5, 6, 7, 8, 9, 10, 11, 12, 13, 14, 15], [0, 1, 2, 3, 4, 5, 6, 7, 8, 9, 10, 11], [0, 1, 2, 3, 4, 5, 6, 7, 8, 9, 10, 11], [0, 1, 2, 3, 4, 5, 6, 7, 8, 9, 10, 11, 17, 18], [0, 1, 2, 3, 4, 5, 6, 7, 8, 9, 10, 11, 17, 18, 19], [0, 1, 2, 3, 4, 5, 6, 7, 8, 9, 10, 11, 17, 18, 19, 20], [0, 1, 2, 3, 4, 5, 6, 7, 8, 9, 10, 11, 12, 13, 14, 15, 16, 17, 18, 19, 20, 21], [0, 1, 2, 3, 4, 5, 6, 7, 8, 9, 10, 11, 12, 13, 14, 15, 16, 17, 18, 19, 20, 21, 22], [0, 1, 2, 3, 4, 5, 6, 7, 8, 9, 10, 11, 12, 13, 14, 15, 16, 17, 18, 19, 20, 21, 22, 23], [0, 1, 2, 3, 4, 5, 6, 7, 8, 9, 10, 11, 12, 13, 14, 15, 16, 17, 18, 19, 20, 21, 22, 23, 24], [0, 1, 2, 3, 4, 5, 6, 7, 8, 9, 10, 11, 12, 13, 14, 15, 16, 17, 18, 19, 20, 21, 22, 23, 24], [0, 1, 2, 3, 4, 5, 6, 7, 8, 9, 10, 11, 12, 13, 14, 15, 16, 17, 18, 19, 20, 21, 22, 23, 24, 25, 26], [0, 1, 2, 3, 4, 5, 6, 7, 8, 9, 10, 11, 12, 13, 14, 15, 16, 17, 18, 19, 20, 21, 22, 23, 24, 25, 26, 27], [0, 1, 2, 3, 4, 5, 6, 7, 8, 9, 10, 11, 12, 13, 14, 15, 16, 17, 18, 19, 20, 21, 22, 23, 24, 25, 26, 27, 28], [0, 1, 2, 3, 4, 5, 6, 7, 8, 9, 10, 11, 12, 13, 14, 15, 16, 17, 18, 19, 20, 21, 22, 23, 24], [0, 1, 2, 3, 4, 5, 6, 7, 8, 9, 10, 11, 12, 13, 14, 15, 16, 17, 18, 19, 20, 21, 22, 23, 24], [0, 1, 2, 3, 4, 5, 6, 7, 8, 9, 10, 11, 12, 13, 14, 15, 16, 17, 18, 19, 20, 21, 22, 23, 24, 30, 31], [0, 1, 2, 3, 4, 5, 6, 7, 8, 9, 10, 11, 12, 13, 14, 15, 16, 17, 18, 19, 20, 21, 22, 23, 24, 30, 31, 32], [0, 1, 2, 3, 4, 5, 6, 7, 8, 9, 10, 11, 12, 13, 14, 15, 16, 17, 18, 19, 20, 21, 22, 23, 24, 30, 31, 32, 33], [0, 1, 2, 3, 4, 5, 6, 7, 8, 9, 10, 11, 12, 13, 14, 15, 16, 17, 18, 19, 20, 21, 22, 23, 24, 25, 26, 27, 28, 29, 30, 31, 32, 33, 34], [0, 1, 2, 3, 4, 5, 6, 7, 8, 9, 10, 11, 12, 13, 14, 15, 16, 17, 18, 19, 20, 21, 22, 23, 24, 25, 26, 27, 28, 29, 30, 31, 32, 33, 34, 35], [0, 1, 2, 3, 4, 5, 6, 7, 8, 9, 10, 11, 12, 13, 14, 15, 16, 17, 18, 19, 20, 21, 22, 23, 24, 25, 26, 27, 28, 29, 30, 31, 32, 33, 34, 35, 36]] (.q 0 (.q 1 (.q 2 (.q 3 (.q 4 (.q 5 (.q 6 (.q 7 (.q 8 (.q 9 (.q 10 (.q 11 (.q 12 (.q 13 (.q 14 (.q 15 (.q 16 (.q 17 (.q 18 (.q 19 (.q 20 (.q 21 (.q 22 (.q 23 (.q 24 (.q 25 (.q 26 (.q 27 (.q 28 (.q 29 (.q 30 (.q 31 (.q 32 (.q 33 (.q 34 (.e 35 (.q 36 (.q 37 (.done))) (.stop))))))))))))))))))))))))))))))))))))) mixed (by kernel_rfl) (by kernel_rfl) ?_
              refine P_p rfl rfl (Ev_move rfl) rfl ?_
              refine P_p rfl rfl (Ev_move rfl) rfl ?_
              obtain ⟨x176, h177, hx178⟩ := bnd_some hx174
              obtain ⟨b179, o180, j181, ys189, hA182, hj183, hl184, hp185, hr190⟩ := HasN.at_idx hs23 h177
              obtain ⟨A186, c187, rfl, hs188⟩ := hr190
              have hp191 := Pt.low (E := [e16, e17, e18]) hp185 hK
              refine P_p rfl rfl (Ev_index rfl rfl hA182 (j := j181) hj183 hl184 slc82) rfl ?_
              refine P_p rfl rfl (Ev_field rfl fld86_0 rfl) rfl ?_
              refine P_q rfl rfl (Ev_loadP1 (d := 0) rfl hp191 (SubE.cons2 (i := 8) rfl (SubE.cons2 (i := 5) rfl (SubE.cons2 (i := 6) rfl (SubE.cons2 (i := 7) rfl (SubE.nil))))) rfl one3) rfl ?_
              refine P_p rfl rfl (Ev_move rfl) rfl ?_
              refine P_p rfl rfl (Ev_move rfl) rfl ?_
              obtain ⟨x192, h193, hx194⟩ := bnd_some hx178
              obtain ⟨b195, o196, j197, ys205, hA198, hj199, hl200, hp201, hr206⟩ := HasN.at_idx hs40 h193
              obtain ⟨A202, c203, rfl, hs204⟩ := hr206
              have hp207 := Pt.low (E := [e29, e30, e31, e32, e33]) hp201 hK
              refine P_p rfl rfl (Ev_index rfl rfl hA198 (j := j197) hj199 hl200 slc82) rfl ?_
              refine P_p rfl rfl (Ev_field rfl fld86_0 rfl) rfl ?_
              refine P_q rfl rfl (Ev_loadP1 (d := 0) rfl hp207 (SubE.cons2 (i := 8) rfl (SubE.cons2 (i := 0) rfl (SubE.cons2 (i := 1) rfl (SubE.cons2 (i := 2) rfl (SubE.cons2 (i := 3) rfl (SubE.cons2 (i := 4) rfl (SubE.nil))))))) rfl one3) rfl ?_
              refine P_p rfl rfl (Ev_neq rfl rfl) rfl ?_
              refine P_p rfl rfl (Ev_move rfl) rfl ?_
              refine T_caseNP (s := 55) rfl (fun h208 => ?_) (fun h208 => ?_)
              · have hx209 := ite_f h208 hx194
                refine P_skip rfl rfl rfl rfl rfl rfl ?_
                refine P_skip rfl rfl rfl rfl rfl rfl ?_
                refine P_skip rfl rfl rfl rfl rfl rfl ?_
                refine P_skip rfl rfl rfl rfl rfl rfl ?_
                refine P_skip rfl rfl rfl rfl rfl rfl ?_
                refine P_skip rfl rfl rfl rfl rfl rfl ?_
                refine P_skip rfl rfl rfl rfl rfl rfl ?_
                refine P_skip rfl rfl rfl rfl rfl rfl ?_
                refine P_skip rfl rfl rfl rfl rfl rfl ?_
                refine P_skip rfl rfl rfl rfl rfl rfl ?_
                refine P_skip rfl rfl rfl rfl rfl rfl ?_
                refine P_p rfl rfl (Ev_pickT rfl rfl) rfl ?_
                refine P_p rfl rfl (Ev_move rfl) rfl ?_
                refine P_skip rfl rfl rfl rfl rfl rfl ?_
                refine P_skip rfl rfl rfl rfl rfl rfl ?_
                refine P_skip rfl rfl rfl rfl rfl rfl ?_
                refine P_skip rfl rfl rfl rfl rfl rfl ?_
                refine P_skip rfl rfl rfl rfl rfl rfl ?_
                refine P_skip rfl rfl rfl rfl rfl rfl ?_
                refine P_skip rfl rfl rfl rfl rfl rfl ?_
                refine P_skip rfl rfl rfl rfl rfl rfl ?_
                refine P_skip rfl rfl rfl rfl rfl rfl ?_
                refine P_skip rfl rfl rfl rfl rfl rfl ?_
                refine P_skipE rfl rfl rfl rfl rfl rfl ?_ ?_
                rotate_left; exact P_stop
                refine P_skip rfl rfl rfl rfl rfl rfl ?_
                refine P_p rfl rfl (Ev_pickT rfl rfl) rfl ?_
                refine P_done ?_
                exact T_metP true () hx209 trivial (by exact .cons rfl (.cons rfl (.cons rfl (.cons rfl (.nil))))) (by exact .pick 0 rfl (.pick 0 rfl (.pick 0 rfl (.pick 0 rfl (.pick 0 rfl (.pick 0 rfl (.pick 0 rfl (.pick 0 rfl (.refl)))))))))
              · have hx210 := ite_t h208 hx194
                refine P_pG rfl rfl rfl rfl rfl (Ev_move rfl) rfl ?_
                refine P_pG rfl rfl rfl rfl rfl (Ev_move rfl) rfl ?_
                obtain ⟨x211, h212, hx213⟩ := bnd_some hx210
                obtain ⟨b214, o215, j216, ys224, hA217, hj218, hl219, hp220, hr225⟩ := HasN.at_idx hs23 h212
                obtain ⟨A221, c222, rfl, hs223⟩ := hr225
                have hp226 := Pt.low (E := [e16, e17, e18]) hp220 hK
                refine P_pG rfl rfl rfl rfl rfl (Ev_index rfl rfl hA217 (j := j216) hj218 hl219 slc82) rfl ?_
                refine P_pG rfl rfl rfl rfl rfl (Ev_field rfl fld86_2 rfl) rfl ?_
                refine P_qG rfl rfl rfl rfl rfl (Ev_loadP1 (d := 2) rfl hp226 (SubE.cons2 (i := 8) rfl (SubE.cons2 (i := 5) rfl (SubE.cons2 (i := 6) rfl (SubE.cons2 (i := 7) rfl (SubE.nil))))) rfl one4) rfl ?_
                refine P_pG rfl rfl rfl rfl rfl (Ev_move rfl) rfl ?_
                refine P_pG rfl rfl rfl rfl rfl (Ev_move rfl) rfl ?_
                obtain ⟨x227, h228, hx229⟩ := bnd_some hx213
                obtain ⟨b230, o231, j232, ys240, hA233, hj234, hl235, hp236, hr241⟩ := HasN.at_idx hs40 h228
                obtain ⟨A237, c238, rfl, hs239⟩ := hr241
                have hp242 := Pt.low (E := [e29, e30, e31, e32, e33]) hp236 hK
                refine P_pG rfl rfl rfl rfl rfl (Ev_index rfl rfl hA233 (j := j232) hj234 hl235 slc82) rfl ?_
                refine P_pG rfl rfl rfl rfl rfl (Ev_field rfl fld86_2 rfl) rfl ?_
                refine P_qG rfl rfl rfl rfl rfl (Ev_loadP1 (d := 2) rfl hp242 (SubE.cons2 (i := 8) rfl (SubE.cons2 (i := 0) rfl (SubE.cons2 (i := 1) rfl (SubE.cons2 (i := 2) rfl (SubE.cons2 (i := 3) rfl (SubE.cons2 (i := 4) rfl (SubE.nil))))))) rfl one4) rfl ?_
                refine P_pG rfl rfl rfl rfl rfl (Ev_neqB rfl rfl (by kernel_rfl)) rfl ?_
                refine P_p rfl rfl (Ev_pickF rfl rfl) rfl ?_
                refine P_p rfl rfl (Ev_move rfl) rfl ?_
                refine T_caseNB (s := 68) rfl (fun h243 => ?_) (fun h243 => ?_)
                · have hx244 := ite_bf h243 hx229
                  refine P_skip rfl rfl rfl rfl rfl rfl ?_
                  refine P_skip rfl rfl rfl rfl rfl rfl ?_
                  refine P_skip rfl rfl rfl rfl rfl rfl ?_
                  refine P_skip rfl rfl rfl rfl rfl rfl ?_
                  refine P_skip rfl rfl rfl rfl rfl rfl ?_
                  refine P_skip rfl rfl rfl rfl rfl rfl ?_
                  refine P_skip rfl rfl rfl rfl rfl rfl ?_
                  refine P_skip rfl rfl rfl rfl rfl rfl ?_
                  refine P_skip rfl rfl rfl rfl rfl rfl ?_
                  refine P_skip rfl rfl rfl rfl rfl rfl ?_
                  refine P_skipE rfl rfl rfl rfl rfl rfl ?_ ?_
                  rotate_left; exact P_stop
                  refine P_skip rfl rfl rfl rfl rfl rfl ?_
                  refine P_p rfl rfl (Ev_pickT rfl rfl) rfl ?_
                  refine P_done ?_
                  exact T_metP true () hx244 trivial (by exact .cons rfl (.cons rfl (.cons rfl (.cons rfl (.nil))))) (by exact .pick 0 rfl (.pick 0 rfl (.pick 0 rfl (.pick 0 rfl (.pick 0 rfl (.pick 0 rfl (.pick 0 rfl (.pick 0 rfl (.refl)))))))))
                · have hx245 := ite_t h243 hx229
                  refine P_pG rfl rfl rfl rfl rfl (Ev_move rfl) rfl ?_
                  refine P_pG rfl rfl rfl rfl rfl (Ev_move rfl) rfl ?_
                  obtain ⟨x246, h247, hx248⟩ := bnd_some hx245
                  obtain ⟨b249, o250, j251, ys259, hA252, hj253, hl254, hp255, hr260⟩ := HasN.at_idx hs23 h247
                  obtain ⟨A256, c257, rfl, hs258⟩ := hr260
                  have hp261 := Pt.low (E := [e16, e17, e18]) hp255 hK
                  refine P_pG rfl rfl rfl rfl rfl (Ev_index rfl rfl hA252 (j := j251) hj253 hl254 slc82) rfl ?_
                  refine P_pG rfl rfl rfl rfl rfl (Ev_field rfl fld86_1 rfl) rfl ?_
                  refine P_qG rfl rfl rfl rfl rfl (Ev_loadP1 (d := 1) rfl hp261 (SubE.cons2 (i := 8) rfl (SubE.cons2 (i := 5) rfl (SubE.cons2 (i := 6) rfl (SubE.cons2 (i := 7) rfl (SubE.nil))))) rfl one27) rfl ?_
                  refine P_pG rfl rfl rfl rfl rfl (Ev_move rfl) rfl ?_
                  refine P_pG rfl rfl rfl rfl rfl (Ev_move rfl) rfl ?_
                  obtain ⟨x262, h263, hx264⟩ := bnd_some hx248
                  obtain ⟨b265, o266, j267, ys275, hA268, hj269, hl270, hp271, hr276⟩ := HasN.at_idx hs40 h263
                  obtain ⟨A272, c273, rfl, hs274⟩ := hr276
                  have hp277 := Pt.low (E := [e29, e30, e31, e32, e33]) hp271 hK
                  refine P_pG rfl rfl rfl rfl rfl (Ev_index rfl rfl hA268 (j := j267) hj269 hl270 slc82) rfl ?_
                  refine P_pG rfl rfl rfl rfl rfl (Ev_field rfl fld86_1 rfl) rfl ?_
                  refine P_qG rfl rfl rfl rfl rfl (Ev_loadP1 (d := 1) rfl hp277 (SubE.cons2 (i := 8) rfl (SubE.cons2 (i := 0) rfl (SubE.cons2 (i := 1) rfl (SubE.cons2 (i := 2) rfl (SubE.cons2 (i := 3) rfl (SubE.cons2 (i := 4) rfl (SubE.nil))))))) rfl one27) rfl ?_
                  obtain ⟨r278, h279, hx280⟩ := bnd_some hx264
                  refine P_xG rfl rfl rfl rfl (Wx_callL rfl (fun w1 hw1 => lidarlaw09_sameInts_ok x246.Nodes x262.Nodes (Has.len' (Has.up (L := (K ++ [e16, e17, e18, e29, e30, e31, e32, e33])) hs258 (SubE.app2 (SubE.cons2 (i := 0) rfl (SubE.cons2 (i := 1) rfl (SubE.cons2 (i := 2) rfl (SubE.nil))))))) (Has.len' (Has.up (L := (K ++ [e16, e17, e18, e29, e30, e31, e32, e33])) hs274 (SubE.app2 (SubE.cons2 (i := 3) rfl (SubE.cons2 (i := 4) rfl (SubE.cons2 (i := 5) rfl (SubE.cons2 (i := 6) rfl (SubE.cons2 (i := 7) rfl (SubE.nil))))))))) h279 w1 (okApp (K := K) (K2 := [e16, e17, e18, e29, e30, e31, e32, e33]) hK (by exact (SubE.cons2 (i := 8) rfl (SubE.nil))) (by exact (SubE.cons2 (i := 5) rfl (SubE.cons2 (i := 6) rfl (SubE.cons2 (i := 7) rfl (SubE.cons2 (i := 0) rfl (SubE.cons2 (i := 1) rfl (SubE.cons2 (i := 2) rfl (SubE.cons2 (i := 3) rfl (SubE.cons2 (i := 4) rfl (SubE.nil)))))))))) hw1)) rfl ?_) ?_
                  rotate_left; exact P_stop
                  rintro _ _ hlo ⟨rfl, rfl, -⟩
                  refine T_app0 ?_
                  refine P_pG rfl rfl rfl rfl rfl (Ev_not rfl) rfl ?_
                  refine P_p rfl rfl (Ev_pickF rfl rfl) rfl ?_
                  refine P_done ?_
                  exact T_metP (!(r278)) () hx280 trivial (by exact .cons rfl (.cons rfl (.cons rfl (.cons rfl (.nil))))) (by exact .pick 0 rfl (.pick 0 rfl (.pick 0 rfl (.pick 0 rfl (.pick 0 rfl (.pick 0 rfl (.pick 0 rfl (.pick 0 rfl (.refl)))))))))
          · have hx175 := ite_f h173 hx172
            refine T_condF rfl ?_
            refine T_exit ?_
            refine T_outX ?_
            obtain rfl := exit_eq ht172 hx175
            refine T_outX ?_
            refine T_here ?_
            exact T_metP () () ho172 trivial (by exact .nil) (by exact .drop 0 rfl (.drop 0 rfl (.drop 0 rfl (.drop 0 rfl (.drop 0 rfl (.drop 0 rfl (.drop 0 rfl (.drop 0 rfl (.refl)))))))))
    · skip
      refine T_draw [1, 2, 1, 2, 0, 0, 0, 0, 0, 0, 0, 0, 0, 0, 0, 0, 0] [[], [0], [], [0, 1, 2], [0, 1, 2, 3], [0, 1, 2, 3, 4], [0, 1, 2, 3, 4, 5], [0, 1, 2, 3, 4, 5], [0, 1, 2, 3, 4, 5, 6, 7], [0, 1, 2, 3, 4, 5, 6, 7, 8], [0, 1, 2, 3, 4, 5, 6, 7, 8, 9], [0, 1, 2, 3, 4, 5, 6, 7, 8, 9, 10], [0, 1, 2, 3, 4, 5, 6, 7, 8, 9, 10, 11], [0, 1, 2, 3, 4, 5, 6, 7, 8, 9, 10], [0, 1, 2, 3, 4, 5, 6, 7, 8, 9, 10, 13], [0, 1, 2, 3, 4, 5, 6, 7, 8, 9, 10, 11, 12, 13, 14], [0, 1, 2, 3, 4, 5, 6, 7, 8, 9, 10, 11, 12, 13, 14, 15]] (.q 0 (.q 2 (.e 1 (.e 3 (.q 4 (.q 5 (.q 6 (.q 7 (.q 8 (.q 9 (.q 10 (.q 11 (.q 12 (.q 13 (.q 14 (.q 15 (.q 16 (.done)))))))))))))) (.stop)) (.stop)))) mixed (by kernel_rfl) (by kernel_rfl) ?_
      refine P_q rfl rfl (Ev_loadK rfl (i := 8) rfl rfl agg26) rfl ?_
      refine P_q rfl rfl (Ev_loadK rfl (i := 8) rfl rfl agg26) rfl ?_
      obtain ⟨r41, h42, hx43⟩ := bnd_some hx26
      refine P_x rfl (Wx_callL rfl (fun w1 hw1 => model_Valid_ok p0 (Has.len' ha0') h42 w1 (okApp (K := K) (K2 := []) hK (by exact (SubE.cons2 (i := 9) rfl (SubE.nil))) (by exact (SubE.nil)) hw1)) rfl ?_) ?_
      rotate_left; exact P_stop
      rintro _ _ hlo ⟨rfl, rfl, -⟩
      refine T_app0 ?_
      obtain ⟨r44, h45, hx46⟩ := bnd_some hx43
      refine P_x rfl (Wx_callL rfl (fun w1 hw1 => lidarref09_Valid_ok p0 (Has.len' ha0') h45 w1 (okApp (K := K) (K2 := []) hK (by exact (SubE.cons2 (i := 9) rfl (SubE.nil))) (by exact (SubE.nil)) hw1)) rfl ?_) ?_
      rotate_left; exact P_stop
      rintro _ _ hlo ⟨rfl, rfl, -⟩
      refine T_app0 ?_
      refine P_p rfl rfl (Ev_neqB rfl rfl (by kernel_rfl)) rfl ?_
      refine P_p rfl rfl (Ev_move rfl) rfl ?_
      refine T_caseNB (s := 26) rfl (fun h47 => ?_) (fun h47 => ?_)
      · have hx48 := ite_bf h47 hx46
        refine P_skip rfl rfl rfl rfl rfl rfl ?_
        refine P_skip rfl rfl rfl rfl rfl rfl ?_
        refine P_skip rfl rfl rfl rfl rfl rfl ?_
        refine P_p rfl rfl (Ev_pickT rfl rfl) rfl ?_
        refine P_p rfl rfl (Ev_move rfl) rfl ?_
        refine P_skip rfl rfl rfl rfl rfl rfl ?_
        refine P_skip rfl rfl rfl rfl rfl rfl ?_
        refine P_skip rfl rfl rfl rfl rfl rfl ?_
        refine P_skip rfl rfl rfl rfl rfl rfl ?_
        refine P_skip rfl rfl rfl rfl rfl rfl ?_
        refine P_p rfl rfl (Ev_pickT rfl rfl) rfl ?_
        refine P_done ?_
        exact T_metP true () hx48 trivial (by exact .cons rfl (.cons rfl (.cons rfl (.nil)))) (by exact .pick 0 rfl (.pick 0 rfl (.pick 0 rfl (.pick 0 rfl (.pick 0 rfl (.pick 0 rfl (.pick 0 rfl (.pick 0 rfl (.drop 0 rfl (.refl))))))))))
      · have hx49 := ite_t h47 hx46
        refine P_pG rfl rfl rfl rfl rfl (Ev_move rfl) rfl ?_
        refine P_pG rfl rfl rfl rfl rfl (Ev_move rfl) rfl ?_
        refine P_pG rfl rfl rfl rfl rfl (Ev_neq rfl rfl) rfl ?_
        refine P_p rfl rfl (Ev_pickF rfl rfl) rfl ?_
        refine P_p rfl rfl (Ev_move rfl) rfl ?_
        refine T_caseNP (s := 31) rfl (fun h50 => ?_) (fun h50 => ?_)
        · have hx51 := ite_f h50 hx49
          refine P_skip rfl rfl rfl rfl rfl rfl ?_
          refine P_skip rfl rfl rfl rfl rfl rfl ?_
          refine P_skip rfl rfl rfl rfl rfl rfl ?_
          refine P_skip rfl rfl rfl rfl rfl rfl ?_
          refine P_skip rfl rfl rfl rfl rfl rfl ?_
          refine P_p rfl rfl (Ev_pickT rfl rfl) rfl ?_
          refine P_done ?_
          exact T_metP true () hx51 trivial (by exact .cons rfl (.cons rfl (.cons rfl (.nil)))) (by exact .pick 0 rfl (.pick 0 rfl (.pick 0 rfl (.pick 0 rfl (.pick 0 rfl (.pick 0 rfl (.pick 0 rfl (.pick 0 rfl (.drop 0 rfl (.refl))))))))))
        · have hx52 := ite_t h50 hx49
          refine P_pG rfl rfl rfl rfl rfl (Ev_move rfl) rfl ?_
          refine P_pG rfl rfl rfl rfl rfl (Ev_len rfl 86 Try.underlying82) rfl ?_
          refine P_pG rfl rfl rfl rfl rfl (Ev_move rfl) rfl ?_
          refine P_pG rfl rfl rfl rfl rfl (Ev_len rfl 86 Try.underlying82) rfl ?_
          refine P_pG rfl rfl rfl rfl rfl (Ev_neq rfl rfl) rfl ?_
          refine P_p rfl rfl (Ev_pickF rfl rfl) rfl ?_
          refine P_done ?_
          exact T_metP (!(decide (((((r11.1).length : Nat) : Int)) = ((((r24.1).length : Nat) : Int))))) () hx52 trivial (by exact .cons rfl (.cons rfl (.cons rfl (.nil)))) (by exact .pick 0 rfl (.pick 0 rfl (.pick 0 rfl (.pick 0 rfl (.pick 0 rfl (.pick 0 rfl (.pick 0 rfl (.pick 0 rfl (.drop 0 rfl (.refl))))))))))
end Go.Proofs.Ytjhknbpiaikblaa
