/- Walks of the program, with their plain functions: the builder. -/
import Derived.Test.YtlkgeeppfifeeaaGreatD2
namespace Go.Proofs.YtlkgeeppfifeeaaGreat
open Go Go.RowKit
theorem fld69_0 : FieldOf Tryz.prog 69 0 0 := .mk Tryz.underlying69 rfl rfl (show Tryz.prog.info? 22 = some Tryz.t22 from by kernel_rfl) (show Tryz.t22.size = 1 from by kernel_rfl) rfl
theorem fld69_1 : FieldOf Tryz.prog 69 1 1 := .mk Tryz.underlying69 rfl rfl (show Tryz.prog.info? 66 = some Tryz.t66 from by kernel_rfl) (show Tryz.t66.size = 1 from by kernel_rfl) rfl
theorem one66 : OneOf Tryz.prog 66 := .mk Tryz.underlying66 rfl (show Tryz.prog.info? 66 = some Tryz.t66 from by kernel_rfl) (by kernel_rfl)
structure S_mesh_builder where
  v : List S_api_Vertex
  apex : List (S_arr2_int × Int)
  fixed : List (S_arr2_int × Bool)
noncomputable def mesh_builder_p (p0 : S_mesh_builder) (p1 : Int) : Option S_api_XY :=
 bnd (idx p0.v p1) fun x2 =>
 bnd (mesh_at x2) fun r13 =>
 some r13
def v_i64 (x : Int) : Value := .int .i64 (x)
theorem v_i64_inj (x y : Int) (h : v_i64 x = v_i64 y) : x = y := by simpa [v_i64] using h
noncomputable def mesh_builder_put (p0 : S_mesh_builder) (p1 : Int) (p2 : Int) (p3 : Int) : Option S_mesh_builder :=
 gd ((-9223372036854775808 ≤ p1 ∧ p1 ≤ 9223372036854775807) ∧ (-9223372036854775808 ≤ p2 ∧ p2 ≤ 9223372036854775807)) <|
 gd ((p0.apex).length < 9223372036854775807) <|
 gd ((-9223372036854775808 ≤ p2 ∧ p2 ≤ 9223372036854775807) ∧ (-9223372036854775808 ≤ p3 ∧ p3 ≤ 9223372036854775807)) <|
 gd ((mput p0.apex ((⟨p1, p2⟩ : S_arr2_int)) p3).length < 9223372036854775807) <|
 gd ((-9223372036854775808 ≤ p3 ∧ p3 ≤ 9223372036854775807) ∧ (-9223372036854775808 ≤ p1 ∧ p1 ≤ 9223372036854775807)) <|
 gd ((mput (mput p0.apex ((⟨p1, p2⟩ : S_arr2_int)) p3) ((⟨p2, p3⟩ : S_arr2_int)) p1).length < 9223372036854775807) <|
 some (⟨p0.v, mput (mput (mput p0.apex ((⟨p1, p2⟩ : S_arr2_int)) p3) ((⟨p2, p3⟩ : S_arr2_int)) p1) ((⟨p3, p1⟩ : S_arr2_int)) p2, p0.fixed⟩ : S_mesh_builder)
noncomputable def mesh_builder_cut (p0 : S_mesh_builder) (p1 : Int) (p2 : Int) (p3 : Int) : Option S_mesh_builder :=
 gd ((-9223372036854775808 ≤ p1 ∧ p1 ≤ 9223372036854775807) ∧ (-9223372036854775808 ≤ p2 ∧ p2 ≤ 9223372036854775807)) <|
 gd ((-9223372036854775808 ≤ p2 ∧ p2 ≤ 9223372036854775807) ∧ (-9223372036854775808 ≤ p3 ∧ p3 ≤ 9223372036854775807)) <|
 gd ((-9223372036854775808 ≤ p3 ∧ p3 ≤ 9223372036854775807) ∧ (-9223372036854775808 ≤ p1 ∧ p1 ≤ 9223372036854775807)) <|
 some (⟨p0.v, mdel (mdel (mdel p0.apex ((⟨p1, p2⟩ : S_arr2_int))) ((⟨p2, p3⟩ : S_arr2_int))) ((⟨p3, p1⟩ : S_arr2_int)), p0.fixed⟩ : S_mesh_builder)
noncomputable def mesh_builder_flip (p0 : S_mesh_builder) (p1 : Int) (p2 : Int) : Option (S_mesh_builder × Bool) :=
 gd ((-9223372036854775808 ≤ p1 ∧ p1 ≤ 9223372036854775807) ∧ (-9223372036854775808 ≤ p2 ∧ p2 ≤ 9223372036854775807)) <|
 bnd (some ((mget p0.apex ((⟨p1, p2⟩ : S_arr2_int))).getD 0)) fun x3 =>
 gd ((-9223372036854775808 ≤ p2 ∧ p2 ≤ 9223372036854775807) ∧ (-9223372036854775808 ≤ p1 ∧ p1 ≤ 9223372036854775807)) <|
 bnd (some ((mget p0.apex ((⟨p2, p1⟩ : S_arr2_int))).getD 0)) fun x8 =>
 jn (fun (s5 : Bool) =>
 if s5 = true then (some (p0, false))
 else (bnd (mesh_builder_cut p0 p1 p2 x3) fun r46 =>
 bnd (mesh_builder_cut r46 p2 p1 x8) fun r53 =>
 bnd (mesh_builder_put r53 p1 x8 x3) fun r60 =>
 bnd (mesh_builder_put r60 p2 x3 x8) fun r67 =>
 some (r67, true)))
 (fun j5 => if ((mget p0.apex ((⟨p1, p2⟩ : S_arr2_int))).isSome) = true then (if ((mget p0.apex ((⟨p2, p1⟩ : S_arr2_int))).isSome) = true then (bnd (mesh_builder_p p0 x3) fun r17 =>
 bnd (mesh_builder_p p0 x8) fun r20 =>
 bnd (mesh_builder_p p0 p1) fun r23 =>
 bnd (mesh_turn r17 r20 r23) fun r26 =>
 bnd (mesh_builder_p p0 x3) fun r29 =>
 bnd (mesh_builder_p p0 x8) fun r32 =>
 bnd (mesh_builder_p p0 p2) fun r35 =>
 bnd (mesh_turn r29 r32 r35) fun r38 =>
 j5 (decide (0 ≤ (w64 (r26 * r38)))))
 else (j5 true))
 else (j5 true))
set_option maxRecDepth 100000 in
theorem mesh_builder_p_ok (p0 : S_mesh_builder) (p1 : Int) {K : List Ent} {A0_0 : Option Addr} {c0_0 : Nat} (ha0 : Has K A0_0 (p0.v).length c0_0 4 e_api_Vertex (p0.v)) {gm0_0 : Nat} {gm0_1 : Nat} {g0_0 : Nat} (hp0 : Pt K g0_0 0 [.slice (A0_0) ((p0.v).length) (c0_0), .map (some gm0_0), .map (some gm0_1)]) {r : S_api_XY} (hx : mesh_builder_p p0 p1 = some r) (w : World) (hK : ∀ e ∈ K, Ent.ok w e) : CtL Tryz.prog 65 [.pointer (some ⟨g0_0, 0, none⟩), .int .i64 (p1)] w fun v Ln => v = .agg #[.int .i64 (r.X), .int .i64 (r.Y)] ∧ Ln = [] ∧ True := by
  have ha0' := Has.up0 ha0
  have hp0' := Pt.low (E := []) (Pt.up0 hp0) hK
  refine CtL.mk 13 Tryz.func65 rfl Tryz.ntmps65 (by kernel_rfl) rfl ?_
  show T 13 _ [(0, .pointer (some ⟨g0_0, 0, none⟩)), (1, .int .i64 (p1))] _
  unfold mesh_builder_p at hx
  refine T_seq ?_
  refine T_reg ?_
  refine T_x (Wx_alloc zer38 rfl (fun g1 => ?_))
  refine T_nil ?_
  refine T_next ?_
  refine T_seq ?_
  refine T_reg ?_
  refine T_val (Ev_move rfl) rfl ?_
  refine T_val (Ev_nilCheck rfl) rfl ?_
  refine T_val (Ev_field rfl fld69_0 rfl) rfl ?_
  refine T_val (Ev_loadP1 (d := 0) rfl hp0' (SubE.cons2 (i := 1) rfl (SubE.nil)) rfl one22) rfl ?_
  refine T_val (Ev_move rfl) rfl ?_
  obtain ⟨x2, h3, hx4⟩ := bnd_some hx
  have hw12 := Has.low (E := []) ha0' hK
  obtain ⟨b5, o6, j7, hA8, hj9, hl10, hp11⟩ := Has.at_idx hw12 h3
  refine T_val (Ev_index rfl rfl hA8 (j := j7) hj9 hl10 slc22) rfl ?_
  refine T_val (Ev_loadPK0 rfl hp11 (SubE.cons2 (i := 1) rfl (SubE.nil)) rfl agg43) rfl ?_
  obtain ⟨r13, h14, hx15⟩ := bnd_some hx4
  refine T_x (Wx_callL rfl (fun w1 hw1 => mesh_at_ok x2  h14 w1) rfl ?_)
  rintro _ _ hlo ⟨rfl, rfl, -⟩
  refine T_app0 ?_
  refine T_h (Wh_store rfl rfl rfl (.here) (.put (.put (.done))) rfl (List.cons_ne_nil _ _) agg38.2 ?_)
  refine T_nil ?_
  refine T_next ?_
  refine T_retc ?_
  obtain rfl := Option.some.inj hx15
  exact T_retP (rs := [.cell 4 38]) Tryz.results65 (.cell rfl (i := 0) rfl rfl agg38 (.nil)) (Ln := []) ⟨rfl, rfl, trivial⟩ (loNil) (by exact .drop 0 rfl (.refl))
set_option maxRecDepth 100000 in
theorem mesh_builder_put_ok (p0 : S_mesh_builder) (p1 : Int) (p2 : Int) (p3 : Int) {g0_0 : Nat} {gm0_0 : Nat} {gm0_1 : Nat} {K : List Ent} {A0_0 : Option Addr} {c0_0 : Nat} (ha0 : Has K A0_0 (p0.v).length c0_0 4 e_api_Vertex (p0.v)) {r : S_mesh_builder} (hx : mesh_builder_put p0 p1 p2 p3 = some r) : CtK Tryz.prog 66 [.pointer (some ⟨g0_0, 0, none⟩), .int .i64 (p1), .int .i64 (p2), .int .i64 (p3)] K [.m g0_0 69 [.slice (A0_0) ((p0.v).length) (c0_0), .map (some gm0_0), .map (some gm0_1)], mapE2 Tryz.prog 48 v_arr2_int v_i64 gm0_0 (p0.apex), mapE2 Tryz.prog 48 v_arr2_int v_bool gm0_1 (p0.fixed)] fun v Ln => ∃ (A0 : Option Addr) (c0 : Nat), v = .tuple #[] ∧ Ln = [.m g0_0 69 [.slice (A0) ((r.v).length) (c0), .map (some gm0_0), .map (some gm0_1)], mapE2 Tryz.prog 48 v_arr2_int v_i64 gm0_0 (r.apex), mapE2 Tryz.prog 48 v_arr2_int v_bool gm0_1 (r.fixed)] ∧ Has (K ++ []) A0 (r.v).length c0 4 e_api_Vertex (r.v) ∧ True := by
  have ha0' := Has.up0 ha0
  refine CtK.mk 32 Tryz.func66 rfl Tryz.ntmps66 (by kernel_rfl) rfl ?_
  intro Lf hKf
  show T 32 _ [(0, .pointer (some ⟨g0_0, 0, none⟩)), (1, .int .i64 (p1)), (2, .int .i64 (p2)), (3, .int .i64 (p3))] ([.m g0_0 69 [.slice (A0_0) ((p0.v).length) (c0_0), .map (some gm0_0), .map (some gm0_1)], mapE2 Tryz.prog 48 v_arr2_int v_i64 gm0_0 (p0.apex), mapE2 Tryz.prog 48 v_arr2_int v_bool gm0_1 (p0.fixed)] ++ Lf)
  unfold mesh_builder_put at hx
  refine T_seq ?_
  refine T_reg ?_
  refine T_val (Ev_move rfl) rfl ?_
  refine T_val (Ev_nilCheck rfl) rfl ?_
  refine T_val (Ev_field rfl fld69_1 rfl) rfl ?_
  refine T_val (Ev_load1 rfl (i := 0) rfl rfl one66) rfl ?_
  refine T_val (Ev_move rfl) rfl ?_
  refine T_val (Ev_move rfl) rfl ?_
  refine T_val (Ev_build rfl (bld48_0i641i64 _ _)) rfl ?_
  refine T_val (Ev_move rfl) rfl ?_
  obtain ⟨h1, hx2⟩ := gd_some hx
  obtain ⟨h3, hx4⟩ := gd_some hx2
  refine T_h (Wh_mapPut2 (x := (⟨p1, p2⟩ : S_arr2_int)) (y := p3) key48 v_arr2_int_inj Tryz.underlying66 rfl rfl rfl rfl rfl (.there (.here)) (isk48 ((⟨p1, p2⟩ : S_arr2_int)) h1) h3 ?_)
  refine T_nil ?_
  refine T_next ?_
  refine T_seq ?_
  refine T_reg ?_
  refine T_val (Ev_move rfl) rfl ?_
  refine T_val (Ev_nilCheck rfl) rfl ?_
  refine T_val (Ev_field rfl fld69_1 rfl) rfl ?_
  refine T_val (Ev_load1 rfl (i := 0) rfl rfl one66) rfl ?_
  refine T_val (Ev_move rfl) rfl ?_
  refine T_val (Ev_move rfl) rfl ?_
  refine T_val (Ev_build rfl (bld48_0i641i64 _ _)) rfl ?_
  refine T_val (Ev_move rfl) rfl ?_
  obtain ⟨h5, hx6⟩ := gd_some hx4
  obtain ⟨h7, hx8⟩ := gd_some hx6
  refine T_h (Wh_mapPut2 (x := (⟨p2, p3⟩ : S_arr2_int)) (y := p1) key48 v_arr2_int_inj Tryz.underlying66 rfl rfl rfl rfl rfl (.there (.here)) (isk48 ((⟨p2, p3⟩ : S_arr2_int)) h5) h7 ?_)
  refine T_nil ?_
  refine T_next ?_
  refine T_reg ?_
  refine T_val (Ev_move rfl) rfl ?_
  refine T_val (Ev_nilCheck rfl) rfl ?_
  refine T_val (Ev_field rfl fld69_1 rfl) rfl ?_
  refine T_val (Ev_load1 rfl (i := 0) rfl rfl one66) rfl ?_
  refine T_val (Ev_move rfl) rfl ?_
  refine T_val (Ev_move rfl) rfl ?_
  refine T_val (Ev_build rfl (bld48_0i641i64 _ _)) rfl ?_
  refine T_val (Ev_move rfl) rfl ?_
  obtain ⟨h9, hx10⟩ := gd_some hx8
  obtain ⟨h11, hx12⟩ := gd_some hx10
  refine T_h (Wh_mapPut2 (x := (⟨p3, p1⟩ : S_arr2_int)) (y := p2) key48 v_arr2_int_inj Tryz.underlying66 rfl rfl rfl rfl rfl (.there (.here)) (isk48 ((⟨p3, p1⟩ : S_arr2_int)) h9) h11 ?_)
  refine T_nil ?_
  obtain rfl := Option.some.inj hx12
  exact T_endK (rs := []) Tryz.results66 (.nil) (Ln := [.m g0_0 69 [.slice (A0_0) ((p0.v).length) (c0_0), .map (some gm0_0), .map (some gm0_1)], mapE2 Tryz.prog 48 v_arr2_int v_i64 gm0_0 (mput (mput (mput p0.apex ((⟨p1, p2⟩ : S_arr2_int)) p3) ((⟨p2, p3⟩ : S_arr2_int)) p1) ((⟨p3, p1⟩ : S_arr2_int)) p2), mapE2 Tryz.prog 48 v_arr2_int v_bool gm0_1 (p0.fixed)]) ⟨A0_0, c0_0, rfl, rfl, Has.len' ha0', trivial⟩ (by exact .pick 0 rfl (.pick 0 rfl (.pick 0 rfl (.refl))))
set_option maxRecDepth 100000 in
theorem mesh_builder_cut_ok (p0 : S_mesh_builder) (p1 : Int) (p2 : Int) (p3 : Int) {g0_0 : Nat} {gm0_0 : Nat} {gm0_1 : Nat} {K : List Ent} {A0_0 : Option Addr} {c0_0 : Nat} (ha0 : Has K A0_0 (p0.v).length c0_0 4 e_api_Vertex (p0.v)) {r : S_mesh_builder} (hx : mesh_builder_cut p0 p1 p2 p3 = some r) : CtK Tryz.prog 90 [.pointer (some ⟨g0_0, 0, none⟩), .int .i64 (p1), .int .i64 (p2), .int .i64 (p3)] K [.m g0_0 69 [.slice (A0_0) ((p0.v).length) (c0_0), .map (some gm0_0), .map (some gm0_1)], mapE2 Tryz.prog 48 v_arr2_int v_i64 gm0_0 (p0.apex), mapE2 Tryz.prog 48 v_arr2_int v_bool gm0_1 (p0.fixed)] fun v Ln => ∃ (A0 : Option Addr) (c0 : Nat), v = .tuple #[] ∧ Ln = [.m g0_0 69 [.slice (A0) ((r.v).length) (c0), .map (some gm0_0), .map (some gm0_1)], mapE2 Tryz.prog 48 v_arr2_int v_i64 gm0_0 (r.apex), mapE2 Tryz.prog 48 v_arr2_int v_bool gm0_1 (r.fixed)] ∧ Has (K ++ []) A0 (r.v).length c0 4 e_api_Vertex (r.v) ∧ True := by
  have ha0' := Has.up0 ha0
  refine CtK.mk 29 Tryz.func90 rfl Tryz.ntmps90 (by kernel_rfl) rfl ?_
  intro Lf hKf
  show T 29 _ [(0, .pointer (some ⟨g0_0, 0, none⟩)), (1, .int .i64 (p1)), (2, .int .i64 (p2)), (3, .int .i64 (p3))] ([.m g0_0 69 [.slice (A0_0) ((p0.v).length) (c0_0), .map (some gm0_0), .map (some gm0_1)], mapE2 Tryz.prog 48 v_arr2_int v_i64 gm0_0 (p0.apex), mapE2 Tryz.prog 48 v_arr2_int v_bool gm0_1 (p0.fixed)] ++ Lf)
  unfold mesh_builder_cut at hx
  refine T_seq ?_
  refine T_reg ?_
  refine T_val (Ev_move rfl) rfl ?_
  refine T_val (Ev_nilCheck rfl) rfl ?_
  refine T_val (Ev_field rfl fld69_1 rfl) rfl ?_
  refine T_val (Ev_load1 rfl (i := 0) rfl rfl one66) rfl ?_
  refine T_val (Ev_move rfl) rfl ?_
  refine T_val (Ev_move rfl) rfl ?_
  refine T_val (Ev_build rfl (bld48_0i641i64 _ _)) rfl ?_
  obtain ⟨h1, hx2⟩ := gd_some hx
  refine T_h (Wh_mapDel2 (x := (⟨p1, p2⟩ : S_arr2_int)) key48 v_arr2_int_inj Tryz.underlying66 rfl rfl rfl (.there (.here)) (isk48 ((⟨p1, p2⟩ : S_arr2_int)) h1) ?_)
  refine T_nil ?_
  refine T_next ?_
  refine T_seq ?_
  refine T_reg ?_
  refine T_val (Ev_move rfl) rfl ?_
  refine T_val (Ev_nilCheck rfl) rfl ?_
  refine T_val (Ev_field rfl fld69_1 rfl) rfl ?_
  refine T_val (Ev_load1 rfl (i := 0) rfl rfl one66) rfl ?_
  refine T_val (Ev_move rfl) rfl ?_
  refine T_val (Ev_move rfl) rfl ?_
  refine T_val (Ev_build rfl (bld48_0i641i64 _ _)) rfl ?_
  obtain ⟨h3, hx4⟩ := gd_some hx2
  refine T_h (Wh_mapDel2 (x := (⟨p2, p3⟩ : S_arr2_int)) key48 v_arr2_int_inj Tryz.underlying66 rfl rfl rfl (.there (.here)) (isk48 ((⟨p2, p3⟩ : S_arr2_int)) h3) ?_)
  refine T_nil ?_
  refine T_next ?_
  refine T_reg ?_
  refine T_val (Ev_move rfl) rfl ?_
  refine T_val (Ev_nilCheck rfl) rfl ?_
  refine T_val (Ev_field rfl fld69_1 rfl) rfl ?_
  refine T_val (Ev_load1 rfl (i := 0) rfl rfl one66) rfl ?_
  refine T_val (Ev_move rfl) rfl ?_
  refine T_val (Ev_move rfl) rfl ?_
  refine T_val (Ev_build rfl (bld48_0i641i64 _ _)) rfl ?_
  obtain ⟨h5, hx6⟩ := gd_some hx4
  refine T_h (Wh_mapDel2 (x := (⟨p3, p1⟩ : S_arr2_int)) key48 v_arr2_int_inj Tryz.underlying66 rfl rfl rfl (.there (.here)) (isk48 ((⟨p3, p1⟩ : S_arr2_int)) h5) ?_)
  refine T_nil ?_
  obtain rfl := Option.some.inj hx6
  exact T_endK (rs := []) Tryz.results90 (.nil) (Ln := [.m g0_0 69 [.slice (A0_0) ((p0.v).length) (c0_0), .map (some gm0_0), .map (some gm0_1)], mapE2 Tryz.prog 48 v_arr2_int v_i64 gm0_0 (mdel (mdel (mdel p0.apex ((⟨p1, p2⟩ : S_arr2_int))) ((⟨p2, p3⟩ : S_arr2_int))) ((⟨p3, p1⟩ : S_arr2_int))), mapE2 Tryz.prog 48 v_arr2_int v_bool gm0_1 (p0.fixed)]) ⟨A0_0, c0_0, rfl, rfl, Has.len' ha0', trivial⟩ (by exact .pick 0 rfl (.pick 0 rfl (.pick 0 rfl (.refl))))
set_option maxRecDepth 100000 in
theorem mesh_builder_flip_ok (p0 : S_mesh_builder) (p1 : Int) (p2 : Int) {g0_0 : Nat} {gm0_0 : Nat} {gm0_1 : Nat} {K : List Ent} {A0_0 : Option Addr} {c0_0 : Nat} (ha0 : Has K A0_0 (p0.v).length c0_0 4 e_api_Vertex (p0.v)) {r : S_mesh_builder × Bool} (hx : mesh_builder_flip p0 p1 p2 = some r) : CtK Tryz.prog 72 [.pointer (some ⟨g0_0, 0, none⟩), .int .i64 (p1), .int .i64 (p2)] K [.m g0_0 69 [.slice (A0_0) ((p0.v).length) (c0_0), .map (some gm0_0), .map (some gm0_1)], mapE2 Tryz.prog 48 v_arr2_int v_i64 gm0_0 (p0.apex), mapE2 Tryz.prog 48 v_arr2_int v_bool gm0_1 (p0.fixed)] fun v Ln => ∃ (A0 : Option Addr) (c0 : Nat), v = .bool (r.2) ∧ Ln = [.m g0_0 69 [.slice (A0) ((r.1.v).length) (c0), .map (some gm0_0), .map (some gm0_1)], mapE2 Tryz.prog 48 v_arr2_int v_i64 gm0_0 (r.1.apex), mapE2 Tryz.prog 48 v_arr2_int v_bool gm0_1 (r.1.fixed)] ∧ Has (K ++ []) A0 (r.1.v).length c0 4 e_api_Vertex (r.1.v) ∧ True := by
  have ha0' := Has.up0 ha0
  refine CtK.mk 83 Tryz.func72 rfl Tryz.ntmps72 (by kernel_rfl) rfl ?_
  intro Lf hKf
  show T 83 _ [(0, .pointer (some ⟨g0_0, 0, none⟩)), (1, .int .i64 (p1)), (2, .int .i64 (p2))] ([.m g0_0 69 [.slice (A0_0) ((p0.v).length) (c0_0), .map (some gm0_0), .map (some gm0_1)], mapE2 Tryz.prog 48 v_arr2_int v_i64 gm0_0 (p0.apex), mapE2 Tryz.prog 48 v_arr2_int v_bool gm0_1 (p0.fixed)] ++ Lf)
  unfold mesh_builder_flip at hx
  refine T_seq ?_
  refine T_reg ?_
  refine T_val (Ev_assign rfl) rfl ?_
  refine T_nil ?_
  refine T_next ?_
  refine T_seq ?_
  refine T_reg ?_
  refine T_val (Ev_move rfl) rfl ?_
  refine T_val (Ev_nilCheck rfl) rfl ?_
  refine T_val (Ev_field rfl fld69_1 rfl) rfl ?_
  refine T_val (Ev_load1 rfl (i := 0) rfl rfl one66) rfl ?_
  refine T_val (Ev_move rfl) rfl ?_
  refine T_val (Ev_move rfl) rfl ?_
  refine T_val (Ev_build rfl (bld48_0i641i64 _ _)) rfl ?_
  obtain ⟨h1, hx2⟩ := gd_some hx
  obtain ⟨x3, h4, hx5⟩ := bnd_some hx2
  refine T_val (Ev_look2Ok (x := (⟨p1, p2⟩ : S_arr2_int)) (i := 1) (vv := .int .i64 (x3)) key48 Tryz.underlying66 (fun w => by kernel_rfl) v_arr2_int_inj rfl rfl rfl rfl holds_mapE2 (isk48 ((⟨p1, p2⟩ : S_arr2_int)) h1) h4 rfl) rfl ?_
  refine T_val (Ev_move rfl) rfl ?_
  refine T_val (Ev_extract rfl rfl) rfl ?_
  refine T_val (Ev_extract rfl rfl) rfl ?_
  refine T_val (Ev_assign rfl) rfl ?_
  refine T_val (Ev_assign rfl) rfl ?_
  refine T_nil ?_
  refine T_next ?_
  refine T_seq ?_
  refine T_reg ?_
  refine T_val (Ev_move rfl) rfl ?_
  refine T_val (Ev_nilCheck rfl) rfl ?_
  refine T_val (Ev_field rfl fld69_1 rfl) rfl ?_
  refine T_val (Ev_load1 rfl (i := 0) rfl rfl one66) rfl ?_
  refine T_val (Ev_move rfl) rfl ?_
  refine T_val (Ev_move rfl) rfl ?_
  refine T_val (Ev_build rfl (bld48_0i641i64 _ _)) rfl ?_
  obtain ⟨h6, hx7⟩ := gd_some hx5
  obtain ⟨x8, h9, hx10⟩ := bnd_some hx7
  refine T_val (Ev_look2Ok (x := (⟨p2, p1⟩ : S_arr2_int)) (i := 1) (vv := .int .i64 (x8)) key48 Tryz.underlying66 (fun w => by kernel_rfl) v_arr2_int_inj rfl rfl rfl rfl holds_mapE2 (isk48 ((⟨p2, p1⟩ : S_arr2_int)) h6) h9 rfl) rfl ?_
  refine T_val (Ev_move rfl) rfl ?_
  refine T_val (Ev_extract rfl rfl) rfl ?_
  refine T_val (Ev_extract rfl rfl) rfl ?_
  refine T_val (Ev_assign rfl) rfl ?_
  refine T_val (Ev_assign rfl) rfl ?_
  refine T_nil ?_
  refine T_next ?_
  refine T_seq ?_
  obtain ⟨j5, hj5, hx10⟩ := jn_some hx10
  refine T_cutP (τ := Bool) (γ := Unit) (J := j5) (out := r) (fun s5 y5 => [(0, .pointer (some ⟨g0_0, 0, none⟩)), (1, .int .i64 (p1)), (2, .int .i64 (p2)), (7, .int .i64 (x3)), (9, .int .i64 (x8)), (62, .bool (s5))]) (fun s5 y5 => [.m g0_0 69 [.slice (A0_0) ((p0.v).length) (c0_0), .map (some gm0_0), .map (some gm0_1)], mapE2 Tryz.prog 48 v_arr2_int v_i64 gm0_0 (p0.apex), mapE2 Tryz.prog 48 v_arr2_int v_bool gm0_1 (p0.fixed)] ++ Lf) (fun s5 y5 => True) ?_ ?_
  · intro s5 y5 hx41 hG42
    subst hj5
    refine T_caseB (s := 62) rfl (fun h43 => ?_) (fun h43 => ?_)
    · have hx44 := ite_t h43 hx41
      refine T_condT rfl ?_
      refine T_seq ?_
      refine T_reg ?_
      refine T_val (Ev_assign rfl) rfl ?_
      refine T_nil ?_
      refine T_next ?_
      refine T_retc ?_
      refine T_outR ?_
      obtain rfl := Option.some.inj hx44
      exact T_retK (rs := [.tmp 6]) Tryz.results72 (.tmp rfl (.nil)) (Ln := [.m g0_0 69 [.slice (A0_0) ((p0.v).length) (c0_0), .map (some gm0_0), .map (some gm0_1)], mapE2 Tryz.prog 48 v_arr2_int v_i64 gm0_0 (p0.apex), mapE2 Tryz.prog 48 v_arr2_int v_bool gm0_1 (p0.fixed)]) ⟨A0_0, c0_0, rfl, rfl, Has.len' ha0', trivial⟩ (by exact .pick 0 rfl (.pick 0 rfl (.pick 0 rfl (.refl))))
    · have hx45 := ite_bf h43 hx41
      refine T_condF rfl ?_
      refine T_skip ?_
      refine T_next ?_
      refine T_seq ?_
      refine T_reg ?_
      refine T_val (Ev_move rfl) rfl ?_
      refine T_val (Ev_move rfl) rfl ?_
      refine T_val (Ev_move rfl) rfl ?_
      refine T_val (Ev_move rfl) rfl ?_
      obtain ⟨r46, h47, hx48⟩ := bnd_some hx45
      refine T_h (Wh_callK rfl (by exact .pick 0 rfl (.pick 0 rfl (.pick 0 rfl (.refl)))) (by exact (SubE.appC (hKf) (SubE.nil))) (mesh_builder_cut_ok p0 p1 p2 x3 (Has.len' ha0') h47 (K := (K ++ []))) rfl ?_)
      rintro _ _ ⟨A49, c50, rfl, rfl, hs51, -⟩
      refine T_app3 ?_
      have hs52 : Has (K ++ []) _ _ _ _ _ _ := Has.assoc hs51
      refine T_nil ?_
      refine T_next ?_
      refine T_seq ?_
      refine T_reg ?_
      refine T_val (Ev_move rfl) rfl ?_
      refine T_val (Ev_move rfl) rfl ?_
      refine T_val (Ev_move rfl) rfl ?_
      refine T_val (Ev_move rfl) rfl ?_
      obtain ⟨r53, h54, hx55⟩ := bnd_some hx48
      refine T_h (Wh_callK rfl (by exact .pick 0 rfl (.pick 0 rfl (.pick 0 rfl (.refl)))) (by exact (SubE.appC (hKf) (SubE.nil))) (mesh_builder_cut_ok r46 p2 p1 x8 (Has.len' hs52) h54 (K := (K ++ []))) rfl ?_)
      rintro _ _ ⟨A56, c57, rfl, rfl, hs58, -⟩
      refine T_app3 ?_
      have hs59 : Has (K ++ []) _ _ _ _ _ _ := Has.assoc hs58
      refine T_nil ?_
      refine T_next ?_
      refine T_seq ?_
      refine T_reg ?_
      refine T_val (Ev_move rfl) rfl ?_
      refine T_val (Ev_move rfl) rfl ?_
      refine T_val (Ev_move rfl) rfl ?_
      refine T_val (Ev_move rfl) rfl ?_
      obtain ⟨r60, h61, hx62⟩ := bnd_some hx55
      refine T_h (Wh_callK rfl (by exact .pick 0 rfl (.pick 0 rfl (.pick 0 rfl (.refl)))) (by exact (SubE.appC (hKf) (SubE.nil))) (mesh_builder_put_ok r53 p1 x8 x3 (Has.len' hs59) h61 (K := (K ++ []))) rfl ?_)
      rintro _ _ ⟨A63, c64, rfl, rfl, hs65, -⟩
      refine T_app3 ?_
      have hs66 : Has (K ++ []) _ _ _ _ _ _ := Has.assoc hs65
      refine T_nil ?_
      refine T_next ?_
      refine T_seq ?_
      refine T_reg ?_
      refine T_val (Ev_move rfl) rfl ?_
      refine T_val (Ev_move rfl) rfl ?_
      refine T_val (Ev_move rfl) rfl ?_
      refine T_val (Ev_move rfl) rfl ?_
      obtain ⟨r67, h68, hx69⟩ := bnd_some hx62
      refine T_h (Wh_callK rfl (by exact .pick 0 rfl (.pick 0 rfl (.pick 0 rfl (.refl)))) (by exact (SubE.appC (hKf) (SubE.nil))) (mesh_builder_put_ok r60 p2 x3 x8 (Has.len' hs66) h68 (K := (K ++ []))) rfl ?_)
      rintro _ _ ⟨A70, c71, rfl, rfl, hs72, -⟩
      refine T_app3 ?_
      have hs73 : Has (K ++ []) _ _ _ _ _ _ := Has.assoc hs72
      refine T_nil ?_
      refine T_next ?_
      refine T_seq ?_
      refine T_reg ?_
      refine T_val (Ev_assign rfl) rfl ?_
      refine T_nil ?_
      refine T_next ?_
      refine T_retc ?_
      obtain rfl := Option.some.inj hx69
      exact T_retK (rs := [.tmp 6]) Tryz.results72 (.tmp rfl (.nil)) (Ln := [.m g0_0 69 [.slice (A70) ((r67.v).length) (c71), .map (some gm0_0), .map (some gm0_1)], mapE2 Tryz.prog 48 v_arr2_int v_i64 gm0_0 (r67.apex), mapE2 Tryz.prog 48 v_arr2_int v_bool gm0_1 (r67.fixed)]) ⟨A70, c71, rfl, rfl, Has.len' hs73, trivial⟩ (by exact .pick 0 rfl (.pick 0 rfl (.pick 0 rfl (.refl))))
  · skip
    refine T_reg ?_
    refine T_val (Ev_move rfl) rfl ?_
    refine T_val (Ev_not rfl) rfl ?_
    refine T_val (Ev_move rfl) rfl ?_
    refine T_caseNB (s := 35) rfl (fun h11 => ?_) (fun h11 => ?_)
    · have hx12 := ite_bf h11 hx10
      refine T_skipG rfl rfl rfl rfl rfl ?_
      refine T_skipG rfl rfl rfl rfl rfl ?_
      refine T_val (Ev_pickT rfl rfl) rfl ?_
      refine T_val (Ev_move rfl) rfl ?_
      refine T_skipG rfl rfl rfl rfl rfl ?_
      refine T_skipG rfl rfl rfl rfl rfl ?_
      refine T_skipG rfl rfl rfl rfl rfl ?_
      refine T_skipG rfl rfl rfl rfl rfl ?_
      refine T_skipG rfl rfl rfl rfl rfl ?_
      refine T_skipG rfl rfl rfl rfl rfl ?_
      refine T_skipG rfl rfl rfl rfl rfl ?_
      refine T_skipG rfl rfl rfl rfl rfl ?_
      refine T_skipG rfl rfl rfl rfl rfl ?_
      refine T_skipG rfl rfl rfl rfl rfl ?_
      refine T_skipG rfl rfl rfl rfl rfl ?_
      refine T_skipG rfl rfl rfl rfl rfl ?_
      refine T_skipG rfl rfl rfl rfl rfl ?_
      refine T_skipG rfl rfl rfl rfl rfl ?_
      refine T_skipG rfl rfl rfl rfl rfl ?_
      refine T_skipG rfl rfl rfl rfl rfl ?_
      refine T_skipG rfl rfl rfl rfl rfl ?_
      refine T_skipG rfl rfl rfl rfl rfl ?_
      refine T_skipG rfl rfl rfl rfl rfl ?_
      refine T_skipG rfl rfl rfl rfl rfl ?_
      refine T_skipG rfl rfl rfl rfl rfl ?_
      refine T_skipG rfl rfl rfl rfl rfl ?_
      refine T_val (Ev_pickT rfl rfl) rfl ?_
      refine T_nil ?_
      exact T_metP true () hx12 trivial (by exact .cons rfl (.cons rfl (.cons rfl (.cons rfl (.cons rfl (.cons rfl (.nil))))))) (by exact .pick 0 rfl (.pick 0 rfl (.pick 0 rfl (.refl))))
    · have hx13 := ite_t h11 hx10
      refine T_valG rfl rfl rfl (Ev_move rfl) rfl ?_
      refine T_valG rfl rfl rfl (Ev_not rfl) rfl ?_
      refine T_val (Ev_pickF rfl rfl) rfl ?_
      refine T_val (Ev_move rfl) rfl ?_
      refine T_caseNB (s := 39) rfl (fun h14 => ?_) (fun h14 => ?_)
      · have hx15 := ite_bf h14 hx13
        refine T_skipG rfl rfl rfl rfl rfl ?_
        refine T_skipG rfl rfl rfl rfl rfl ?_
        refine T_skipG rfl rfl rfl rfl rfl ?_
        refine T_skipG rfl rfl rfl rfl rfl ?_
        refine T_skipG rfl rfl rfl rfl rfl ?_
        refine T_skipG rfl rfl rfl rfl rfl ?_
        refine T_skipG rfl rfl rfl rfl rfl ?_
        refine T_skipG rfl rfl rfl rfl rfl ?_
        refine T_skipG rfl rfl rfl rfl rfl ?_
        refine T_skipG rfl rfl rfl rfl rfl ?_
        refine T_skipG rfl rfl rfl rfl rfl ?_
        refine T_skipG rfl rfl rfl rfl rfl ?_
        refine T_skipG rfl rfl rfl rfl rfl ?_
        refine T_skipG rfl rfl rfl rfl rfl ?_
        refine T_skipG rfl rfl rfl rfl rfl ?_
        refine T_skipG rfl rfl rfl rfl rfl ?_
        refine T_skipG rfl rfl rfl rfl rfl ?_
        refine T_skipG rfl rfl rfl rfl rfl ?_
        refine T_skipG rfl rfl rfl rfl rfl ?_
        refine T_skipG rfl rfl rfl rfl rfl ?_
        refine T_skipG rfl rfl rfl rfl rfl ?_
        refine T_skipG rfl rfl rfl rfl rfl ?_
        refine T_val (Ev_pickT rfl rfl) rfl ?_
        refine T_nil ?_
        exact T_metP true () hx15 trivial (by exact .cons rfl (.cons rfl (.cons rfl (.cons rfl (.cons rfl (.cons rfl (.nil))))))) (by exact .pick 0 rfl (.pick 0 rfl (.pick 0 rfl (.refl))))
      · have hx16 := ite_t h14 hx13
        refine T_valG rfl rfl rfl (Ev_move rfl) rfl ?_
        refine T_valG rfl rfl rfl (Ev_move rfl) rfl ?_
        obtain ⟨r17, h18, hx19⟩ := bnd_some hx16
        refine T_xG rfl rfl rfl (Wx_callL rfl (fun w1 hw1 => mesh_builder_p_ok p0 x3 (Has.len' (Has.up (L := (K ++ [.m g0_0 69 [.slice (A0_0) ((p0.v).length) (c0_0), .map (some gm0_0), .map (some gm0_1)]])) ha0' (SubE.app2 SubE.nil))) (Pt.m0 (List.mem_append_right _ (List.mem_cons_self))) h18 w1 (okAll (K := (K ++ [.m g0_0 69 [.slice (A0_0) ((p0.v).length) (c0_0), .map (some gm0_0), .map (some gm0_1)]])) (by exact (SubE.appC (SubE.tail (SubE.tail (SubE.tail (hKf)))) (SubE.cons2 (i := 0) rfl (SubE.nil)))) hw1)) rfl ?_)
        rintro _ _ hlo ⟨rfl, rfl, -⟩
        refine T_app0 ?_
        refine T_valG rfl rfl rfl (Ev_move rfl) rfl ?_
        refine T_valG rfl rfl rfl (Ev_move rfl) rfl ?_
        obtain ⟨r20, h21, hx22⟩ := bnd_some hx19
        refine T_xG rfl rfl rfl (Wx_callL rfl (fun w1 hw1 => mesh_builder_p_ok p0 x8 (Has.len' (Has.up (L := (K ++ [.m g0_0 69 [.slice (A0_0) ((p0.v).length) (c0_0), .map (some gm0_0), .map (some gm0_1)]])) ha0' (SubE.app2 SubE.nil))) (Pt.m0 (List.mem_append_right _ (List.mem_cons_self))) h21 w1 (okAll (K := (K ++ [.m g0_0 69 [.slice (A0_0) ((p0.v).length) (c0_0), .map (some gm0_0), .map (some gm0_1)]])) (by exact (SubE.appC (SubE.tail (SubE.tail (SubE.tail (hKf)))) (SubE.cons2 (i := 0) rfl (SubE.nil)))) hw1)) rfl ?_)
        rintro _ _ hlo ⟨rfl, rfl, -⟩
        refine T_app0 ?_
        refine T_valG rfl rfl rfl (Ev_move rfl) rfl ?_
        refine T_valG rfl rfl rfl (Ev_move rfl) rfl ?_
        obtain ⟨r23, h24, hx25⟩ := bnd_some hx22
        refine T_xG rfl rfl rfl (Wx_callL rfl (fun w1 hw1 => mesh_builder_p_ok p0 p1 (Has.len' (Has.up (L := (K ++ [.m g0_0 69 [.slice (A0_0) ((p0.v).length) (c0_0), .map (some gm0_0), .map (some gm0_1)]])) ha0' (SubE.app2 SubE.nil))) (Pt.m0 (List.mem_append_right _ (List.mem_cons_self))) h24 w1 (okAll (K := (K ++ [.m g0_0 69 [.slice (A0_0) ((p0.v).length) (c0_0), .map (some gm0_0), .map (some gm0_1)]])) (by exact (SubE.appC (SubE.tail (SubE.tail (SubE.tail (hKf)))) (SubE.cons2 (i := 0) rfl (SubE.nil)))) hw1)) rfl ?_)
        rintro _ _ hlo ⟨rfl, rfl, -⟩
        refine T_app0 ?_
        obtain ⟨r26, h27, hx28⟩ := bnd_some hx25
        refine T_xG rfl rfl rfl (Wx_callL rfl (fun w1 hw1 => mesh_turn_ok r17 r20 r23  h27 w1) rfl ?_)
        rintro _ _ hlo ⟨rfl, rfl, -⟩
        refine T_app0 ?_
        refine T_valG rfl rfl rfl (Ev_move rfl) rfl ?_
        refine T_valG rfl rfl rfl (Ev_move rfl) rfl ?_
        obtain ⟨r29, h30, hx31⟩ := bnd_some hx28
        refine T_xG rfl rfl rfl (Wx_callL rfl (fun w1 hw1 => mesh_builder_p_ok p0 x3 (Has.len' (Has.up (L := (K ++ [.m g0_0 69 [.slice (A0_0) ((p0.v).length) (c0_0), .map (some gm0_0), .map (some gm0_1)]])) ha0' (SubE.app2 SubE.nil))) (Pt.m0 (List.mem_append_right _ (List.mem_cons_self))) h30 w1 (okAll (K := (K ++ [.m g0_0 69 [.slice (A0_0) ((p0.v).length) (c0_0), .map (some gm0_0), .map (some gm0_1)]])) (by exact (SubE.appC (SubE.tail (SubE.tail (SubE.tail (hKf)))) (SubE.cons2 (i := 0) rfl (SubE.nil)))) hw1)) rfl ?_)
        rintro _ _ hlo ⟨rfl, rfl, -⟩
        refine T_app0 ?_
        refine T_valG rfl rfl rfl (Ev_move rfl) rfl ?_
        refine T_valG rfl rfl rfl (Ev_move rfl) rfl ?_
        obtain ⟨r32, h33, hx34⟩ := bnd_some hx31
        refine T_xG rfl rfl rfl (Wx_callL rfl (fun w1 hw1 => mesh_builder_p_ok p0 x8 (Has.len' (Has.up (L := (K ++ [.m g0_0 69 [.slice (A0_0) ((p0.v).length) (c0_0), .map (some gm0_0), .map (some gm0_1)]])) ha0' (SubE.app2 SubE.nil))) (Pt.m0 (List.mem_append_right _ (List.mem_cons_self))) h33 w1 (okAll (K := (K ++ [.m g0_0 69 [.slice (A0_0) ((p0.v).length) (c0_0), .map (some gm0_0), .map (some gm0_1)]])) (by exact (SubE.appC (SubE.tail (SubE.tail (SubE.tail (hKf)))) (SubE.cons2 (i := 0) rfl (SubE.nil)))) hw1)) rfl ?_)
        rintro _ _ hlo ⟨rfl, rfl, -⟩
        refine T_app0 ?_
        refine T_valG rfl rfl rfl (Ev_move rfl) rfl ?_
        refine T_valG rfl rfl rfl (Ev_move rfl) rfl ?_
        obtain ⟨r35, h36, hx37⟩ := bnd_some hx34
        refine T_xG rfl rfl rfl (Wx_callL rfl (fun w1 hw1 => mesh_builder_p_ok p0 p2 (Has.len' (Has.up (L := (K ++ [.m g0_0 69 [.slice (A0_0) ((p0.v).length) (c0_0), .map (some gm0_0), .map (some gm0_1)]])) ha0' (SubE.app2 SubE.nil))) (Pt.m0 (List.mem_append_right _ (List.mem_cons_self))) h36 w1 (okAll (K := (K ++ [.m g0_0 69 [.slice (A0_0) ((p0.v).length) (c0_0), .map (some gm0_0), .map (some gm0_1)]])) (by exact (SubE.appC (SubE.tail (SubE.tail (SubE.tail (hKf)))) (SubE.cons2 (i := 0) rfl (SubE.nil)))) hw1)) rfl ?_)
        rintro _ _ hlo ⟨rfl, rfl, -⟩
        refine T_app0 ?_
        obtain ⟨r38, h39, hx40⟩ := bnd_some hx37
        refine T_xG rfl rfl rfl (Wx_callL rfl (fun w1 hw1 => mesh_turn_ok r29 r32 r35  h39 w1) rfl ?_)
        rintro _ _ hlo ⟨rfl, rfl, -⟩
        refine T_app0 ?_
        refine T_valG rfl rfl rfl (Ev_mul_w64 rfl rfl) rfl ?_
        refine T_valG rfl rfl rfl (Ev_geq rfl rfl) rfl ?_
        refine T_val (Ev_pickF rfl rfl) rfl ?_
        refine T_nil ?_
        exact T_metP (decide (0 ≤ (w64 (r26 * r38)))) () hx40 trivial (by exact .cons rfl (.cons rfl (.cons rfl (.cons rfl (.cons rfl (.cons rfl (.nil))))))) (by exact .pick 0 rfl (.pick 0 rfl (.pick 0 rfl (.refl))))
end Go.Proofs.YtlkgeeppfifeeaaGreat
