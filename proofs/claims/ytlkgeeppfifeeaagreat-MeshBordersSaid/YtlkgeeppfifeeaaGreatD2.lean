/- Walks of the program, with their plain functions: inputs, comparators. -/
import Derived.Test.YtlkgeeppfifeeaaGreatD1
namespace Go.Proofs.YtlkgeeppfifeeaaGreat
open Go Go.RowKit
theorem zer43 : ZeroOf Tryz.prog 43 [.int .i64 (0), .int .i64 (0), .int .i64 (0), .int .i64 (0)] := ⟨_, Tryz.zeroValue43, rfl⟩
theorem slc23 : SliceOf Tryz.prog 23 48 2 := .mk Tryz.underlying23 (show Tryz.prog.info? 48 = some Tryz.t48 from by kernel_rfl) (by kernel_rfl)
theorem slc58 : SliceOf Tryz.prog 58 3 1 := .mk Tryz.underlying58 (show Tryz.prog.info? 3 = some Tryz.t3 from by kernel_rfl) (by kernel_rfl)
theorem arr35 : ArrOf Tryz.prog 35 3 1 := .mk Tryz.underlying35 (show Tryz.prog.info? 3 = some Tryz.t3 from by kernel_rfl) (by kernel_rfl)
theorem one22 : OneOf Tryz.prog 22 := .mk Tryz.underlying22 rfl (show Tryz.prog.info? 22 = some Tryz.t22 from by kernel_rfl) (by kernel_rfl)
theorem laidOut3 : laidOutB Tryz.prog = true := by kernel_rfl
theorem wide38 : (match Tryz.prog.underlying 38 with | some (.array _ _) | some (.struct _) => true | _ => false) = true := by kernel_rfl
set_option maxRecDepth 100000 in
theorem key38 : Maps.Keyed Tryz.prog 38 := Maps.Keyed.of_law (deep_law_laid laidOut3 (m := 3) (by omega) (of_decide_eq_true (by kernel_rfl)) (by kernel_rfl) wide38)
theorem isk38 (x : S_api_XY) (h : (-9223372036854775808 ≤ x.X ∧ x.X ≤ 9223372036854775807) ∧ (-9223372036854775808 ≤ x.Y ∧ x.Y ≤ 9223372036854775807)) : (keyOf Tryz.prog 38 (v_api_XY x)).isSome = true := by
  refine isk_struct (cs := [.int .i64 (x.X), .int .i64 (x.Y)]) (d := 189) (by kernel_rfl) Tryz.underlying38 (by kernel_rfl) (by kernel_rfl) (by kernel_rfl) (fun f hf => ?_)
  simp only [List.mem_cons, List.not_mem_nil, or_false] at hf
  rcases hf with rfl | rfl
  · exact ⟨.i64, x.X, Tryz.underlying3, by kernel_rfl, wf_i64 h.1⟩
  · exact ⟨.i64, x.Y, Tryz.underlying3, by kernel_rfl, wf_i64 h.2⟩
def v_bool (x : Bool) : Value := .bool (x)
noncomputable def mesh_vertices_l4 (p0 : List S_api_Vertex) : Int → Option (Sum Int (Sum Unit Int)) := fun s26 =>
 if s26 < ((((p0).length : Nat) : Int)) then (bnd (idx p0 s26) fun x30 =>
 bnd (mesh_good x30) fun r42 =>
 if r42 = true then (some (.inl (w64 (s26 + 1))))
 else (some (.inr (.inr (60)))))
 else (some (.inr (.inl ())))
noncomputable def mesh_vertices_l11 (p0 : List S_api_Vertex) : ((List (S_api_XY × Bool)) × Int) → Option (Sum ((List (S_api_XY × Bool)) × Int) (Sum Unit Int)) := fun s85 =>
 if s85.2 < ((((p0).length : Nat) : Int)) then (bnd (idx p0 s85.2) fun x89 =>
 bnd (mesh_at x89) fun r101 =>
 gd ((-9223372036854775808 ≤ r101.X ∧ r101.X ≤ 9223372036854775807) ∧ (-9223372036854775808 ≤ r101.Y ∧ r101.Y ≤ 9223372036854775807)) <|
 bnd (some ((mget s85.1 r101).getD false)) fun x106 =>
 if x106 = true then (some (.inr (.inr (61))))
 else (bnd (mesh_at x89) fun r112 =>
 gd ((-9223372036854775808 ≤ r112.X ∧ r112.X ≤ 9223372036854775807) ∧ (-9223372036854775808 ≤ r112.Y ∧ r112.Y ≤ 9223372036854775807)) <|
 gd ((s85.1).length < 9223372036854775807) <|
 some (.inl (mput s85.1 r112 true, w64 (s85.2 + 1)))))
 else (some (.inr (.inl ())))
noncomputable def mesh_vertices (p0 : List S_api_Vertex) : Option Int :=
 if 1024 < ((((p0).length : Nat) : Int)) then (some 2)
 else (jn (fun (s5 : Unit) =>
 jn (fun (s20 : Unit) =>
 some 0)
 (fun j20 => bnd (lfix (mesh_vertices_l11 p0) (([] : List (S_api_XY × Bool)), 0)) fun t85 =>
 (match t85 with
 | (.inl z85) => j20 z85
 | (.inr (z85)) => some z85
 )))
 (fun j5 => bnd (lfix (mesh_vertices_l4 p0) 0) fun t26 =>
 (match t26 with
 | (.inl z26) => j5 z26
 | (.inr (z26)) => some z26
 )))
def v_arr2_int (x : S_arr2_int) : Value := .agg #[.int .i64 (x.a0), .int .i64 (x.a1)]
theorem v_arr2_int_inj (x y : S_arr2_int) (h : v_arr2_int x = v_arr2_int y) : x = y := by
  rcases x with ⟨_, _⟩; rcases y with ⟨_, _⟩; simp [v_arr2_int] at h; simp [h]
theorem wide48 : (match Tryz.prog.underlying 48 with | some (.array _ _) | some (.struct _) => true | _ => false) = true := by kernel_rfl
set_option maxRecDepth 100000 in
theorem key48 : Maps.Keyed Tryz.prog 48 := Maps.Keyed.of_law (deep_law_laid laidOut3 (m := 3) (by omega) (of_decide_eq_true (by kernel_rfl)) (by kernel_rfl) wide48)
theorem isk48 (x : S_arr2_int) (h : (-9223372036854775808 ≤ x.a0 ∧ x.a0 ≤ 9223372036854775807) ∧ (-9223372036854775808 ≤ x.a1 ∧ x.a1 ≤ 9223372036854775807)) : (keyOf Tryz.prog 48 (v_arr2_int x)).isSome = true := by
  refine isk_array (zs := [x.a0, x.a1]) (d := 189) (by kernel_rfl) Tryz.underlying48 (by kernel_rfl) rfl Tryz.underlying3 (by kernel_rfl) (by kernel_rfl) (fun z hz => ?_)
  simp only [List.mem_cons, List.not_mem_nil, or_false] at hz
  rcases hz with rfl | rfl
  · exact wf_i64 h.1
  · exact wf_i64 h.2
def e_arr2_int (x : S_arr2_int) : List Value := [.int .i64 (x.a0), .int .i64 (x.a1)]
noncomputable def mesh_lineErrors_l3 (p1 : List S_arr2_int) (p0 : List S_api_Vertex) : ((List (S_arr2_int × Bool)) × Int) → Option (Sum ((List (S_arr2_int × Bool)) × Int) (Sum Unit Int)) := fun s53 =>
 if s53.2 < ((((p1).length : Nat) : Int)) then (bnd (idx p1 s53.2) fun x57 =>
 jn (fun (s17 : Bool) =>
 if s17 = true then (some (.inr (.inr (62))))
 else (bnd (mesh_pair x57.a0 x57.a1) fun r97 =>
 gd ((-9223372036854775808 ≤ r97.a0 ∧ r97.a0 ≤ 9223372036854775807) ∧ (-9223372036854775808 ≤ r97.a1 ∧ r97.a1 ≤ 9223372036854775807)) <|
 gd ((s53.1).length < 9223372036854775807) <|
 some (.inl (mput s53.1 r97 true, w64 (s53.2 + 1)))))
 (fun j17 => if x57.a0 < 0 then (j17 true)
 else (if x57.a1 < 0 then (j17 true)
 else (if ((((p0).length : Nat) : Int)) ≤ x57.a0 then (j17 true)
 else (if ((((p0).length : Nat) : Int)) ≤ x57.a1 then (j17 true)
 else (if x57.a0 = x57.a1 then (j17 true)
 else (bnd (mesh_pair x57.a0 x57.a1) fun r84 =>
 gd ((-9223372036854775808 ≤ r84.a0 ∧ r84.a0 ≤ 9223372036854775807) ∧ (-9223372036854775808 ≤ r84.a1 ∧ r84.a1 ≤ 9223372036854775807)) <|
 bnd (some ((mget s53.1 r84).getD false)) fun x89 =>
 j17 x89)))))))
 else (some (.inr (.inl ())))
noncomputable def mesh_lineErrors_l13 (p0 : List S_api_Vertex) (x287 : S_arr2_int) : Int → Option (Sum Int (Sum Unit Int)) := fun s352 =>
 if s352 < ((((p0).length : Nat) : Int)) then (bnd (idx p0 s352) fun x356 =>
 bnd (idx p0 x287.a0) fun x368 =>
 bnd (idx p0 x287.a1) fun x379 =>
 bnd (mesh_at x368) fun r390 =>
 bnd (mesh_at x379) fun r393 =>
 bnd (mesh_at x356) fun r396 =>
 bnd (mesh_between r390 r393 r396) fun r399 =>
 if r399 = true then (some (.inr (.inr (63))))
 else (some (.inl (w64 (s352 + 1)))))
 else (some (.inr (.inl ())))
noncomputable def mesh_lineErrors_l19 (s283 : Int) (p0 : List S_api_Vertex) (x287 : S_arr2_int) : ((List S_arr2_int) × Int) → Option (Sum ((List S_arr2_int) × Int) (Sum Unit Int)) := fun s434 =>
 if s434.2 < (((Int.toNat s283 : Nat) : Int)) then (bnd (idx s434.1 s434.2) fun x440 =>
 bnd (mesh_crossing p0 x440 x287) fun r452 =>
 if r452 = true then (some (.inr (.inr (63))))
 else (some (.inl (s434.1, w64 (s434.2 + 1)))))
 else (some (.inr (.inl ())))
noncomputable def mesh_lineErrors_l10 (p1 : List S_arr2_int) (p0 : List S_api_Vertex) : Int → Option (Sum Int (Sum Unit Int)) := fun s283 =>
 if s283 < ((((p1).length : Nat) : Int)) then (jn (fun (s54 : Unit) =>
 some (.inl (w64 (s283 + 1))))
 (fun j54 => bnd (idx p1 s283) fun x287 =>
 jn (fun (s56 : Unit) =>
 gd (0 ≤ s283 ∧ s283 ≤ (((p1).length : Nat) : Int)) <|
 bnd (lfix (mesh_lineErrors_l19 s283 p0 x287) (subl p1 0 s283, 0)) fun t434 =>
 (match t434 with
 | (.inl z434) => j54 z434
 | (.inr (z434)) => some (.inr (.inr (z434)))
 ))
 (fun j56 => bnd (lfix (mesh_lineErrors_l13 p0 x287) 0) fun t352 =>
 (match t352 with
 | (.inl z352) => j56 z352
 | (.inr (z352)) => some (.inr (.inr (z352)))
 ))))
 else (some (.inr (.inl ())))
noncomputable def mesh_lineErrors (p0 : List S_api_Vertex) (p1 : List S_arr2_int) : Option Int :=
 jn (fun (s3 : Unit) =>
 jn (fun (s19 : Unit) =>
 some 0)
 (fun j19 => bnd (lfix (mesh_lineErrors_l10 p1 p0) 0) fun t283 =>
 (match t283 with
 | (.inl z283) => j19 z283
 | (.inr (z283)) => some z283
 )))
 (fun j3 => bnd (lfix (mesh_lineErrors_l3 p1 p0) (([] : List (S_arr2_int × Bool)), 0)) fun t53 =>
 (match t53 with
 | (.inl z53) => j3 z53
 | (.inr (z53)) => some z53
 ))
noncomputable def cmp_isNaN_int_ (p0 : Int) : Option Bool :=
 some (!(decide (p0 = p0)))
noncomputable def cmp_Compare_int_ (p0 : Int) (p1 : Int) : Option Int :=
 bnd (cmp_isNaN_int_ p0) fun r1 =>
 bnd (cmp_isNaN_int_ p1) fun r4 =>
 if r1 = true then (if r4 = true then (some 0)
 else (some (-1)))
 else (if r4 = true then (some 1)
 else (if p0 < p1 then (some (-1))
 else (if p1 < p0 then (some 1)
 else (some 0))))
noncomputable def slices_Compare___int_int__l2 (p0 : List Int) (p1 : List Int) : Int → Option (Sum Int (Sum Unit Int)) := fun s36 =>
 if s36 < ((((p0).length : Nat) : Int)) then (bnd (idx p0 s36) fun x40 =>
 if ((((p1).length : Nat) : Int)) ≤ s36 then (some (.inr (.inr (1))))
 else (bnd (idx p1 s36) fun x54 =>
 bnd (cmp_Compare_int_ x40 x54) fun r65 =>
 if r65 = 0 then (some (.inl (w64 (s36 + 1))))
 else (some (.inr (.inr (r65))))))
 else (some (.inr (.inl ())))
noncomputable def slices_Compare___int_int_ (p0 : List Int) (p1 : List Int) : Option Int :=
 jn (fun (s2 : Unit) =>
 if ((((p0).length : Nat) : Int)) < ((((p1).length : Nat) : Int)) then (some (-1))
 else (some 0))
 (fun j2 => bnd (lfix (slices_Compare___int_int__l2 p0 p1) 0) fun t36 =>
 (match t36 with
 | (.inl z36) => j2 z36
 | (.inr (z36)) => some z36
 ))
def e_i64 (x : Int) : List Value := [.int .i64 (x)]
structure S_arr3_int where
  a0 : Int
  a1 : Int
  a2 : Int
noncomputable def mesh_builder_triangles_1 (p0 : S_arr3_int) (p1 : S_arr3_int) : Option Int :=
 bnd (slices_Compare___int_int_ ([p0.a0, p0.a1, p0.a2]) ([p1.a0, p1.a1, p1.a2])) fun r5 =>
 some r5
noncomputable def mesh_ranks_1 (p0 : Int) (p1 : Int) (p2 : List S_api_Vertex) : Option Int :=
 bnd (idx p2 p0) fun x1 =>
 bnd (idx p2 p1) fun x12 =>
 bnd (mesh_at x1) fun r23 =>
 bnd (mesh_at x12) fun r26 =>
 bnd (mesh_before r23 r26) fun r29 =>
 if r29 = true then (some (-1))
 else (bnd (idx p2 p1) fun x35 =>
 bnd (idx p2 p0) fun x46 =>
 bnd (mesh_at x35) fun r57 =>
 bnd (mesh_at x46) fun r60 =>
 bnd (mesh_before r57 r60) fun r63 =>
 if r63 = true then (some 1)
 else (some 0))
def e_arr3_int (x : S_arr3_int) : List Value := [.int .i64 (x.a0), .int .i64 (x.a1), .int .i64 (x.a2)]
set_option maxRecDepth 100000 in
theorem mesh_vertices_ok (p0 : List S_api_Vertex) {K : List Ent} {A0_0 : Option Addr} {c0_0 : Nat} (ha0 : Has K A0_0 (p0).length c0_0 4 e_api_Vertex (p0)) {r : Int} (hx : mesh_vertices p0 = some r) (w : World) (hK : ∀ e ∈ K, Ent.ok w e) : CtL Tryz.prog 29 [.slice (A0_0) ((p0).length) (c0_0)] w fun v Ln => v = .int .i64 (r) ∧ Ln = [] ∧ True := by
  have ha0' := Has.up0 ha0
  refine CtL.mk 36 Tryz.func29 rfl Tryz.ntmps29 (by kernel_rfl) rfl ?_
  show T 36 _ [(0, .slice (A0_0) ((p0).length) (c0_0))] _
  unfold mesh_vertices at hx
  refine T_seq ?_
  refine T_reg ?_
  refine T_val (Ev_assign rfl) rfl ?_
  refine T_nil ?_
  refine T_next ?_
  refine T_seq ?_
  refine T_seq ?_
  refine T_reg ?_
  refine T_val (Ev_move rfl) rfl ?_
  refine T_val (Ev_len rfl 43 Tryz.underlying22) rfl ?_
  refine T_val (Ev_gtr rfl rfl) rfl ?_
  refine T_nil ?_
  refine T_next ?_
  refine T_caseP (s := 10) rfl (fun h1 => ?_) (fun h1 => ?_)
  · have hx2 := ite_t h1 hx
    refine T_condT rfl ?_
    refine T_seq ?_
    refine T_reg ?_
    refine T_val (Ev_assign rfl) rfl ?_
    refine T_nil ?_
    refine T_next ?_
    refine T_retc ?_
    refine T_outR ?_
    obtain rfl := Option.some.inj hx2
    exact T_retP (rs := [.tmp 2]) Tryz.results29 (.tmp rfl (.nil)) (Ln := []) ⟨rfl, rfl, trivial⟩ (loNil) (by exact .refl)
  · have hx3 := ite_f h1 hx
    refine T_condF rfl ?_
    refine T_skip ?_
    refine T_next ?_
    obtain ⟨j5, hj5, hx3⟩ := jn_some hx3
    refine T_cutP (τ := Unit) (γ := Unit) (J := j5) (out := r) (fun s5 y5 => [(0, .slice (A0_0) ((p0).length) (c0_0))]) (fun s5 y5 => [] ++ [.old w]) (fun s5 y5 => True) ?_ ?_
    · intro s5 y5 hx48 hG49
      subst hj5
      refine T_seq ?_
      refine T_reg ?_
      refine T_x (Wx_makeMap2 Tryz.prog 38 v_api_XY v_bool rfl (fun g50 => ?_))
      refine T_val (Ev_assign rfl) rfl ?_
      refine T_nil ?_
      refine T_next ?_
      obtain ⟨j20, hj20, hx48⟩ := jn_some hx48
      refine T_cutP (τ := Unit) (γ := Unit) (J := j20) (out := r) (fun s20 y20 => []) (fun s20 y20 => [] ++ [.old w]) (fun s20 y20 => True) ?_ ?_
      · intro s20 y20 hx119 hG120
        subst hj20
        refine T_seq ?_
        refine T_reg ?_
        refine T_val (Ev_assign rfl) rfl ?_
        refine T_nil ?_
        refine T_next ?_
        refine T_retc ?_
        obtain rfl := Option.some.inj hx119
        exact T_retP (rs := [.tmp 2]) Tryz.results29 (.tmp rfl (.nil)) (Ln := []) ⟨rfl, rfl, trivial⟩ (loNil) (by exact .refl)
      · skip
        refine T_seq ?_
        refine T_reg ?_
        refine T_val (Ev_move rfl) rfl ?_
        refine T_val (Ev_len rfl 43 Tryz.underlying22) rfl ?_
        refine T_val (Ev_move rfl) rfl ?_
        refine T_nil ?_
        refine T_next ?_
        refine T_block ?_
        obtain ⟨t85, hl85, ho85⟩ := bnd_some hx48
        refine T_loopP (σ := (List (S_api_XY × Bool)) × Int) (γ := Unit) hl85 (fun s85 y85 => [(5, .map (some g50)), (22, .slice (A0_0) ((p0).length) (c0_0)), (23, .int .i64 ((((p0).length : Nat) : Int))), (24, .int .i64 (s85.2))]) (fun s85 y85 => [mapE2 Tryz.prog 38 v_api_XY v_bool g50 (s85.1)] ++ [.old w]) (fun s85 y85 => True) () trivial (by exact .cons rfl (.cons rfl (.cons rfl (.cons rfl (.nil))))) (by exact .pick 0 rfl (.refl)) ?_
        intro s85 y85 hG85 x85 hx85 ht85
        unfold mesh_vertices_l11 at hx85
        refine T_seq ?_
        refine T_reg ?_
        refine T_val (Ev_lss rfl rfl) rfl ?_
        refine T_nil ?_
        refine T_next ?_
        refine T_seq ?_
        refine T_caseP (s := 25) rfl (fun h86 => ?_) (fun h86 => ?_)
        · have hx87 := ite_t h86 hx85
          refine T_condT rfl ?_
          refine T_skip ?_
          refine T_next ?_
          refine T_seq ?_
          refine T_block ?_
          refine T_seq ?_
          refine T_reg ?_
          obtain ⟨x89, h90, hx91⟩ := bnd_some hx87
          have hw99 := Has.low (E := []) ha0' hK
          obtain ⟨b92, o93, j94, hA95, hj96, hl97, hp98⟩ := Has.at_idx hw99 h90
          refine T_val (Ev_index rfl rfl hA95 (j := j94) hj96 hl97 slc22) rfl ?_
          refine T_val (Ev_loadPK0 rfl hp98 (SubE.cons2 (i := 1) rfl (SubE.nil)) rfl agg43) rfl ?_
          refine T_x (Wx_alloc zer43 rfl (fun g100 => ?_))
          refine T_h (Wh_store rfl rfl rfl (.here) (.put (.put (.put (.put (.done))))) rfl (List.cons_ne_nil _ _) agg43.2 ?_)
          refine T_nil ?_
          refine T_next ?_
          refine T_seq ?_
          refine T_seq ?_
          refine T_reg ?_
          refine T_val (Ev_move rfl) rfl ?_
          refine T_val (Ev_loadK rfl (i := 0) rfl rfl agg43) rfl ?_
          obtain ⟨r101, h102, hx103⟩ := bnd_some hx91
          refine T_x (Wx_callL rfl (fun w1 hw1 => mesh_at_ok x89  h102 w1) rfl ?_)
          rintro _ _ hlo ⟨rfl, rfl, -⟩
          refine T_app0 ?_
          obtain ⟨h104, hx105⟩ := gd_some hx103
          obtain ⟨x106, h107, hx108⟩ := bnd_some hx105
          refine T_val (Ev_look2 (x := r101) (i := 1) (vv := .bool (x106)) key38 Tryz.underlying93 (fun w => by kernel_rfl) v_api_XY_inj rfl rfl rfl rfl holds_mapE2 (isk38 r101 h104) h107 rfl) rfl ?_
          refine T_nil ?_
          refine T_next ?_
          refine T_caseB (s := 31) rfl (fun h109 => ?_) (fun h109 => ?_)
          · have hx110 := ite_t h109 hx108
            refine T_condT rfl ?_
            refine T_seq ?_
            refine T_reg ?_
            refine T_val (Ev_assign rfl) rfl ?_
            refine T_nil ?_
            refine T_next ?_
            refine T_retc ?_
            refine T_outR ?_
            refine T_inR ?_
            refine T_outR ?_
            obtain rfl := exit_eq ht85 hx110
            refine T_outR ?_
            refine T_inR ?_
            refine T_outR ?_
            obtain rfl := Option.some.inj ho85
            exact T_retP (rs := [.tmp 2]) Tryz.results29 (.tmp rfl (.nil)) (Ln := []) ⟨rfl, rfl, trivial⟩ (loNil) (by exact .drop 0 rfl (.drop 0 rfl (.refl)))
          · have hx111 := ite_bf h109 hx108
            refine T_condF rfl ?_
            refine T_skip ?_
            refine T_next ?_
            refine T_reg ?_
            refine T_val (Ev_move rfl) rfl ?_
            refine T_val (Ev_loadK rfl (i := 0) rfl rfl agg43) rfl ?_
            obtain ⟨r112, h113, hx114⟩ := bnd_some hx111
            refine T_x (Wx_callL rfl (fun w1 hw1 => mesh_at_ok x89  h113 w1) rfl ?_)
            rintro _ _ hlo ⟨rfl, rfl, -⟩
            refine T_app0 ?_
            obtain ⟨h115, hx116⟩ := gd_some hx114
            obtain ⟨h117, hx118⟩ := gd_some hx116
            refine T_h (Wh_mapPut2 (x := r112) (y := true) key38 v_api_XY_inj Tryz.underlying93 rfl rfl rfl rfl rfl (.there (.here)) (isk38 r112 h115) h117 ?_)
            refine T_nil ?_
            refine T_inN ?_
            refine T_next ?_
            refine T_reg ?_
            refine T_val (Ev_add_w64 rfl rfl) rfl ?_
            refine T_val (Ev_move rfl) rfl ?_
            refine T_nil ?_
            exact T_roundP (mput s85.1 r112 true, w64 (s85.2 + 1)) () hx118 trivial (by exact .cons rfl (.cons rfl (.cons rfl (.cons rfl (.nil))))) (by exact .pick 1 rfl (.drop 0 rfl (.refl)))
        · have hx88 := ite_f h86 hx85
          refine T_condF rfl ?_
          refine T_exit ?_
          refine T_outX ?_
          obtain rfl := exit_eq ht85 hx88
          refine T_outX ?_
          refine T_here ?_
          exact T_metP () () ho85 trivial (by exact .nil) (by exact .drop 0 rfl (.refl))
    · skip
      refine T_seq ?_
      refine T_reg ?_
      refine T_val (Ev_move rfl) rfl ?_
      refine T_val (Ev_len rfl 43 Tryz.underlying22) rfl ?_
      refine T_val (Ev_move rfl) rfl ?_
      refine T_nil ?_
      refine T_next ?_
      refine T_block ?_
      obtain ⟨t26, hl26, ho26⟩ := bnd_some hx3
      refine T_loopP (σ := Int) (γ := Unit) hl26 (fun s26 y26 => [(0, .slice (A0_0) ((p0).length) (c0_0)), (11, .slice (A0_0) ((p0).length) (c0_0)), (12, .int .i64 ((((p0).length : Nat) : Int))), (13, .int .i64 (s26))]) (fun s26 y26 => [] ++ [.old w]) (fun s26 y26 => True) () trivial (by exact .cons rfl (.cons rfl (.cons rfl (.cons rfl (.nil))))) (by exact .refl) ?_
      intro s26 y26 hG26 x26 hx26 ht26
      unfold mesh_vertices_l4 at hx26
      refine T_seq ?_
      refine T_reg ?_
      refine T_val (Ev_lss rfl rfl) rfl ?_
      refine T_nil ?_
      refine T_next ?_
      refine T_seq ?_
      refine T_caseP (s := 14) rfl (fun h27 => ?_) (fun h27 => ?_)
      · have hx28 := ite_t h27 hx26
        refine T_condT rfl ?_
        refine T_skip ?_
        refine T_next ?_
        refine T_seq ?_
        refine T_block ?_
        refine T_seq ?_
        refine T_reg ?_
        obtain ⟨x30, h31, hx32⟩ := bnd_some hx28
        have hw40 := Has.low (E := []) ha0' hK
        obtain ⟨b33, o34, j35, hA36, hj37, hl38, hp39⟩ := Has.at_idx hw40 h31
        refine T_val (Ev_index rfl rfl hA36 (j := j35) hj37 hl38 slc22) rfl ?_
        refine T_val (Ev_loadPK0 rfl hp39 (SubE.cons2 (i := 0) rfl (SubE.nil)) rfl agg43) rfl ?_
        refine T_x (Wx_alloc zer43 rfl (fun g41 => ?_))
        refine T_h (Wh_store rfl rfl rfl (.here) (.put (.put (.put (.put (.done))))) rfl (List.cons_ne_nil _ _) agg43.2 ?_)
        refine T_nil ?_
        refine T_next ?_
        refine T_seq ?_
        refine T_reg ?_
        refine T_val (Ev_loadK rfl (i := 0) rfl rfl agg43) rfl ?_
        obtain ⟨r42, h43, hx44⟩ := bnd_some hx32
        refine T_x (Wx_callL rfl (fun w1 hw1 => mesh_good_ok x30  h43 w1) rfl ?_)
        rintro _ _ hlo ⟨rfl, rfl, -⟩
        refine T_app0 ?_
        refine T_val (Ev_not rfl) rfl ?_
        refine T_nil ?_
        refine T_next ?_
        refine T_caseNB (s := 19) rfl (fun h45 => ?_) (fun h45 => ?_)
        · have hx46 := ite_bf h45 hx44
          refine T_condT rfl ?_
          refine T_seq ?_
          refine T_reg ?_
          refine T_val (Ev_assign rfl) rfl ?_
          refine T_nil ?_
          refine T_next ?_
          refine T_retc ?_
          refine T_inR ?_
          refine T_outR ?_
          obtain rfl := exit_eq ht26 hx46
          refine T_outR ?_
          refine T_inR ?_
          refine T_outR ?_
          obtain rfl := Option.some.inj ho26
          exact T_retP (rs := [.tmp 2]) Tryz.results29 (.tmp rfl (.nil)) (Ln := []) ⟨rfl, rfl, trivial⟩ (loNil) (by exact .drop 0 rfl (.refl))
        · have hx47 := ite_t h45 hx44
          refine T_condF rfl ?_
          refine T_skip ?_
          refine T_inN ?_
          refine T_next ?_
          refine T_reg ?_
          refine T_val (Ev_add_w64 rfl rfl) rfl ?_
          refine T_val (Ev_move rfl) rfl ?_
          refine T_nil ?_
          exact T_roundP (w64 (s26 + 1)) () hx47 trivial (by exact .cons rfl (.cons rfl (.cons rfl (.cons rfl (.nil))))) (by exact .drop 0 rfl (.refl))
      · have hx29 := ite_f h27 hx26
        refine T_condF rfl ?_
        refine T_exit ?_
        refine T_outX ?_
        obtain rfl := exit_eq ht26 hx29
        refine T_outX ?_
        refine T_here ?_
        exact T_metP () () ho26 trivial (by exact .cons rfl (.nil)) (by exact .refl)
set_option maxRecDepth 100000 in
theorem mesh_lineErrors_ok (p0 : List S_api_Vertex) (p1 : List S_arr2_int) {K : List Ent} {A0_0 : Option Addr} {c0_0 : Nat} {A0_1 : Option Addr} {c0_1 : Nat} (ha0 : Has K A0_0 (p0).length c0_0 4 e_api_Vertex (p0)) (ha1 : Has K A0_1 (p1).length c0_1 2 e_arr2_int (p1)) {r : Int} (hx : mesh_lineErrors p0 p1 = some r) (w : World) (hK : ∀ e ∈ K, Ent.ok w e) : CtL Tryz.prog 30 [.slice (A0_0) ((p0).length) (c0_0), .slice (A0_1) ((p1).length) (c0_1)] w fun v Ln => v = .int .i64 (r) ∧ Ln = [] ∧ True := by
  have ha0' := Has.up0 ha0
  have ha1' := Has.up0 ha1
  refine CtL.mk 109 Tryz.func30 rfl Tryz.ntmps30 (by kernel_rfl) rfl ?_
  show T 109 _ [(0, .slice (A0_0) ((p0).length) (c0_0)), (1, .slice (A0_1) ((p1).length) (c0_1))] _
  unfold mesh_lineErrors at hx
  refine T_seq ?_
  refine T_reg ?_
  refine T_val (Ev_assign rfl) rfl ?_
  refine T_nil ?_
  refine T_next ?_
  refine T_seq ?_
  refine T_reg ?_
  refine T_x (Wx_makeMap2 Tryz.prog 48 v_arr2_int v_bool rfl (fun g1 => ?_))
  refine T_val (Ev_assign rfl) rfl ?_
  refine T_nil ?_
  refine T_next ?_
  obtain ⟨j3, hj3, hx⟩ := jn_some hx
  refine T_cutP (τ := Unit) (γ := Unit) (J := j3) (out := r) (fun s3 y3 => [(0, .slice (A0_0) ((p0).length) (c0_0)), (1, .slice (A0_1) ((p1).length) (c0_1))]) (fun s3 y3 => [] ++ [.old w]) (fun s3 y3 => True) ?_ ?_
  · intro s3 y3 hx104 hG105
    subst hj3
    obtain ⟨j19, hj19, hx104⟩ := jn_some hx104
    refine T_cutP (τ := Unit) (γ := Unit) (J := j19) (out := r) (fun s19 y19 => []) (fun s19 y19 => [] ++ [.old w]) (fun s19 y19 => True) ?_ ?_
    · intro s19 y19 hx460 hG461
      subst hj19
      refine T_seq ?_
      refine T_reg ?_
      refine T_val (Ev_assign rfl) rfl ?_
      refine T_nil ?_
      refine T_next ?_
      refine T_retc ?_
      obtain rfl := Option.some.inj hx460
      exact T_retP (rs := [.tmp 4]) Tryz.results30 (.tmp rfl (.nil)) (Ln := []) ⟨rfl, rfl, trivial⟩ (loNil) (by exact .refl)
    · skip
      refine T_seq ?_
      refine T_reg ?_
      refine T_val (Ev_move rfl) rfl ?_
      refine T_val (Ev_len rfl 48 Tryz.underlying23) rfl ?_
      refine T_val (Ev_move rfl) rfl ?_
      refine T_nil ?_
      refine T_next ?_
      refine T_block ?_
      obtain ⟨t283, hl283, ho283⟩ := bnd_some hx104
      refine T_loopP (σ := Int) (γ := Unit) hl283 (fun s283 y283 => [(0, .slice (A0_0) ((p0).length) (c0_0)), (1, .slice (A0_1) ((p1).length) (c0_1)), (66, .slice (A0_1) ((p1).length) (c0_1)), (67, .int .i64 ((((p1).length : Nat) : Int))), (68, .int .i64 (s283))]) (fun s283 y283 => [] ++ [.old w]) (fun s283 y283 => True) () trivial (by exact .cons rfl (.cons rfl (.cons rfl (.cons rfl (.cons rfl (.nil)))))) (by exact .refl) ?_
      intro s283 y283 hG283 x283 hx283 ht283
      unfold mesh_lineErrors_l10 at hx283
      refine T_seq ?_
      refine T_reg ?_
      refine T_val (Ev_lss rfl rfl) rfl ?_
      refine T_nil ?_
      refine T_next ?_
      refine T_seq ?_
      refine T_caseP (s := 69) rfl (fun h284 => ?_) (fun h284 => ?_)
      · have hx285 := ite_t h284 hx283
        refine T_condT rfl ?_
        refine T_skip ?_
        refine T_next ?_
        obtain ⟨j54, hj54, hx285⟩ := jn_some hx285
        refine T_cutP (τ := Unit) (γ := Unit) (J := j54) (out := x283) (fun s54 y54 => [(0, .slice (A0_0) ((p0).length) (c0_0)), (1, .slice (A0_1) ((p1).length) (c0_1)), (66, .slice (A0_1) ((p1).length) (c0_1)), (67, .int .i64 ((((p1).length : Nat) : Int))), (68, .int .i64 (s283))]) (fun s54 y54 => [] ++ [.old w]) (fun s54 y54 => True) ?_ ?_
        · intro s54 y54 hx458 hG459
          subst hj54
          refine T_reg ?_
          refine T_val (Ev_add_w64 rfl rfl) rfl ?_
          refine T_val (Ev_move rfl) rfl ?_
          refine T_nil ?_
          exact T_roundP (w64 (s283 + 1)) () hx458 trivial (by exact .cons rfl (.cons rfl (.cons rfl (.cons rfl (.cons rfl (.nil)))))) (by exact .refl)
        · skip
          refine T_block ?_
          refine T_seq ?_
          refine T_reg ?_
          refine T_val (Ev_move rfl) rfl ?_
          obtain ⟨x287, h288, hx289⟩ := bnd_some hx285
          have hw297 := Has.low (E := []) ha1' hK
          obtain ⟨b290, o291, j292, hA293, hj294, hl295, hp296⟩ := Has.at_idx hw297 h288
          refine T_val (Ev_index rfl rfl hA293 (j := j292) hj294 hl295 slc23) rfl ?_
          refine T_val (Ev_loadPK0 rfl hp296 (SubE.cons2 (i := 0) rfl (SubE.nil)) rfl agg48) rfl ?_
          refine T_x (Wx_alloc zer48 rfl (fun g298 => ?_))
          refine T_val (Ev_assign rfl) rfl ?_
          refine T_h (Wh_store rfl rfl rfl (.here) (.put (.put (.done))) rfl (List.cons_ne_nil _ _) agg48.2 ?_)
          refine T_nil ?_
          refine T_next ?_
          obtain ⟨j56, hj56, hx289⟩ := jn_some hx289
          refine T_cutP (τ := Unit) (γ := Unit) (J := j56) (out := x283) (fun s56 y56 => [(0, .slice (A0_0) ((p0).length) (c0_0)), (1, .slice (A0_1) ((p1).length) (c0_1)), (8, .int .i64 (s283)), (9, .pointer (some ⟨g298, 0, none⟩)), (66, .slice (A0_1) ((p1).length) (c0_1)), (67, .int .i64 ((((p1).length : Nat) : Int))), (68, .int .i64 (s283))]) (fun s56 y56 => [.m g298 48 [.int .i64 (x287.a0), .int .i64 (x287.a1)]] ++ [.old w]) (fun s56 y56 => True) ?_ ?_
          · intro s56 y56 hx405 hG406
            subst hj56
            refine T_seq ?_
            refine T_reg ?_
            refine T_val (Ev_move rfl) rfl ?_
            refine T_val (Ev_move rfl) rfl ?_
            obtain ⟨h408, hx409⟩ := gd_some hx405
            have hs407 := Has.subH ha1' h408.1 h408.2
            refine T_val (Ev_subH rfl rfl slc23 h408.1 (by have := Has.nc ha1'; omega)) rfl ?_
            refine T_val (Ev_len rfl 48 Tryz.underlying23) rfl ?_
            refine T_val (Ev_move rfl) rfl ?_
            refine T_nil ?_
            refine T_next ?_
            refine T_block ?_
            obtain ⟨t434, hl434, ho434⟩ := bnd_some hx409
            refine T_slot (s := 97) (v' := .slice (A0_1) ((subl p1 0 s283).length) (c0_1)) rfl (by have hn435 : (Int.toNat s283) = (subl p1 0 s283).length := (Has.len hs407).symm; first | (rw [← hn435]; done) | rfl) ?_
            refine T_loopP (σ := (List S_arr2_int) × Int) (γ := (Option Addr) × Nat) hl434 (fun s434 y434 => [(0, .slice (A0_0) ((p0).length) (c0_0)), (1, .slice (A0_1) ((p1).length) (c0_1)), (9, .pointer (some ⟨g298, 0, none⟩)), (66, .slice (A0_1) ((p1).length) (c0_1)), (67, .int .i64 ((((p1).length : Nat) : Int))), (68, .int .i64 (s283)), (97, .slice (y434.1) ((s434.1).length) (y434.2)), (98, .int .i64 (((Int.toNat s283 : Nat) : Int))), (99, .int .i64 (s434.2))]) (fun s434 y434 => [.m g298 48 [.int .i64 (x287.a0), .int .i64 (x287.a1)]] ++ [.old w]) (fun s434 y434 => Has (K ++ []) (y434.1) ((s434.1).length) (y434.2) 2 e_arr2_int (s434.1) ∧ True) (A0_1, c0_1) ((by exact ⟨Has.len' hs407, trivial⟩)) (by exact .cons rfl (.cons rfl (.cons rfl (.cons rfl (.cons rfl (.cons rfl (.cons rfl (.cons rfl (.cons rfl (.nil)))))))))) (by exact .pick 0 rfl (.refl)) ?_
            intro s434 y434 hG434 x434 hx434 ht434
            unfold mesh_lineErrors_l19 at hx434
            obtain ⟨hs436, -⟩ := hG434
            refine T_seq ?_
            refine T_reg ?_
            refine T_val (Ev_lss rfl rfl) rfl ?_
            refine T_nil ?_
            refine T_next ?_
            refine T_seq ?_
            refine T_caseP (s := 100) rfl (fun h437 => ?_) (fun h437 => ?_)
            · have hx438 := ite_t h437 hx434
              refine T_condT rfl ?_
              refine T_skip ?_
              refine T_next ?_
              refine T_seq ?_
              refine T_block ?_
              refine T_seq ?_
              refine T_reg ?_
              obtain ⟨x440, h441, hx442⟩ := bnd_some hx438
              have hw450 := Has.low (E := []) hs436 hK
              obtain ⟨b443, o444, j445, hA446, hj447, hl448, hp449⟩ := Has.at_idx hw450 h441
              refine T_val (Ev_index rfl rfl hA446 (j := j445) hj447 hl448 slc23) rfl ?_
              refine T_val (Ev_loadPK0 rfl hp449 (SubE.cons2 (i := 1) rfl (SubE.nil)) rfl agg48) rfl ?_
              refine T_x (Wx_alloc zer48 rfl (fun g451 => ?_))
              refine T_h (Wh_store rfl rfl rfl (.here) (.put (.put (.done))) rfl (List.cons_ne_nil _ _) agg48.2 ?_)
              refine T_nil ?_
              refine T_next ?_
              refine T_seq ?_
              refine T_reg ?_
              refine T_val (Ev_move rfl) rfl ?_
              refine T_val (Ev_loadK rfl (i := 0) rfl rfl agg48) rfl ?_
              refine T_val (Ev_loadK rfl (i := 1) rfl rfl agg48) rfl ?_
              obtain ⟨r452, h453, hx454⟩ := bnd_some hx442
              refine T_x (Wx_callL rfl (fun w1 hw1 => mesh_crossing_ok p0 x440 x287 (Has.len' ha0') h453 w1 (okApp (K := K) (K2 := []) hK (by exact (SubE.cons2 (i := 2) rfl (SubE.nil))) (by exact (SubE.nil)) hw1)) rfl ?_)
              rintro _ _ hlo ⟨rfl, rfl, -⟩
              refine T_app0 ?_
              refine T_nil ?_
              refine T_next ?_
              refine T_caseB (s := 106) rfl (fun h455 => ?_) (fun h455 => ?_)
              · have hx456 := ite_t h455 hx454
                refine T_condT rfl ?_
                refine T_seq ?_
                refine T_reg ?_
                refine T_val (Ev_assign rfl) rfl ?_
                refine T_nil ?_
                refine T_next ?_
                refine T_retc ?_
                refine T_inR ?_
                refine T_outR ?_
                obtain rfl := exit_eq ht434 hx456
                refine T_outR ?_
                refine T_inR ?_
                refine T_inR ?_
                refine T_outR ?_
                obtain rfl := exit_eq ht283 ho434
                refine T_outR ?_
                refine T_inR ?_
                refine T_outR ?_
                obtain rfl := Option.some.inj ho283
                exact T_retP (rs := [.tmp 4]) Tryz.results30 (.tmp rfl (.nil)) (Ln := []) ⟨rfl, rfl, trivial⟩ (loNil) (by exact .drop 0 rfl (.drop 0 rfl (.refl)))
              · have hx457 := ite_bf h455 hx454
                refine T_condF rfl ?_
                refine T_skip ?_
                refine T_inN ?_
                refine T_next ?_
                refine T_reg ?_
                refine T_val (Ev_add_w64 rfl rfl) rfl ?_
                refine T_val (Ev_move rfl) rfl ?_
                refine T_nil ?_
                exact T_roundP (s434.1, w64 (s434.2 + 1)) (y434.1, y434.2) hx457 ((by exact ⟨Has.len' hs436, trivial⟩)) (by exact .cons rfl (.cons rfl (.cons rfl (.cons rfl (.cons rfl (.cons rfl (.cons rfl (.cons rfl (.cons rfl (.nil)))))))))) (by exact .pick 1 rfl (.drop 0 rfl (.refl)))
            · have hx439 := ite_f h437 hx434
              refine T_condF rfl ?_
              refine T_exit ?_
              refine T_outX ?_
              obtain rfl := exit_eq ht434 hx439
              refine T_outX ?_
              refine T_here ?_
              refine T_inN ?_
              exact T_metP () () ho434 trivial (by exact .cons rfl (.cons rfl (.cons rfl (.cons rfl (.cons rfl (.nil)))))) (by exact .drop 0 rfl (.refl))
          · skip
            refine T_seq ?_
            refine T_reg ?_
            refine T_val (Ev_move rfl) rfl ?_
            refine T_val (Ev_len rfl 43 Tryz.underlying22) rfl ?_
            refine T_val (Ev_move rfl) rfl ?_
            refine T_nil ?_
            refine T_next ?_
            refine T_block ?_
            obtain ⟨t352, hl352, ho352⟩ := bnd_some hx289
            refine T_loopP (σ := Int) (γ := Unit) hl352 (fun s352 y352 => [(0, .slice (A0_0) ((p0).length) (c0_0)), (1, .slice (A0_1) ((p1).length) (c0_1)), (8, .int .i64 (s283)), (9, .pointer (some ⟨g298, 0, none⟩)), (66, .slice (A0_1) ((p1).length) (c0_1)), (67, .int .i64 ((((p1).length : Nat) : Int))), (68, .int .i64 (s283)), (73, .slice (A0_0) ((p0).length) (c0_0)), (74, .int .i64 ((((p0).length : Nat) : Int))), (75, .int .i64 (s352))]) (fun s352 y352 => [.m g298 48 [.int .i64 (x287.a0), .int .i64 (x287.a1)]] ++ [.old w]) (fun s352 y352 => True) () trivial (by exact .cons rfl (.cons rfl (.cons rfl (.cons rfl (.cons rfl (.cons rfl (.cons rfl (.cons rfl (.cons rfl (.cons rfl (.nil))))))))))) (by exact .pick 0 rfl (.refl)) ?_
            intro s352 y352 hG352 x352 hx352 ht352
            unfold mesh_lineErrors_l13 at hx352
            refine T_seq ?_
            refine T_reg ?_
            refine T_val (Ev_lss rfl rfl) rfl ?_
            refine T_nil ?_
            refine T_next ?_
            refine T_seq ?_
            refine T_caseP (s := 76) rfl (fun h353 => ?_) (fun h353 => ?_)
            · have hx354 := ite_t h353 hx352
              refine T_condT rfl ?_
              refine T_skip ?_
              refine T_next ?_
              refine T_seq ?_
              refine T_block ?_
              refine T_seq ?_
              refine T_reg ?_
              obtain ⟨x356, h357, hx358⟩ := bnd_some hx354
              have hw366 := Has.low (E := []) ha0' hK
              obtain ⟨b359, o360, j361, hA362, hj363, hl364, hp365⟩ := Has.at_idx hw366 h357
              refine T_val (Ev_index rfl rfl hA362 (j := j361) hj363 hl364 slc22) rfl ?_
              refine T_val (Ev_loadPK0 rfl hp365 (SubE.cons2 (i := 1) rfl (SubE.nil)) rfl agg43) rfl ?_
              refine T_x (Wx_alloc zer43 rfl (fun g367 => ?_))
              refine T_h (Wh_store rfl rfl rfl (.here) (.put (.put (.put (.put (.done))))) rfl (List.cons_ne_nil _ _) agg43.2 ?_)
              refine T_nil ?_
              refine T_next ?_
              refine T_seq ?_
              refine T_draw [0, 0, 1, 0, 1, 2, 0, 0, 1, 0, 1, 2, 1, 2, 2] [[], [], [1], [0, 1, 2], [0, 1, 2, 3], [0, 1, 2, 3, 4], [], [], [7], [6, 7, 8], [6, 7, 8, 9], [0, 1, 2, 3, 4, 5, 6, 7, 8, 9, 10], [], [0, 1, 2, 3, 4, 5, 6, 7, 8, 9, 10, 11, 12], [0, 1, 2, 3, 4, 5, 6, 7, 8, 9, 10, 11, 12, 13]] (.q 0 (.q 1 (.q 2 (.q 3 (.q 4 (.q 6 (.q 7 (.q 8 (.q 9 (.q 10 (.q 12 (.e 5 (.e 11 (.e 13 (.e 14 (.done) (.stop)) (.stop)) (.stop)) (.stop))))))))))))) mixed (by kernel_rfl) (by kernel_rfl) ?_
              refine P_p rfl rfl (Ev_move rfl) rfl ?_
              refine P_p rfl rfl (Ev_indexP rfl rfl arr48 (by decide) (by decide) rfl) rfl ?_
              refine P_q rfl rfl (Ev_load1 rfl (i := 1) rfl rfl one3) rfl ?_
              obtain ⟨x368, h369, hx370⟩ := bnd_some hx358
              have hw378 := Has.low (E := []) ha0' hK
              obtain ⟨b371, o372, j373, hA374, hj375, hl376, hp377⟩ := Has.at_idx hw378 h369
              refine P_p rfl rfl (Ev_index rfl rfl hA374 (j := j373) hj375 hl376 slc22) rfl ?_
              refine P_q rfl rfl (Ev_loadPK0 rfl hp377 (SubE.cons2 (i := 2) rfl (SubE.nil)) rfl agg43) rfl ?_
              refine P_p rfl rfl (Ev_move rfl) rfl ?_
              refine P_p rfl rfl (Ev_indexP rfl rfl arr48 (by decide) (by decide) rfl) rfl ?_
              refine P_q rfl rfl (Ev_load1 rfl (i := 1) rfl rfl one3) rfl ?_
              obtain ⟨x379, h380, hx381⟩ := bnd_some hx370
              have hw389 := Has.low (E := []) ha0' hK
              obtain ⟨b382, o383, j384, hA385, hj386, hl387, hp388⟩ := Has.at_idx hw389 h380
              refine P_p rfl rfl (Ev_index rfl rfl hA385 (j := j384) hj386 hl387 slc22) rfl ?_
              refine P_q rfl rfl (Ev_loadPK0 rfl hp388 (SubE.cons2 (i := 2) rfl (SubE.nil)) rfl agg43) rfl ?_
              refine P_q rfl rfl (Ev_loadK rfl (i := 0) rfl rfl agg43) rfl ?_
              obtain ⟨r390, h391, hx392⟩ := bnd_some hx381
              refine P_x rfl (Wx_callL rfl (fun w1 hw1 => mesh_at_ok x368  h391 w1) rfl ?_) ?_
              rotate_left; exact P_stop
              rintro _ _ hlo ⟨rfl, rfl, -⟩
              refine T_app0 ?_
              obtain ⟨r393, h394, hx395⟩ := bnd_some hx392
              refine P_x rfl (Wx_callL rfl (fun w1 hw1 => mesh_at_ok x379  h394 w1) rfl ?_) ?_
              rotate_left; exact P_stop
              rintro _ _ hlo ⟨rfl, rfl, -⟩
              refine T_app0 ?_
              obtain ⟨r396, h397, hx398⟩ := bnd_some hx395
              refine P_x rfl (Wx_callL rfl (fun w1 hw1 => mesh_at_ok x356  h397 w1) rfl ?_) ?_
              rotate_left; exact P_stop
              rintro _ _ hlo ⟨rfl, rfl, -⟩
              refine T_app0 ?_
              obtain ⟨r399, h400, hx401⟩ := bnd_some hx398
              refine P_x rfl (Wx_callL rfl (fun w1 hw1 => mesh_between_ok r390 r393 r396  h400 w1) rfl ?_) ?_
              rotate_left; exact P_stop
              rintro _ _ hlo ⟨rfl, rfl, -⟩
              refine T_app0 ?_
              refine P_done ?_
              refine T_next ?_
              refine T_caseB (s := 93) rfl (fun h402 => ?_) (fun h402 => ?_)
              · have hx403 := ite_t h402 hx401
                refine T_condT rfl ?_
                refine T_seq ?_
                refine T_reg ?_
                refine T_val (Ev_assign rfl) rfl ?_
                refine T_nil ?_
                refine T_next ?_
                refine T_retc ?_
                refine T_inR ?_
                refine T_outR ?_
                obtain rfl := exit_eq ht352 hx403
                refine T_outR ?_
                refine T_inR ?_
                refine T_outR ?_
                refine T_inR ?_
                refine T_outR ?_
                obtain rfl := exit_eq ht283 ho352
                refine T_outR ?_
                refine T_inR ?_
                refine T_outR ?_
                obtain rfl := Option.some.inj ho283
                exact T_retP (rs := [.tmp 4]) Tryz.results30 (.tmp rfl (.nil)) (Ln := []) ⟨rfl, rfl, trivial⟩ (loNil) (by exact .drop 0 rfl (.drop 0 rfl (.refl)))
              · have hx404 := ite_bf h402 hx401
                refine T_condF rfl ?_
                refine T_skip ?_
                refine T_inN ?_
                refine T_next ?_
                refine T_reg ?_
                refine T_val (Ev_add_w64 rfl rfl) rfl ?_
                refine T_val (Ev_move rfl) rfl ?_
                refine T_nil ?_
                exact T_roundP (w64 (s352 + 1)) () hx404 trivial (by exact .cons rfl (.cons rfl (.cons rfl (.cons rfl (.cons rfl (.cons rfl (.cons rfl (.cons rfl (.cons rfl (.cons rfl (.nil))))))))))) (by exact .pick 1 rfl (.drop 0 rfl (.refl)))
            · have hx355 := ite_f h353 hx352
              refine T_condF rfl ?_
              refine T_exit ?_
              refine T_outX ?_
              obtain rfl := exit_eq ht352 hx355
              refine T_outX ?_
              refine T_here ?_
              exact T_metP () () ho352 trivial (by exact .cons rfl (.cons rfl (.cons rfl (.cons rfl (.cons rfl (.cons rfl (.cons rfl (.nil)))))))) (by exact .pick 0 rfl (.refl))
      · have hx286 := ite_f h284 hx283
        refine T_condF rfl ?_
        refine T_exit ?_
        refine T_outX ?_
        obtain rfl := exit_eq ht283 hx286
        refine T_outX ?_
        refine T_here ?_
        exact T_metP () () ho283 trivial (by exact .nil) (by exact .refl)
  · skip
    refine T_seq ?_
    refine T_reg ?_
    refine T_val (Ev_move rfl) rfl ?_
    refine T_val (Ev_len rfl 48 Tryz.underlying23) rfl ?_
    refine T_val (Ev_move rfl) rfl ?_
    refine T_nil ?_
    refine T_next ?_
    refine T_block ?_
    obtain ⟨t53, hl53, ho53⟩ := bnd_some hx
    refine T_loopP (σ := (List (S_arr2_int × Bool)) × Int) (γ := Unit) hl53 (fun s53 y53 => [(0, .slice (A0_0) ((p0).length) (c0_0)), (1, .slice (A0_1) ((p1).length) (c0_1)), (5, .map (some g1)), (15, .slice (A0_1) ((p1).length) (c0_1)), (16, .int .i64 ((((p1).length : Nat) : Int))), (17, .int .i64 (s53.2))]) (fun s53 y53 => [mapE2 Tryz.prog 48 v_arr2_int v_bool g1 (s53.1)] ++ [.old w]) (fun s53 y53 => True) () trivial (by exact .cons rfl (.cons rfl (.cons rfl (.cons rfl (.cons rfl (.cons rfl (.nil))))))) (by exact .pick 0 rfl (.refl)) ?_
    intro s53 y53 hG53 x53 hx53 ht53
    unfold mesh_lineErrors_l3 at hx53
    refine T_seq ?_
    refine T_reg ?_
    refine T_val (Ev_lss rfl rfl) rfl ?_
    refine T_nil ?_
    refine T_next ?_
    refine T_seq ?_
    refine T_caseP (s := 18) rfl (fun h54 => ?_) (fun h54 => ?_)
    · have hx55 := ite_t h54 hx53
      refine T_condT rfl ?_
      refine T_skip ?_
      refine T_next ?_
      refine T_seq ?_
      refine T_block ?_
      refine T_seq ?_
      refine T_reg ?_
      obtain ⟨x57, h58, hx59⟩ := bnd_some hx55
      have hw67 := Has.low (E := []) ha1' hK
      obtain ⟨b60, o61, j62, hA63, hj64, hl65, hp66⟩ := Has.at_idx hw67 h58
      refine T_val (Ev_index rfl rfl hA63 (j := j62) hj64 hl65 slc23) rfl ?_
      refine T_val (Ev_loadPK0 rfl hp66 (SubE.cons2 (i := 1) rfl (SubE.nil)) rfl agg48) rfl ?_
      refine T_x (Wx_alloc zer48 rfl (fun g68 => ?_))
      refine T_h (Wh_store rfl rfl rfl (.here) (.put (.put (.done))) rfl (List.cons_ne_nil _ _) agg48.2 ?_)
      refine T_nil ?_
      refine T_next ?_
      refine T_seq ?_
      obtain ⟨j17, hj17, hx59⟩ := jn_some hx59
      refine T_cutP (τ := Bool) (γ := Unit) (J := j17) (out := x53) (fun s17 y17 => [(0, .slice (A0_0) ((p0).length) (c0_0)), (1, .slice (A0_1) ((p1).length) (c0_1)), (5, .map (some g1)), (7, .pointer (some ⟨g68, 0, none⟩)), (15, .slice (A0_1) ((p1).length) (c0_1)), (16, .int .i64 ((((p1).length : Nat) : Int))), (17, .int .i64 (s53.2)), (58, .bool (s17))]) (fun s17 y17 => [.m g68 48 [.int .i64 (x57.a0), .int .i64 (x57.a1)], mapE2 Tryz.prog 48 v_arr2_int v_bool g1 (s53.1)] ++ [.old w]) (fun s17 y17 => True) ?_ ?_
      · intro s17 y17 hx92 hG93
        subst hj17
        refine T_caseB (s := 58) rfl (fun h94 => ?_) (fun h94 => ?_)
        · have hx95 := ite_t h94 hx92
          refine T_condT rfl ?_
          refine T_seq ?_
          refine T_reg ?_
          refine T_val (Ev_assign rfl) rfl ?_
          refine T_nil ?_
          refine T_next ?_
          refine T_retc ?_
          refine T_outR ?_
          refine T_inR ?_
          refine T_outR ?_
          obtain rfl := exit_eq ht53 hx95
          refine T_outR ?_
          refine T_inR ?_
          refine T_outR ?_
          obtain rfl := Option.some.inj ho53
          exact T_retP (rs := [.tmp 4]) Tryz.results30 (.tmp rfl (.nil)) (Ln := []) ⟨rfl, rfl, trivial⟩ (loNil) (by exact .drop 0 rfl (.drop 0 rfl (.refl)))
        · have hx96 := ite_bf h94 hx92
          refine T_condF rfl ?_
          refine T_skip ?_
          refine T_next ?_
          refine T_reg ?_
          refine T_val (Ev_move rfl) rfl ?_
          refine T_val (Ev_indexP rfl rfl arr48 (by decide) (by decide) rfl) rfl ?_
          refine T_val (Ev_load1 rfl (i := 0) rfl rfl one3) rfl ?_
          refine T_val (Ev_indexP rfl rfl arr48 (by decide) (by decide) rfl) rfl ?_
          refine T_val (Ev_load1 rfl (i := 0) rfl rfl one3) rfl ?_
          obtain ⟨r97, h98, hx99⟩ := bnd_some hx96
          refine T_x (Wx_callL rfl (fun w1 hw1 => mesh_pair_ok x57.a0 x57.a1  h98 w1) rfl ?_)
          rintro _ _ hlo ⟨rfl, rfl, -⟩
          refine T_app0 ?_
          obtain ⟨h100, hx101⟩ := gd_some hx99
          obtain ⟨h102, hx103⟩ := gd_some hx101
          refine T_h (Wh_mapPut2 (x := r97) (y := true) key48 v_arr2_int_inj Tryz.underlying67 rfl rfl rfl rfl rfl (.there (.here)) (isk48 r97 h100) h102 ?_)
          refine T_nil ?_
          refine T_inN ?_
          refine T_next ?_
          refine T_reg ?_
          refine T_val (Ev_add_w64 rfl rfl) rfl ?_
          refine T_val (Ev_move rfl) rfl ?_
          refine T_nil ?_
          exact T_roundP (mput s53.1 r97 true, w64 (s53.2 + 1)) () hx103 trivial (by exact .cons rfl (.cons rfl (.cons rfl (.cons rfl (.cons rfl (.cons rfl (.nil))))))) (by exact .pick 1 rfl (.drop 0 rfl (.refl)))
      · skip
        refine T_reg ?_
        refine T_val (Ev_indexP rfl rfl arr48 (by decide) (by decide) rfl) rfl ?_
        refine T_val (Ev_load1 rfl (i := 0) rfl rfl one3) rfl ?_
        refine T_val (Ev_lss rfl rfl) rfl ?_
        refine T_val (Ev_move rfl) rfl ?_
        refine T_caseP (s := 24) rfl (fun h69 => ?_) (fun h69 => ?_)
        · have hx70 := ite_t h69 hx59
          refine T_skipG rfl rfl rfl rfl rfl ?_
          refine T_skipG rfl rfl rfl rfl rfl ?_
          refine T_skipG rfl rfl rfl rfl rfl ?_
          refine T_val (Ev_pickT rfl rfl) rfl ?_
          refine T_val (Ev_move rfl) rfl ?_
          refine T_skipG rfl rfl rfl rfl rfl ?_
          refine T_skipG rfl rfl rfl rfl rfl ?_
          refine T_skipG rfl rfl rfl rfl rfl ?_
          refine T_skipG rfl rfl rfl rfl rfl ?_
          refine T_skipG rfl rfl rfl rfl rfl ?_
          refine T_val (Ev_pickT rfl rfl) rfl ?_
          refine T_val (Ev_move rfl) rfl ?_
          refine T_skipG rfl rfl rfl rfl rfl ?_
          refine T_skipG rfl rfl rfl rfl rfl ?_
          refine T_skipG rfl rfl rfl rfl rfl ?_
          refine T_skipG rfl rfl rfl rfl rfl ?_
          refine T_skipG rfl rfl rfl rfl rfl ?_
          refine T_val (Ev_pickT rfl rfl) rfl ?_
          refine T_val (Ev_move rfl) rfl ?_
          refine T_skipG rfl rfl rfl rfl rfl ?_
          refine T_skipG rfl rfl rfl rfl rfl ?_
          refine T_skipG rfl rfl rfl rfl rfl ?_
          refine T_skipG rfl rfl rfl rfl rfl ?_
          refine T_skipG rfl rfl rfl rfl rfl ?_
          refine T_val (Ev_pickT rfl rfl) rfl ?_
          refine T_val (Ev_move rfl) rfl ?_
          refine T_skipG rfl rfl rfl rfl rfl ?_
          refine T_skipG rfl rfl rfl rfl rfl ?_
          refine T_skipG rfl rfl rfl rfl rfl ?_
          refine T_skipG rfl rfl rfl rfl rfl ?_
          refine T_skipG rfl rfl rfl rfl rfl ?_
          refine T_skipG rfl rfl rfl rfl rfl ?_
          refine T_skipG rfl rfl rfl rfl rfl ?_
          refine T_val (Ev_pickT rfl rfl) rfl ?_
          refine T_nil ?_
          exact T_metP true () hx70 trivial (by exact .cons rfl (.cons rfl (.cons rfl (.cons rfl (.cons rfl (.cons rfl (.cons rfl (.cons rfl (.nil))))))))) (by exact .pick 0 rfl (.pick 0 rfl (.refl)))
        · have hx71 := ite_f h69 hx59
          refine T_valG rfl rfl rfl (Ev_indexP rfl rfl arr48 (by decide) (by decide) rfl) rfl ?_
          refine T_valG rfl rfl rfl (Ev_load1 rfl (i := 0) rfl rfl one3) rfl ?_
          refine T_valG rfl rfl rfl (Ev_lss rfl rfl) rfl ?_
          refine T_val (Ev_pickF rfl rfl) rfl ?_
          refine T_val (Ev_move rfl) rfl ?_
          refine T_caseP (s := 29) rfl (fun h72 => ?_) (fun h72 => ?_)
          · have hx73 := ite_t h72 hx71
            refine T_skipG rfl rfl rfl rfl rfl ?_
            refine T_skipG rfl rfl rfl rfl rfl ?_
            refine T_skipG rfl rfl rfl rfl rfl ?_
            refine T_skipG rfl rfl rfl rfl rfl ?_
            refine T_skipG rfl rfl rfl rfl rfl ?_
            refine T_val (Ev_pickT rfl rfl) rfl ?_
            refine T_val (Ev_move rfl) rfl ?_
            refine T_skipG rfl rfl rfl rfl rfl ?_
            refine T_skipG rfl rfl rfl rfl rfl ?_
            refine T_skipG rfl rfl rfl rfl rfl ?_
            refine T_skipG rfl rfl rfl rfl rfl ?_
            refine T_skipG rfl rfl rfl rfl rfl ?_
            refine T_val (Ev_pickT rfl rfl) rfl ?_
            refine T_val (Ev_move rfl) rfl ?_
            refine T_skipG rfl rfl rfl rfl rfl ?_
            refine T_skipG rfl rfl rfl rfl rfl ?_
            refine T_skipG rfl rfl rfl rfl rfl ?_
            refine T_skipG rfl rfl rfl rfl rfl ?_
            refine T_skipG rfl rfl rfl rfl rfl ?_
            refine T_val (Ev_pickT rfl rfl) rfl ?_
            refine T_val (Ev_move rfl) rfl ?_
            refine T_skipG rfl rfl rfl rfl rfl ?_
            refine T_skipG rfl rfl rfl rfl rfl ?_
            refine T_skipG rfl rfl rfl rfl rfl ?_
            refine T_skipG rfl rfl rfl rfl rfl ?_
            refine T_skipG rfl rfl rfl rfl rfl ?_
            refine T_skipG rfl rfl rfl rfl rfl ?_
            refine T_skipG rfl rfl rfl rfl rfl ?_
            refine T_val (Ev_pickT rfl rfl) rfl ?_
            refine T_nil ?_
            exact T_metP true () hx73 trivial (by exact .cons rfl (.cons rfl (.cons rfl (.cons rfl (.cons rfl (.cons rfl (.cons rfl (.cons rfl (.nil))))))))) (by exact .pick 0 rfl (.pick 0 rfl (.refl)))
          · have hx74 := ite_f h72 hx71
            refine T_valG rfl rfl rfl (Ev_indexP rfl rfl arr48 (by decide) (by decide) rfl) rfl ?_
            refine T_valG rfl rfl rfl (Ev_load1 rfl (i := 0) rfl rfl one3) rfl ?_
            refine T_valG rfl rfl rfl (Ev_move rfl) rfl ?_
            refine T_valG rfl rfl rfl (Ev_len rfl 43 Tryz.underlying22) rfl ?_
            refine T_valG rfl rfl rfl (Ev_geq rfl rfl) rfl ?_
            refine T_val (Ev_pickF rfl rfl) rfl ?_
            refine T_val (Ev_move rfl) rfl ?_
            refine T_caseP (s := 36) rfl (fun h75 => ?_) (fun h75 => ?_)
            · have hx76 := ite_t h75 hx74
              refine T_skipG rfl rfl rfl rfl rfl ?_
              refine T_skipG rfl rfl rfl rfl rfl ?_
              refine T_skipG rfl rfl rfl rfl rfl ?_
              refine T_skipG rfl rfl rfl rfl rfl ?_
              refine T_skipG rfl rfl rfl rfl rfl ?_
              refine T_val (Ev_pickT rfl rfl) rfl ?_
              refine T_val (Ev_move rfl) rfl ?_
              refine T_skipG rfl rfl rfl rfl rfl ?_
              refine T_skipG rfl rfl rfl rfl rfl ?_
              refine T_skipG rfl rfl rfl rfl rfl ?_
              refine T_skipG rfl rfl rfl rfl rfl ?_
              refine T_skipG rfl rfl rfl rfl rfl ?_
              refine T_val (Ev_pickT rfl rfl) rfl ?_
              refine T_val (Ev_move rfl) rfl ?_
              refine T_skipG rfl rfl rfl rfl rfl ?_
              refine T_skipG rfl rfl rfl rfl rfl ?_
              refine T_skipG rfl rfl rfl rfl rfl ?_
              refine T_skipG rfl rfl rfl rfl rfl ?_
              refine T_skipG rfl rfl rfl rfl rfl ?_
              refine T_skipG rfl rfl rfl rfl rfl ?_
              refine T_skipG rfl rfl rfl rfl rfl ?_
              refine T_val (Ev_pickT rfl rfl) rfl ?_
              refine T_nil ?_
              exact T_metP true () hx76 trivial (by exact .cons rfl (.cons rfl (.cons rfl (.cons rfl (.cons rfl (.cons rfl (.cons rfl (.cons rfl (.nil))))))))) (by exact .pick 0 rfl (.pick 0 rfl (.refl)))
            · have hx77 := ite_f h75 hx74
              refine T_valG rfl rfl rfl (Ev_indexP rfl rfl arr48 (by decide) (by decide) rfl) rfl ?_
              refine T_valG rfl rfl rfl (Ev_load1 rfl (i := 0) rfl rfl one3) rfl ?_
              refine T_valG rfl rfl rfl (Ev_move rfl) rfl ?_
              refine T_valG rfl rfl rfl (Ev_len rfl 43 Tryz.underlying22) rfl ?_
              refine T_valG rfl rfl rfl (Ev_geq rfl rfl) rfl ?_
              refine T_val (Ev_pickF rfl rfl) rfl ?_
              refine T_val (Ev_move rfl) rfl ?_
              refine T_caseP (s := 43) rfl (fun h78 => ?_) (fun h78 => ?_)
              · have hx79 := ite_t h78 hx77
                refine T_skipG rfl rfl rfl rfl rfl ?_
                refine T_skipG rfl rfl rfl rfl rfl ?_
                refine T_skipG rfl rfl rfl rfl rfl ?_
                refine T_skipG rfl rfl rfl rfl rfl ?_
                refine T_skipG rfl rfl rfl rfl rfl ?_
                refine T_val (Ev_pickT rfl rfl) rfl ?_
                refine T_val (Ev_move rfl) rfl ?_
                refine T_skipG rfl rfl rfl rfl rfl ?_
                refine T_skipG rfl rfl rfl rfl rfl ?_
                refine T_skipG rfl rfl rfl rfl rfl ?_
                refine T_skipG rfl rfl rfl rfl rfl ?_
                refine T_skipG rfl rfl rfl rfl rfl ?_
                refine T_skipG rfl rfl rfl rfl rfl ?_
                refine T_skipG rfl rfl rfl rfl rfl ?_
                refine T_val (Ev_pickT rfl rfl) rfl ?_
                refine T_nil ?_
                exact T_metP true () hx79 trivial (by exact .cons rfl (.cons rfl (.cons rfl (.cons rfl (.cons rfl (.cons rfl (.cons rfl (.cons rfl (.nil))))))))) (by exact .pick 0 rfl (.pick 0 rfl (.refl)))
              · have hx80 := ite_f h78 hx77
                refine T_valG rfl rfl rfl (Ev_indexP rfl rfl arr48 (by decide) (by decide) rfl) rfl ?_
                refine T_valG rfl rfl rfl (Ev_load1 rfl (i := 0) rfl rfl one3) rfl ?_
                refine T_valG rfl rfl rfl (Ev_indexP rfl rfl arr48 (by decide) (by decide) rfl) rfl ?_
                refine T_valG rfl rfl rfl (Ev_load1 rfl (i := 0) rfl rfl one3) rfl ?_
                refine T_valG rfl rfl rfl (Ev_eql rfl rfl) rfl ?_
                refine T_val (Ev_pickF rfl rfl) rfl ?_
                refine T_val (Ev_move rfl) rfl ?_
                refine T_caseP (s := 50) rfl (fun h81 => ?_) (fun h81 => ?_)
                · have hx82 := ite_t h81 hx80
                  refine T_skipG rfl rfl rfl rfl rfl ?_
                  refine T_skipG rfl rfl rfl rfl rfl ?_
                  refine T_skipG rfl rfl rfl rfl rfl ?_
                  refine T_skipG rfl rfl rfl rfl rfl ?_
                  refine T_skipG rfl rfl rfl rfl rfl ?_
                  refine T_skipG rfl rfl rfl rfl rfl ?_
                  refine T_skipG rfl rfl rfl rfl rfl ?_
                  refine T_val (Ev_pickT rfl rfl) rfl ?_
                  refine T_nil ?_
                  exact T_metP true () hx82 trivial (by exact .cons rfl (.cons rfl (.cons rfl (.cons rfl (.cons rfl (.cons rfl (.cons rfl (.cons rfl (.nil))))))))) (by exact .pick 0 rfl (.pick 0 rfl (.refl)))
                · have hx83 := ite_f h81 hx80
                  refine T_valG rfl rfl rfl (Ev_move rfl) rfl ?_
                  refine T_valG rfl rfl rfl (Ev_indexP rfl rfl arr48 (by decide) (by decide) rfl) rfl ?_
                  refine T_valG rfl rfl rfl (Ev_load1 rfl (i := 0) rfl rfl one3) rfl ?_
                  refine T_valG rfl rfl rfl (Ev_indexP rfl rfl arr48 (by decide) (by decide) rfl) rfl ?_
                  refine T_valG rfl rfl rfl (Ev_load1 rfl (i := 0) rfl rfl one3) rfl ?_
                  obtain ⟨r84, h85, hx86⟩ := bnd_some hx83
                  refine T_xG rfl rfl rfl (Wx_callL rfl (fun w1 hw1 => mesh_pair_ok x57.a0 x57.a1  h85 w1) rfl ?_)
                  rintro _ _ hlo ⟨rfl, rfl, -⟩
                  refine T_app0 ?_
                  obtain ⟨h87, hx88⟩ := gd_some hx86
                  obtain ⟨x89, h90, hx91⟩ := bnd_some hx88
                  refine T_valG rfl rfl rfl (Ev_look2 (x := r84) (i := 1) (vv := .bool (x89)) key48 Tryz.underlying67 (fun w => by kernel_rfl) v_arr2_int_inj rfl rfl rfl rfl holds_mapE2 (isk48 r84 h87) h90 rfl) rfl ?_
                  refine T_val (Ev_pickF rfl rfl) rfl ?_
                  refine T_nil ?_
                  exact T_metP x89 () hx91 trivial (by exact .cons rfl (.cons rfl (.cons rfl (.cons rfl (.cons rfl (.cons rfl (.cons rfl (.cons rfl (.nil))))))))) (by exact .pick 0 rfl (.pick 0 rfl (.refl)))
    · have hx56 := ite_f h54 hx53
      refine T_condF rfl ?_
      refine T_exit ?_
      refine T_outX ?_
      obtain rfl := exit_eq ht53 hx56
      refine T_outX ?_
      refine T_here ?_
      exact T_metP () () ho53 trivial (by exact .cons rfl (.cons rfl (.nil))) (by exact .drop 0 rfl (.refl))
set_option maxRecDepth 100000 in
theorem cmp_isNaN_int__ok (p0 : Int)  {r : Bool} (hx : cmp_isNaN_int_ p0 = some r) (w : World) : CtL Tryz.prog 128 [.int .i64 (p0)] w fun v Ln => v = .bool (r) ∧ Ln = [] ∧ True := by
  refine CtL.mk 6 Tryz.func128 rfl Tryz.ntmps128 (by kernel_rfl) rfl ?_
  show T 6 _ [(0, .int .i64 (p0))] _
  unfold cmp_isNaN_int_ at hx
  refine T_seq ?_
  refine T_reg ?_
  refine T_val (Ev_assign rfl) rfl ?_
  refine T_nil ?_
  refine T_next ?_
  refine T_seq ?_
  refine T_reg ?_
  refine T_val (Ev_move rfl) rfl ?_
  refine T_val (Ev_move rfl) rfl ?_
  refine T_val (Ev_neq rfl rfl) rfl ?_
  refine T_val (Ev_assign rfl) rfl ?_
  refine T_nil ?_
  refine T_next ?_
  refine T_retc ?_
  obtain rfl := Option.some.inj hx
  exact T_retP (rs := [.tmp 2]) Tryz.results128 (.tmp rfl (.nil)) (Ln := []) ⟨rfl, rfl, trivial⟩ (loNil) (by exact .refl)
set_option maxRecDepth 100000 in
theorem cmp_Compare_int__ok (p0 : Int) (p1 : Int)  {r : Int} (hx : cmp_Compare_int_ p0 p1 = some r) (w : World) : CtL Tryz.prog 92 [.int .i64 (p0), .int .i64 (p1)] w fun v Ln => v = .int .i64 (r) ∧ Ln = [] ∧ True := by
  refine CtL.mk 20 Tryz.func92 rfl Tryz.ntmps92 (by kernel_rfl) rfl ?_
  show T 20 _ [(0, .int .i64 (p0)), (1, .int .i64 (p1))] _
  unfold cmp_Compare_int_ at hx
  refine T_seq ?_
  refine T_reg ?_
  refine T_val (Ev_assign rfl) rfl ?_
  refine T_nil ?_
  refine T_next ?_
  refine T_seq ?_
  refine T_reg ?_
  refine T_val (Ev_move rfl) rfl ?_
  obtain ⟨r1, h2, hx3⟩ := bnd_some hx
  refine T_x (Wx_callL rfl (fun w1 hw1 => cmp_isNaN_int__ok p0  h2 w1) rfl ?_)
  rintro _ _ hlo ⟨rfl, rfl, -⟩
  refine T_app0 ?_
  refine T_val (Ev_assign rfl) rfl ?_
  refine T_nil ?_
  refine T_next ?_
  refine T_seq ?_
  refine T_reg ?_
  refine T_val (Ev_move rfl) rfl ?_
  obtain ⟨r4, h5, hx6⟩ := bnd_some hx3
  refine T_x (Wx_callL rfl (fun w1 hw1 => cmp_isNaN_int__ok p1  h5 w1) rfl ?_)
  rintro _ _ hlo ⟨rfl, rfl, -⟩
  refine T_app0 ?_
  refine T_val (Ev_assign rfl) rfl ?_
  refine T_nil ?_
  refine T_next ?_
  refine T_seq ?_
  refine T_seq ?_
  refine T_reg ?_
  refine T_val (Ev_move rfl) rfl ?_
  refine T_nil ?_
  refine T_next ?_
  refine T_caseB (s := 11) rfl (fun h7 => ?_) (fun h7 => ?_)
  · have hx8 := ite_t h7 hx6
    refine T_condT rfl ?_
    refine T_seq ?_
    refine T_seq ?_
    refine T_reg ?_
    refine T_val (Ev_move rfl) rfl ?_
    refine T_nil ?_
    refine T_next ?_
    refine T_caseB (s := 12) rfl (fun h9 => ?_) (fun h9 => ?_)
    · have hx10 := ite_t h9 hx8
      refine T_condT rfl ?_
      refine T_seq ?_
      refine T_reg ?_
      refine T_val (Ev_assign rfl) rfl ?_
      refine T_nil ?_
      refine T_next ?_
      refine T_retc ?_
      refine T_outR ?_
      refine T_outR ?_
      obtain rfl := Option.some.inj hx10
      exact T_retP (rs := [.tmp 4]) Tryz.results92 (.tmp rfl (.nil)) (Ln := []) ⟨rfl, rfl, trivial⟩ (loNil) (by exact .refl)
    · have hx11 := ite_bf h9 hx8
      refine T_condF rfl ?_
      refine T_skip ?_
      refine T_next ?_
      refine T_seq ?_
      refine T_reg ?_
      refine T_val (Ev_assign rfl) rfl ?_
      refine T_nil ?_
      refine T_next ?_
      refine T_retc ?_
      refine T_outR ?_
      obtain rfl := Option.some.inj hx11
      exact T_retP (rs := [.tmp 4]) Tryz.results92 (.tmp rfl (.nil)) (Ln := []) ⟨rfl, rfl, trivial⟩ (loNil) (by exact .refl)
  · have hx12 := ite_bf h7 hx6
    refine T_condF rfl ?_
    refine T_skip ?_
    refine T_next ?_
    refine T_seq ?_
    refine T_seq ?_
    refine T_reg ?_
    refine T_val (Ev_move rfl) rfl ?_
    refine T_nil ?_
    refine T_next ?_
    refine T_caseB (s := 13) rfl (fun h13 => ?_) (fun h13 => ?_)
    · have hx14 := ite_t h13 hx12
      refine T_condT rfl ?_
      refine T_seq ?_
      refine T_reg ?_
      refine T_val (Ev_assign rfl) rfl ?_
      refine T_nil ?_
      refine T_next ?_
      refine T_retc ?_
      refine T_outR ?_
      obtain rfl := Option.some.inj hx14
      exact T_retP (rs := [.tmp 4]) Tryz.results92 (.tmp rfl (.nil)) (Ln := []) ⟨rfl, rfl, trivial⟩ (loNil) (by exact .refl)
    · have hx15 := ite_bf h13 hx12
      refine T_condF rfl ?_
      refine T_skip ?_
      refine T_next ?_
      refine T_seq ?_
      refine T_seq ?_
      refine T_reg ?_
      refine T_val (Ev_move rfl) rfl ?_
      refine T_val (Ev_move rfl) rfl ?_
      refine T_val (Ev_lss rfl rfl) rfl ?_
      refine T_nil ?_
      refine T_next ?_
      refine T_caseP (s := 16) rfl (fun h16 => ?_) (fun h16 => ?_)
      · have hx17 := ite_t h16 hx15
        refine T_condT rfl ?_
        refine T_seq ?_
        refine T_reg ?_
        refine T_val (Ev_assign rfl) rfl ?_
        refine T_nil ?_
        refine T_next ?_
        refine T_retc ?_
        refine T_outR ?_
        obtain rfl := Option.some.inj hx17
        exact T_retP (rs := [.tmp 4]) Tryz.results92 (.tmp rfl (.nil)) (Ln := []) ⟨rfl, rfl, trivial⟩ (loNil) (by exact .refl)
      · have hx18 := ite_f h16 hx15
        refine T_condF rfl ?_
        refine T_skip ?_
        refine T_next ?_
        refine T_seq ?_
        refine T_seq ?_
        refine T_reg ?_
        refine T_val (Ev_move rfl) rfl ?_
        refine T_val (Ev_move rfl) rfl ?_
        refine T_val (Ev_gtr rfl rfl) rfl ?_
        refine T_nil ?_
        refine T_next ?_
        refine T_caseP (s := 19) rfl (fun h19 => ?_) (fun h19 => ?_)
        · have hx20 := ite_t h19 hx18
          refine T_condT rfl ?_
          refine T_seq ?_
          refine T_reg ?_
          refine T_val (Ev_assign rfl) rfl ?_
          refine T_nil ?_
          refine T_next ?_
          refine T_retc ?_
          refine T_outR ?_
          obtain rfl := Option.some.inj hx20
          exact T_retP (rs := [.tmp 4]) Tryz.results92 (.tmp rfl (.nil)) (Ln := []) ⟨rfl, rfl, trivial⟩ (loNil) (by exact .refl)
        · have hx21 := ite_f h19 hx18
          refine T_condF rfl ?_
          refine T_skip ?_
          refine T_next ?_
          refine T_seq ?_
          refine T_reg ?_
          refine T_val (Ev_assign rfl) rfl ?_
          refine T_nil ?_
          refine T_next ?_
          refine T_retc ?_
          obtain rfl := Option.some.inj hx21
          exact T_retP (rs := [.tmp 4]) Tryz.results92 (.tmp rfl (.nil)) (Ln := []) ⟨rfl, rfl, trivial⟩ (loNil) (by exact .refl)
set_option maxRecDepth 100000 in
theorem slices_Compare___int_int__ok (p0 : List Int) (p1 : List Int) {K : List Ent} {A0_0 : Option Addr} {c0_0 : Nat} {A0_1 : Option Addr} {c0_1 : Nat} (ha0 : Has K A0_0 (p0).length c0_0 1 e_i64 (p0)) (ha1 : Has K A0_1 (p1).length c0_1 1 e_i64 (p1)) {r : Int} (hx : slices_Compare___int_int_ p0 p1 = some r) (w : World) (hK : ∀ e ∈ K, Ent.ok w e) : CtL Tryz.prog 75 [.slice (A0_0) ((p0).length) (c0_0), .slice (A0_1) ((p1).length) (c0_1)] w fun v Ln => v = .int .i64 (r) ∧ Ln = [] ∧ True := by
  have ha0' := Has.up0 ha0
  have ha1' := Has.up0 ha1
  refine CtL.mk 36 Tryz.func75 rfl Tryz.ntmps75 (by kernel_rfl) rfl ?_
  show T 36 _ [(0, .slice (A0_0) ((p0).length) (c0_0)), (1, .slice (A0_1) ((p1).length) (c0_1))] _
  unfold slices_Compare___int_int_ at hx
  refine T_seq ?_
  refine T_reg ?_
  refine T_val (Ev_assign rfl) rfl ?_
  refine T_nil ?_
  refine T_next ?_
  obtain ⟨j2, hj2, hx⟩ := jn_some hx
  refine T_cutP (τ := Unit) (γ := Unit) (J := j2) (out := r) (fun s2 y2 => [(0, .slice (A0_0) ((p0).length) (c0_0)), (1, .slice (A0_1) ((p1).length) (c0_1))]) (fun s2 y2 => [] ++ [.old w]) (fun s2 y2 => True) ?_ ?_
  · intro s2 y2 hx71 hG72
    subst hj2
    refine T_seq ?_
    refine T_seq ?_
    refine T_reg ?_
    refine T_val (Ev_move rfl) rfl ?_
    refine T_val (Ev_len rfl 3 Tryz.underlying58) rfl ?_
    refine T_val (Ev_move rfl) rfl ?_
    refine T_val (Ev_len rfl 3 Tryz.underlying58) rfl ?_
    refine T_val (Ev_lss rfl rfl) rfl ?_
    refine T_nil ?_
    refine T_next ?_
    refine T_caseP (s := 35) rfl (fun h73 => ?_) (fun h73 => ?_)
    · have hx74 := ite_t h73 hx71
      refine T_condT rfl ?_
      refine T_seq ?_
      refine T_reg ?_
      refine T_val (Ev_assign rfl) rfl ?_
      refine T_nil ?_
      refine T_next ?_
      refine T_retc ?_
      refine T_outR ?_
      obtain rfl := Option.some.inj hx74
      exact T_retP (rs := [.tmp 4]) Tryz.results75 (.tmp rfl (.nil)) (Ln := []) ⟨rfl, rfl, trivial⟩ (loNil) (by exact .refl)
    · have hx75 := ite_f h73 hx71
      refine T_condF rfl ?_
      refine T_skip ?_
      refine T_next ?_
      refine T_seq ?_
      refine T_reg ?_
      refine T_val (Ev_assign rfl) rfl ?_
      refine T_nil ?_
      refine T_next ?_
      refine T_retc ?_
      obtain rfl := Option.some.inj hx75
      exact T_retP (rs := [.tmp 4]) Tryz.results75 (.tmp rfl (.nil)) (Ln := []) ⟨rfl, rfl, trivial⟩ (loNil) (by exact .refl)
  · skip
    refine T_seq ?_
    refine T_reg ?_
    refine T_val (Ev_move rfl) rfl ?_
    refine T_val (Ev_len rfl 3 Tryz.underlying58) rfl ?_
    refine T_val (Ev_move rfl) rfl ?_
    refine T_nil ?_
    refine T_next ?_
    refine T_block ?_
    obtain ⟨t36, hl36, ho36⟩ := bnd_some hx
    refine T_loopP (σ := Int) (γ := Unit) hl36 (fun s36 y36 => [(0, .slice (A0_0) ((p0).length) (c0_0)), (1, .slice (A0_1) ((p1).length) (c0_1)), (9, .slice (A0_0) ((p0).length) (c0_0)), (10, .int .i64 ((((p0).length : Nat) : Int))), (11, .int .i64 (s36))]) (fun s36 y36 => [] ++ [.old w]) (fun s36 y36 => True) () trivial (by exact .cons rfl (.cons rfl (.cons rfl (.cons rfl (.cons rfl (.nil)))))) (by exact .refl) ?_
    intro s36 y36 hG36 x36 hx36 ht36
    unfold slices_Compare___int_int__l2 at hx36
    refine T_seq ?_
    refine T_reg ?_
    refine T_val (Ev_lss rfl rfl) rfl ?_
    refine T_nil ?_
    refine T_next ?_
    refine T_seq ?_
    refine T_caseP (s := 12) rfl (fun h37 => ?_) (fun h37 => ?_)
    · have hx38 := ite_t h37 hx36
      refine T_condT rfl ?_
      refine T_skip ?_
      refine T_next ?_
      refine T_seq ?_
      refine T_block ?_
      refine T_seq ?_
      refine T_reg ?_
      refine T_val (Ev_move rfl) rfl ?_
      obtain ⟨x40, h41, hx42⟩ := bnd_some hx38
      have hw50 := Has.low (E := []) ha0' hK
      obtain ⟨b43, o44, j45, hA46, hj47, hl48, hp49⟩ := Has.at_idx hw50 h41
      refine T_val (Ev_index rfl rfl hA46 (j := j45) hj47 hl48 slc58) rfl ?_
      refine T_val (Ev_loadP0 rfl hp49 (SubE.cons2 (i := 0) rfl (SubE.nil)) rfl one3) rfl ?_
      refine T_val (Ev_assign rfl) rfl ?_
      refine T_val (Ev_assign rfl) rfl ?_
      refine T_nil ?_
      refine T_next ?_
      refine T_seq ?_
      refine T_seq ?_
      refine T_reg ?_
      refine T_val (Ev_move rfl) rfl ?_
      refine T_val (Ev_move rfl) rfl ?_
      refine T_val (Ev_len rfl 3 Tryz.underlying58) rfl ?_
      refine T_val (Ev_geq rfl rfl) rfl ?_
      refine T_nil ?_
      refine T_next ?_
      refine T_caseP (s := 19) rfl (fun h51 => ?_) (fun h51 => ?_)
      · have hx52 := ite_t h51 hx42
        refine T_condT rfl ?_
        refine T_seq ?_
        refine T_reg ?_
        refine T_val (Ev_assign rfl) rfl ?_
        refine T_nil ?_
        refine T_next ?_
        refine T_retc ?_
        refine T_outR ?_
        refine T_inR ?_
        refine T_outR ?_
        obtain rfl := exit_eq ht36 hx52
        refine T_outR ?_
        refine T_inR ?_
        refine T_outR ?_
        obtain rfl := Option.some.inj ho36
        exact T_retP (rs := [.tmp 4]) Tryz.results75 (.tmp rfl (.nil)) (Ln := []) ⟨rfl, rfl, trivial⟩ (loNil) (by exact .refl)
      · have hx53 := ite_f h51 hx42
        refine T_condF rfl ?_
        refine T_skip ?_
        refine T_next ?_
        refine T_seq ?_
        refine T_reg ?_
        refine T_val (Ev_move rfl) rfl ?_
        refine T_val (Ev_move rfl) rfl ?_
        obtain ⟨x54, h55, hx56⟩ := bnd_some hx53
        have hw64 := Has.low (E := []) ha1' hK
        obtain ⟨b57, o58, j59, hA60, hj61, hl62, hp63⟩ := Has.at_idx hw64 h55
        refine T_val (Ev_index rfl rfl hA60 (j := j59) hj61 hl62 slc58) rfl ?_
        refine T_val (Ev_loadP0 rfl hp63 (SubE.cons2 (i := 0) rfl (SubE.nil)) rfl one3) rfl ?_
        refine T_val (Ev_assign rfl) rfl ?_
        refine T_nil ?_
        refine T_next ?_
        refine T_seq ?_
        refine T_reg ?_
        refine T_val (Ev_move rfl) rfl ?_
        refine T_val (Ev_move rfl) rfl ?_
        obtain ⟨r65, h66, hx67⟩ := bnd_some hx56
        refine T_x (Wx_callL rfl (fun w1 hw1 => cmp_Compare_int__ok x40 x54  h66 w1) rfl ?_)
        rintro _ _ hlo ⟨rfl, rfl, -⟩
        refine T_app0 ?_
        refine T_val (Ev_assign rfl) rfl ?_
        refine T_nil ?_
        refine T_next ?_
        refine T_seq ?_
        refine T_reg ?_
        refine T_val (Ev_move rfl) rfl ?_
        refine T_val (Ev_neq rfl rfl) rfl ?_
        refine T_nil ?_
        refine T_next ?_
        refine T_caseNP (s := 28) rfl (fun h68 => ?_) (fun h68 => ?_)
        · have hx69 := ite_f h68 hx67
          refine T_condT rfl ?_
          refine T_seq ?_
          refine T_reg ?_
          refine T_val (Ev_move rfl) rfl ?_
          refine T_val (Ev_assign rfl) rfl ?_
          refine T_nil ?_
          refine T_next ?_
          refine T_retc ?_
          refine T_inR ?_
          refine T_outR ?_
          obtain rfl := exit_eq ht36 hx69
          refine T_outR ?_
          refine T_inR ?_
          refine T_outR ?_
          obtain rfl := Option.some.inj ho36
          exact T_retP (rs := [.tmp 4]) Tryz.results75 (.tmp rfl (.nil)) (Ln := []) ⟨rfl, rfl, trivial⟩ (loNil) (by exact .refl)
        · have hx70 := ite_t h68 hx67
          refine T_condF rfl ?_
          refine T_skip ?_
          refine T_inN ?_
          refine T_next ?_
          refine T_reg ?_
          refine T_val (Ev_add_w64 rfl rfl) rfl ?_
          refine T_val (Ev_move rfl) rfl ?_
          refine T_nil ?_
          exact T_roundP (w64 (s36 + 1)) () hx70 trivial (by exact .cons rfl (.cons rfl (.cons rfl (.cons rfl (.cons rfl (.nil)))))) (by exact .refl)
    · have hx39 := ite_f h37 hx36
      refine T_condF rfl ?_
      refine T_exit ?_
      refine T_outX ?_
      obtain rfl := exit_eq ht36 hx39
      refine T_outX ?_
      refine T_here ?_
      exact T_metP () () ho36 trivial (by exact .cons rfl (.cons rfl (.nil))) (by exact .refl)
set_option maxRecDepth 100000 in
theorem mesh_builder_triangles_1_ok (p0 : S_arr3_int) (p1 : S_arr3_int)  {r : Int} (hx : mesh_builder_triangles_1 p0 p1 = some r) (w : World) : CtL Tryz.prog 74 [.agg #[.int .i64 (p0.a0), .int .i64 (p0.a1), .int .i64 (p0.a2)], .agg #[.int .i64 (p1.a0), .int .i64 (p1.a1), .int .i64 (p1.a2)]] w fun v Ln => v = .int .i64 (r) ∧ Ln = [] ∧ True := by
  refine CtL.mk 8 Tryz.func74 rfl Tryz.ntmps74 (by kernel_rfl) rfl ?_
  show T 8 _ [(0, .agg #[.int .i64 (p0.a0), .int .i64 (p0.a1), .int .i64 (p0.a2)]), (1, .agg #[.int .i64 (p1.a0), .int .i64 (p1.a1), .int .i64 (p1.a2)])] _
  unfold mesh_builder_triangles_1 at hx
  refine T_seq ?_
  refine T_reg ?_
  refine T_x (Wx_box rfl rfl rfl (fun g1 => ?_))
  refine T_x (Wx_box rfl rfl rfl (fun g2 => ?_))
  refine T_val (Ev_assign rfl) rfl ?_
  refine T_nil ?_
  refine T_next ?_
  refine T_seq ?_
  refine T_draw [0, 0, 2, 2] [[], [], [0, 1], [0, 1, 2]] (.q 0 (.q 1 (.e 2 (.e 3 (.done) (.stop)) (.stop)))) mixed (by kernel_rfl) (by kernel_rfl) ?_
  refine P_p rfl rfl (Ev_arrS rfl arr35 rfl) rfl ?_
  refine P_p rfl rfl (Ev_arrS rfl arr35 rfl) rfl ?_
  have hs3 : Has [.m g1 35 [.int .i64 (p0.a0), .int .i64 (p0.a1), .int .i64 (p0.a2)]] (some ⟨g1, 0, none⟩) 3 3 1 e_i64 [p0.a0, p0.a1, p0.a2] := Has.ofM (fun _ _ => rfl) rfl (by decide) rfl
  have hs4 : Has [.m g2 35 [.int .i64 (p1.a0), .int .i64 (p1.a1), .int .i64 (p1.a2)]] (some ⟨g2, 0, none⟩) 3 3 1 e_i64 [p1.a0, p1.a1, p1.a2] := Has.ofM (fun _ _ => rfl) rfl (by decide) rfl
  obtain ⟨r5, h6, hx7⟩ := bnd_some hx
  refine P_x rfl (Wx_callL rfl (fun w1 hw1 => slices_Compare___int_int__ok ([p0.a0, p0.a1, p0.a2]) ([p1.a0, p1.a1, p1.a2]) (Has.len' (Has.up (L := ([.m g1 35 [.int .i64 (p0.a0), .int .i64 (p0.a1), .int .i64 (p0.a2)], .m g2 35 [.int .i64 (p1.a0), .int .i64 (p1.a1), .int .i64 (p1.a2)]] : List Ent)) hs3 (SubE.cons2 (i := 0) rfl (SubE.nil)))) (Has.len' (Has.up (L := ([.m g1 35 [.int .i64 (p0.a0), .int .i64 (p0.a1), .int .i64 (p0.a2)], .m g2 35 [.int .i64 (p1.a0), .int .i64 (p1.a1), .int .i64 (p1.a2)]] : List Ent)) hs4 (SubE.cons2 (i := 1) rfl (SubE.nil)))) h6 w1 (okAll (K := ([.m g1 35 [.int .i64 (p0.a0), .int .i64 (p0.a1), .int .i64 (p0.a2)], .m g2 35 [.int .i64 (p1.a0), .int .i64 (p1.a1), .int .i64 (p1.a2)]] : List Ent)) (by exact (SubE.cons2 (i := 1) rfl (SubE.cons2 (i := 0) rfl (SubE.nil)))) hw1)) rfl ?_) ?_
  rotate_left; exact P_stop
  rintro _ _ hlo ⟨rfl, rfl, -⟩
  refine T_app0 ?_
  refine P_x rfl (Wx_val (Ev_assign rfl) rfl ?_) ?_
  rotate_left; exact P_stop
  refine P_done ?_
  refine T_next ?_
  refine T_retc ?_
  obtain rfl := Option.some.inj hx7
  exact T_retP (rs := [.tmp 4]) Tryz.results74 (.tmp rfl (.nil)) (Ln := []) ⟨rfl, rfl, trivial⟩ (loNil) (by exact .drop 0 rfl (.drop 0 rfl (.refl)))
set_option maxRecDepth 100000 in
theorem mesh_ranks_1_ok (p0 : Int) (p1 : Int) (p2 : List S_api_Vertex) {K : List Ent} {A0_0 : Option Addr} {c0_0 : Nat} (ha0 : Has K A0_0 (p2).length c0_0 4 e_api_Vertex (p2)) {g0_2 : Nat} (hp2 : Pt K g0_2 0 [.slice (A0_0) ((p2).length) (c0_0)]) {r : Int} (hx : mesh_ranks_1 p0 p1 p2 = some r) (w : World) (hK : ∀ e ∈ K, Ent.ok w e) : CtL Tryz.prog 69 [.int .i64 (p0), .int .i64 (p1), .pointer (some ⟨g0_2, 0, none⟩)] w fun v Ln => v = .int .i64 (r) ∧ Ln = [] ∧ True := by
  have ha0' := Has.up0 ha0
  have hp2' := Pt.low (E := []) (Pt.up0 hp2) hK
  refine CtL.mk 28 Tryz.func69 rfl Tryz.ntmps69 (by kernel_rfl) rfl ?_
  show T 28 _ [(0, .int .i64 (p0)), (1, .int .i64 (p1)), (2, .pointer (some ⟨g0_2, 0, none⟩))] _
  unfold mesh_ranks_1 at hx
  refine T_seq ?_
  refine T_reg ?_
  refine T_val (Ev_assign rfl) rfl ?_
  refine T_nil ?_
  refine T_next ?_
  refine T_seq ?_
  refine T_seq ?_
  refine T_draw [1, 0, 0, 1, 2, 1, 0, 0, 1, 2, 2] [[], [], [0, 1], [0, 1, 2], [0, 1, 2, 3], [], [], [5, 6], [5, 6, 7], [0, 1, 2, 3, 4, 5, 6, 7, 8], [0, 1, 2, 3, 4, 5, 6, 7, 8, 9]] (.q 0 (.q 1 (.q 2 (.q 3 (.q 5 (.q 6 (.q 7 (.q 8 (.e 4 (.e 9 (.e 10 (.done) (.stop)) (.stop)) (.stop)))))))))) mixed (by kernel_rfl) (by kernel_rfl) ?_
  refine P_q rfl rfl (Ev_loadP0 rfl hp2' (SubE.cons2 (i := 0) rfl (SubE.nil)) rfl one22) rfl ?_
  refine P_p rfl rfl (Ev_move rfl) rfl ?_
  obtain ⟨x1, h2, hx3⟩ := bnd_some hx
  have hw11 := Has.low (E := []) ha0' hK
  obtain ⟨b4, o5, j6, hA7, hj8, hl9, hp10⟩ := Has.at_idx hw11 h2
  refine P_p rfl rfl (Ev_index rfl rfl hA7 (j := j6) hj8 hl9 slc22) rfl ?_
  refine P_q rfl rfl (Ev_loadPK0 rfl hp10 (SubE.cons2 (i := 0) rfl (SubE.nil)) rfl agg43) rfl ?_
  refine P_q rfl rfl (Ev_loadP0 rfl hp2' (SubE.cons2 (i := 0) rfl (SubE.nil)) rfl one22) rfl ?_
  refine P_p rfl rfl (Ev_move rfl) rfl ?_
  obtain ⟨x12, h13, hx14⟩ := bnd_some hx3
  have hw22 := Has.low (E := []) ha0' hK
  obtain ⟨b15, o16, j17, hA18, hj19, hl20, hp21⟩ := Has.at_idx hw22 h13
  refine P_p rfl rfl (Ev_index rfl rfl hA18 (j := j17) hj19 hl20 slc22) rfl ?_
  refine P_q rfl rfl (Ev_loadPK0 rfl hp21 (SubE.cons2 (i := 0) rfl (SubE.nil)) rfl agg43) rfl ?_
  obtain ⟨r23, h24, hx25⟩ := bnd_some hx14
  refine P_x rfl (Wx_callL rfl (fun w1 hw1 => mesh_at_ok x1  h24 w1) rfl ?_) ?_
  rotate_left; exact P_stop
  rintro _ _ hlo ⟨rfl, rfl, -⟩
  refine T_app0 ?_
  obtain ⟨r26, h27, hx28⟩ := bnd_some hx25
  refine P_x rfl (Wx_callL rfl (fun w1 hw1 => mesh_at_ok x12  h27 w1) rfl ?_) ?_
  rotate_left; exact P_stop
  rintro _ _ hlo ⟨rfl, rfl, -⟩
  refine T_app0 ?_
  obtain ⟨r29, h30, hx31⟩ := bnd_some hx28
  refine P_x rfl (Wx_callL rfl (fun w1 hw1 => mesh_before_ok r23 r26  h30 w1) rfl ?_) ?_
  rotate_left; exact P_stop
  rintro _ _ hlo ⟨rfl, rfl, -⟩
  refine T_app0 ?_
  refine P_done ?_
  refine T_next ?_
  refine T_caseB (s := 16) rfl (fun h32 => ?_) (fun h32 => ?_)
  · have hx33 := ite_t h32 hx31
    refine T_condT rfl ?_
    refine T_seq ?_
    refine T_reg ?_
    refine T_val (Ev_assign rfl) rfl ?_
    refine T_nil ?_
    refine T_next ?_
    refine T_retc ?_
    refine T_outR ?_
    obtain rfl := Option.some.inj hx33
    exact T_retP (rs := [.tmp 5]) Tryz.results69 (.tmp rfl (.nil)) (Ln := []) ⟨rfl, rfl, trivial⟩ (loNil) (by exact .refl)
  · have hx34 := ite_bf h32 hx31
    refine T_condF rfl ?_
    refine T_skip ?_
    refine T_next ?_
    refine T_seq ?_
    refine T_seq ?_
    refine T_draw [1, 0, 0, 1, 2, 1, 0, 0, 1, 2, 2] [[], [], [0, 1], [0, 1, 2], [0, 1, 2, 3], [], [], [5, 6], [5, 6, 7], [0, 1, 2, 3, 4, 5, 6, 7, 8], [0, 1, 2, 3, 4, 5, 6, 7, 8, 9]] (.q 0 (.q 1 (.q 2 (.q 3 (.q 5 (.q 6 (.q 7 (.q 8 (.e 4 (.e 9 (.e 10 (.done) (.stop)) (.stop)) (.stop)))))))))) mixed (by kernel_rfl) (by kernel_rfl) ?_
    refine P_q rfl rfl (Ev_loadP0 rfl hp2' (SubE.cons2 (i := 0) rfl (SubE.nil)) rfl one22) rfl ?_
    refine P_p rfl rfl (Ev_move rfl) rfl ?_
    obtain ⟨x35, h36, hx37⟩ := bnd_some hx34
    have hw45 := Has.low (E := []) ha0' hK
    obtain ⟨b38, o39, j40, hA41, hj42, hl43, hp44⟩ := Has.at_idx hw45 h36
    refine P_p rfl rfl (Ev_index rfl rfl hA41 (j := j40) hj42 hl43 slc22) rfl ?_
    refine P_q rfl rfl (Ev_loadPK0 rfl hp44 (SubE.cons2 (i := 0) rfl (SubE.nil)) rfl agg43) rfl ?_
    refine P_q rfl rfl (Ev_loadP0 rfl hp2' (SubE.cons2 (i := 0) rfl (SubE.nil)) rfl one22) rfl ?_
    refine P_p rfl rfl (Ev_move rfl) rfl ?_
    obtain ⟨x46, h47, hx48⟩ := bnd_some hx37
    have hw56 := Has.low (E := []) ha0' hK
    obtain ⟨b49, o50, j51, hA52, hj53, hl54, hp55⟩ := Has.at_idx hw56 h47
    refine P_p rfl rfl (Ev_index rfl rfl hA52 (j := j51) hj53 hl54 slc22) rfl ?_
    refine P_q rfl rfl (Ev_loadPK0 rfl hp55 (SubE.cons2 (i := 0) rfl (SubE.nil)) rfl agg43) rfl ?_
    obtain ⟨r57, h58, hx59⟩ := bnd_some hx48
    refine P_x rfl (Wx_callL rfl (fun w1 hw1 => mesh_at_ok x35  h58 w1) rfl ?_) ?_
    rotate_left; exact P_stop
    rintro _ _ hlo ⟨rfl, rfl, -⟩
    refine T_app0 ?_
    obtain ⟨r60, h61, hx62⟩ := bnd_some hx59
    refine P_x rfl (Wx_callL rfl (fun w1 hw1 => mesh_at_ok x46  h61 w1) rfl ?_) ?_
    rotate_left; exact P_stop
    rintro _ _ hlo ⟨rfl, rfl, -⟩
    refine T_app0 ?_
    obtain ⟨r63, h64, hx65⟩ := bnd_some hx62
    refine P_x rfl (Wx_callL rfl (fun w1 hw1 => mesh_before_ok r57 r60  h64 w1) rfl ?_) ?_
    rotate_left; exact P_stop
    rintro _ _ hlo ⟨rfl, rfl, -⟩
    refine T_app0 ?_
    refine P_done ?_
    refine T_next ?_
    refine T_caseB (s := 27) rfl (fun h66 => ?_) (fun h66 => ?_)
    · have hx67 := ite_t h66 hx65
      refine T_condT rfl ?_
      refine T_seq ?_
      refine T_reg ?_
      refine T_val (Ev_assign rfl) rfl ?_
      refine T_nil ?_
      refine T_next ?_
      refine T_retc ?_
      refine T_outR ?_
      obtain rfl := Option.some.inj hx67
      exact T_retP (rs := [.tmp 5]) Tryz.results69 (.tmp rfl (.nil)) (Ln := []) ⟨rfl, rfl, trivial⟩ (loNil) (by exact .refl)
    · have hx68 := ite_bf h66 hx65
      refine T_condF rfl ?_
      refine T_skip ?_
      refine T_next ?_
      refine T_seq ?_
      refine T_reg ?_
      refine T_val (Ev_assign rfl) rfl ?_
      refine T_nil ?_
      refine T_next ?_
      refine T_retc ?_
      obtain rfl := Option.some.inj hx68
      exact T_retP (rs := [.tmp 5]) Tryz.results69 (.tmp rfl (.nil)) (Ln := []) ⟨rfl, rfl, trivial⟩ (loNil) (by exact .refl)
end Go.Proofs.YtlkgeeppfifeeaaGreat
