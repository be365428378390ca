/- Walks of the program, with their plain functions: ranges over maps, sorts. -/
import Derived.Test.YtlkgeeppfifeeaaGreatD3
import Derived.Test.YtlkgeeppfifeeaaGreatSort2
namespace Go.Proofs.YtlkgeeppfifeeaaGreat
open Go Go.RowKit
theorem bls23_1_0ai64i64 (x0 : Int) (x1 : Int) : BuildSliceOf Tryz.prog 23 1 [(0, .agg #[.int .i64 x0, .int .i64 x1])] 48 [.int .i64 x0, .int .i64 x1] := fun w => by kernel_rfl
theorem elm23 : ElemOf Tryz.prog 23 48 2 16 := ⟨Tryz.underlying23, ⟨Tryz.t48, .agg #[.int .i64 (0), .int .i64 (0)], by kernel_rfl, by kernel_rfl, by kernel_rfl, by kernel_rfl, rfl⟩, by decide⟩
theorem bld35_0i641i642i64 (x0 : Int) (x1 : Int) (x2 : Int) : BuildOf Tryz.prog 35 [(0, .int .i64 x0), (1, .int .i64 x1), (2, .int .i64 x2)] [.int .i64 x0, .int .i64 x1, .int .i64 x2] := fun w => by kernel_rfl
theorem bls30_1_0ai64i64i64 (x0 : Int) (x1 : Int) (x2 : Int) : BuildSliceOf Tryz.prog 30 1 [(0, .agg #[.int .i64 x0, .int .i64 x1, .int .i64 x2])] 35 [.int .i64 x0, .int .i64 x1, .int .i64 x2] := fun w => by kernel_rfl
theorem elm30 : ElemOf Tryz.prog 30 35 3 24 := ⟨Tryz.underlying30, ⟨Tryz.t35, .agg #[.int .i64 (0), .int .i64 (0), .int .i64 (0)], by kernel_rfl, by kernel_rfl, by kernel_rfl, by kernel_rfl, rfl⟩, by decide⟩
theorem bls58_1_0i64 (x0 : Int) : BuildSliceOf Tryz.prog 58 1 [(0, .int .i64 x0)] 3 [.int .i64 x0] := fun w => by kernel_rfl
theorem elm58 : ElemOf Tryz.prog 58 3 1 8 := ⟨Tryz.underlying58, ⟨Tryz.t3, .int .i64 (0), by kernel_rfl, by kernel_rfl, by kernel_rfl, by kernel_rfl, rfl⟩, by decide⟩
noncomputable def mesh_builder_rim_l3n  : (List S_arr2_int) → Option (Sum (List S_arr2_int) (List S_arr2_int)) := fun s19 =>
 some (.inr s19)
noncomputable def mesh_builder_rim_l3s (p0 : S_mesh_builder) : (List S_arr2_int) → S_arr2_int × Int → Option (Sum (List S_arr2_int) (List S_arr2_int)) := fun s19 p19_ =>
 gd ((-9223372036854775808 ≤ p19_.1.a1 ∧ p19_.1.a1 ≤ 9223372036854775807) ∧ (-9223372036854775808 ≤ p19_.1.a0 ∧ p19_.1.a0 ≤ 9223372036854775807)) <|
 bnd (some ((mget p0.apex ((⟨p19_.1.a1, p19_.1.a0⟩ : S_arr2_int))).getD 0)) fun x26 =>
 if ((mget p0.apex ((⟨p19_.1.a1, p19_.1.a0⟩ : S_arr2_int))).isSome) = true then (some (.inl s19))
 else (gd (((s19).length + 1) * 16 ≤ 140737488355328) <|
 some (.inl (s19 ++ [(⟨p19_.1.a1, p19_.1.a0⟩ : S_arr2_int)])))
noncomputable def mesh_builder_rim (p0 : S_mesh_builder) : Option (S_mesh_builder × (List S_arr2_int)) :=
 jn (fun (s3 : List S_arr2_int) =>
 gd ((s3).length ≤ 1000000000 ∧ (∀ x ∈ s3, small2 x)) <|
 some (p0, sortBy cmp2 s3))
 (fun j3 => mfixK (mesh_builder_rim_l3n) (mesh_builder_rim_l3s p0) p0.apex ([] : List S_arr2_int) fun t19 =>
 j3 t19)
noncomputable def mesh_builder_sides_l3n  : (List S_arr2_int) → Option (Sum (List S_arr2_int) (List S_arr2_int)) := fun s27 =>
 some (.inr s27)
noncomputable def mesh_builder_sides_l3s (p0 : S_mesh_builder) : (List S_arr2_int) → S_arr2_int × Int → Option (Sum (List S_arr2_int) (List S_arr2_int)) := fun s27 p27_ =>
 gd ((-9223372036854775808 ≤ p27_.1.a1 ∧ p27_.1.a1 ≤ 9223372036854775807) ∧ (-9223372036854775808 ≤ p27_.1.a0 ∧ p27_.1.a0 ≤ 9223372036854775807)) <|
 bnd (some ((mget p0.apex ((⟨p27_.1.a1, p27_.1.a0⟩ : S_arr2_int))).getD 0)) fun x34 =>
 jn (fun (s14 : Bool) =>
 if s14 = true then (bnd (mesh_pair p27_.1.a0 p27_.1.a1) fun r44 =>
 gd (((s27).length + 1) * 16 ≤ 140737488355328) <|
 some (.inl (s27 ++ [r44])))
 else (some (.inl s27)))
 (fun j14 => if p27_.1.a0 < p27_.1.a1 then (j14 true)
 else (j14 (!((mget p0.apex ((⟨p27_.1.a1, p27_.1.a0⟩ : S_arr2_int))).isSome))))
noncomputable def mesh_builder_sides (p0 : S_mesh_builder) : Option (S_mesh_builder × (List S_arr2_int)) :=
 jn (fun (s3 : List S_arr2_int) =>
 gd ((s3).length ≤ 1000000000 ∧ (∀ x ∈ s3, small2 x)) <|
 some (p0, sortBy cmp2 s3))
 (fun j3 => mfixK (mesh_builder_sides_l3n) (mesh_builder_sides_l3s p0) p0.apex ([] : List S_arr2_int) fun t27 =>
 j3 t27)
noncomputable def mesh_builder_triangles_l3n  : (List S_arr3_int) → Option (Sum (List S_arr3_int) (List S_arr3_int)) := fun s19 =>
 some (.inr s19)
noncomputable def mesh_builder_triangles_l3s  : (List S_arr3_int) → S_arr2_int × Int → Option (Sum (List S_arr3_int) (List S_arr3_int)) := fun s19 p19_ =>
 jn (fun (s12 : Bool) =>
 if s12 = true then (gd (((s19).length + 1) * 24 ≤ 140737488355328) <|
 some (.inl (s19 ++ [(⟨p19_.1.a0, p19_.1.a1, p19_.2⟩ : S_arr3_int)])))
 else (some (.inl s19)))
 (fun j12 => if p19_.1.a0 < p19_.1.a1 then (j12 (decide (p19_.1.a0 < p19_.2)))
 else (j12 false))
noncomputable def mesh_builder_triangles (p0 : S_mesh_builder) : Option (S_mesh_builder × (List S_arr3_int)) :=
 jn (fun (s3 : List S_arr3_int) =>
 gd ((s3).length ≤ 1000000000 ∧ (∀ x ∈ s3, small3 x)) <|
 some (p0, sortBy cmp3 s3))
 (fun j3 => mfixK (mesh_builder_triangles_l3n) (mesh_builder_triangles_l3s) p0.apex ([] : List S_arr3_int) fun t19 =>
 j3 t19)
noncomputable def mesh_ranks_l3 (p0 : List S_api_Vertex) : ((List Int) × Int) → Option (Sum ((List Int) × Int) (List Int)) := fun s12 =>
 if s12.2 < ((((p0).length : Nat) : Int)) then (gd (((s12.1).length + 1) * 8 ≤ 140737488355328) <|
 some (.inl (s12.1 ++ [s12.2], w64 (s12.2 + 1))))
 else (some (.inr s12.1))
noncomputable def mesh_ranks (p0 : List S_api_Vertex) : Option (List Int) :=
 jn (fun (s3 : List Int) =>
 gd ((s3).length ≤ 1000000000 ∧ (∀ x ∈ s3, (okIx p0) x) ∧ distinctV p0) <|
 some (sortBy ((cmpR p0)) s3))
 (fun j3 => bnd (lfix (mesh_ranks_l3 p0) (([] : List Int), 0)) fun t12 =>
 j3 t12)
noncomputable def mesh_sorted_l3 (p0 : List S_arr2_int) : ((List S_arr2_int) × Int) → Option (Sum ((List S_arr2_int) × Int) (List S_arr2_int)) := fun s26 =>
 if s26.2 < ((((p0).length : Nat) : Int)) then (bnd (idx p0 s26.2) fun x31 =>
 bnd (mesh_pair x31.a0 x31.a1) fun r43 =>
 gd (((s26.1).length + 1) * 16 ≤ 140737488355328) <|
 some (.inl (s26.1 ++ [r43], w64 (s26.2 + 1))))
 else (some (.inr s26.1))
noncomputable def mesh_sorted (p0 : List S_arr2_int) : Option (List S_arr2_int) :=
 jn (fun (s3 : List S_arr2_int) =>
 gd ((s3).length ≤ 1000000000 ∧ (∀ x ∈ s3, small2 x)) <|
 some (sortBy cmp2 s3))
 (fun j3 => bnd (lfix (mesh_sorted_l3 p0) (([] : List S_arr2_int), 0)) fun t26 =>
 j3 t26)
set_option maxRecDepth 100000 in
theorem mesh_builder_rim_ok (p0 : S_mesh_builder) {g0_0 : Nat} {gm0_0 : Nat} {gm0_1 : Nat} {K : List Ent} {A0_0 : Option Addr} {c0_0 : Nat} (ha0 : Has K A0_0 (p0.v).length c0_0 4 e_api_Vertex (p0.v)) {r : S_mesh_builder × (List S_arr2_int)} (hx : mesh_builder_rim p0 = some r) : CtK Tryz.prog 67 [.pointer (some ⟨g0_0, 0, none⟩)] K [.m g0_0 69 [.slice (A0_0) ((p0.v).length) (c0_0), .map (some gm0_0), .map (some gm0_1)], mapE2 Tryz.prog 48 v_arr2_int v_i64 gm0_0 (p0.apex), mapE2 Tryz.prog 48 v_arr2_int v_bool gm0_1 (p0.fixed)] fun v Ln => ∃ (A0 : Option Addr) (c0 : Nat) (A2 : Option Addr) (c2 : Nat), v = .slice (A2) ((r.2).length) (c2) ∧ Ln = [.m g0_0 69 [.slice (A0) ((r.1.v).length) (c0), .map (some gm0_0), .map (some gm0_1)], mapE2 Tryz.prog 48 v_arr2_int v_i64 gm0_0 (r.1.apex), mapE2 Tryz.prog 48 v_arr2_int v_bool gm0_1 (r.1.fixed), .r A2 (r.2).length c2 48 2 ((r.2).flatMap e_arr2_int)] ∧ Has (K ++ []) A0 (r.1.v).length c0 4 e_api_Vertex (r.1.v) ∧ True := by
  have ha0' := Has.up0 ha0
  refine CtK.mk 42 Tryz.func67 rfl Tryz.ntmps67 (by kernel_rfl) rfl ?_
  intro Lf hKf
  show T 42 _ [(0, .pointer (some ⟨g0_0, 0, none⟩))] ([.m g0_0 69 [.slice (A0_0) ((p0.v).length) (c0_0), .map (some gm0_0), .map (some gm0_1)], mapE2 Tryz.prog 48 v_arr2_int v_i64 gm0_0 (p0.apex), mapE2 Tryz.prog 48 v_arr2_int v_bool gm0_1 (p0.fixed)] ++ Lf)
  unfold mesh_builder_rim at hx
  refine T_seq ?_
  refine T_reg ?_
  refine T_val (Ev_assign rfl) rfl ?_
  refine T_nil ?_
  refine T_next ?_
  refine T_seq ?_
  refine T_reg ?_
  refine T_val (Ev_assign rfl) rfl ?_
  refine T_nil ?_
  refine T_next ?_
  obtain ⟨j3, hj3, hx⟩ := jn_some hx
  refine T_cutP (τ := List S_arr2_int) (γ := (Option Addr) × Nat) (J := j3) (out := r) (fun s3 y3 => [(0, .pointer (some ⟨g0_0, 0, none⟩)), (3, .slice (y3.1) ((s3).length) (y3.2))]) (fun s3 y3 => [.r (y3.1) ((s3).length) (y3.2) 48 2 ((s3).flatMap e_arr2_int), .m g0_0 69 [.slice (A0_0) ((p0.v).length) (c0_0), .map (some gm0_0), .map (some gm0_1)], mapE2 Tryz.prog 48 v_arr2_int v_i64 gm0_0 (p0.apex), mapE2 Tryz.prog 48 v_arr2_int v_bool gm0_1 (p0.fixed)] ++ Lf) (fun s3 y3 => True) ?_ ?_
  · intro s3 y3 hx37 hG38
    subst hj3
    refine T_seq ?_
    refine T_reg ?_
    refine T_val (Ev_move rfl) rfl ?_
    obtain ⟨h39, hx40⟩ := gd_some hx37
    refine T_h (Wh_sortG (p := small2) (arg := fun x => .agg #[.int .i64 (x.a0), .int .i64 (x.a1)]) (cf := cmp2) s3 (by exact ⟨_, Tryz.func63, rfl, rfl⟩) (fun w hok hcm => sort2_runs s3 h39.1 h39.2 w hok hcm ⟨_, Tryz.func64, rfl, rfl⟩) (fun ys => [.r (y3.1) ((s3).length) (y3.2) 48 2 ys, .m g0_0 69 [.slice (A0_0) ((p0.v).length) (c0_0), .map (some gm0_0), .map (some gm0_1)], mapE2 Tryz.prog 48 v_arr2_int v_i64 gm0_0 (p0.apex), mapE2 Tryz.prog 48 v_arr2_int v_bool gm0_1 (p0.fixed)] ++ Lf) (fun ys => by exact .here) (fun ys W hW x y px py => ⟨[.agg #[.int .i64 (x.a0), .int .i64 (x.a1)], .agg #[.int .i64 (y.a0), .int .i64 (y.a1)]], rfl, mesh_order_ok x y  (order_cmp px py) W⟩) rfl rfl rfl ?_)
    refine T_nil ?_
    refine T_next ?_
    refine T_seq ?_
    refine T_reg ?_
    refine T_val (Ev_move rfl) rfl ?_
    refine T_val (Ev_assign rfl) rfl ?_
    refine T_nil ?_
    refine T_next ?_
    refine T_retc ?_
    have hn41 : (s3).length = (sortBy cmp2 s3).length := (by rw [sortBy_len])
    refine T_ent (.here) (e' := .r (y3.1) ((sortBy cmp2 s3).length) (y3.2) 48 2 ((sortBy cmp2 s3).flatMap e_arr2_int)) (by first | (rw [← hn41]; done) | rfl) ?_
    refine T_slot (s := 2) (v' := .slice (y3.1) ((sortBy cmp2 s3).length) (y3.2)) rfl (by have hn42 : ((s3).length) = (sortBy cmp2 s3).length := (by rw [sortBy_len]); first | (rw [← hn42]; done) | rfl) ?_
    obtain rfl := Option.some.inj hx40
    exact T_retK (rs := [.tmp 2]) Tryz.results67 (.tmp rfl (.nil)) (Ln := [.m g0_0 69 [.slice (A0_0) ((p0.v).length) (c0_0), .map (some gm0_0), .map (some gm0_1)], mapE2 Tryz.prog 48 v_arr2_int v_i64 gm0_0 (p0.apex), mapE2 Tryz.prog 48 v_arr2_int v_bool gm0_1 (p0.fixed), .r (y3.1) ((sortBy cmp2 s3).length) (y3.2) 48 2 ((sortBy cmp2 s3).flatMap e_arr2_int)]) ⟨A0_0, c0_0, y3.1, y3.2, rfl, rfl, Has.len' ha0', trivial⟩ (by exact .pick 1 rfl (.pick 1 rfl (.pick 1 rfl (.pick 0 rfl (.refl)))))
  · skip
    refine T_seq ?_
    refine T_reg ?_
    refine T_val (Ev_move rfl) rfl ?_
    refine T_val (Ev_nilCheck rfl) rfl ?_
    refine T_val (Ev_field rfl fld69_1 rfl) rfl ?_
    refine T_val (Ev_load1 rfl (i := 0) rfl rfl one66) rfl ?_
    refine T_x (Wx_range2 key48 v_arr2_int_inj Tryz.underlying66 rfl (fun _ => .there (.here)) rfl (fun g1 => ?_))
    refine T_nil ?_
    refine T_next ?_
    refine T_block ?_
    refine T_none 48 2 ?_
    have hn20 : 0 = (([] : List S_arr2_int)).length := by simp [setI_len, cpy_len, List.length_append] <;> omega
    refine T_ent (.here) (e' := .r (none) ((([] : List S_arr2_int)).length) (0) 48 2 ((([] : List S_arr2_int)).flatMap e_arr2_int)) (by first | (rw [← hn20]; done) | rfl) ?_
    refine T_loopM (σ := List S_arr2_int) (γ := (List (S_arr2_int × Int)) × (Option (S_arr2_int × Int)) × (Option Addr) × Nat) hx (fun y19 => y19.1) (fun s19 y19 => [(0, .pointer (some ⟨g0_0, 0, none⟩)), (3, .slice (y19.2.2.1) ((s19).length) (y19.2.2.2)), (11, .pointer (some ⟨g1, 0, none⟩))]) (fun s19 y19 => [.r (y19.2.2.1) ((s19).length) (y19.2.2.2) 48 2 ((s19).flatMap e_arr2_int), .m g0_0 69 [.slice (A0_0) ((p0.v).length) (c0_0), .map (some gm0_0), .map (some gm0_1)], rngE Tryz.prog 48 v_arr2_int v_i64 gm0_0 g1 (p0.apex) (y19.1) (y19.2.1), mapE2 Tryz.prog 48 v_arr2_int v_bool gm0_1 (p0.fixed)] ++ Lf) (fun s19 y19 => True) (p0.apex, (none : Option (S_arr2_int × Int)), none, 0) rfl trivial (by exact .cons rfl (.cons rfl (.cons rfl (.nil)))) (by exact .pick 0 rfl (.pick 0 rfl (.pick 0 rfl (.pick 0 rfl (.refl))))) ?_
    intro s19 y19 hG19 hm19
    replace hm19 : MR _ _ y19.1 s19 r := hm19
    refine T_seq ?_
    refine T_reg ?_
    refine T_h (Wh_next2 key48 v_arr2_int_inj v_i64_inj rfl (i := 2) (fun _ _ => .there (.there (.here))) rfl (fun hn21 => ?_) (fun p19_ hp19 => ?_))
    · obtain ⟨x19, hx19, ht19⟩ := MR.noneK hm19 hn21
      unfold mesh_builder_rim_l3n at hx19
      refine T_val (Ev_extract rfl rfl) rfl ?_
      refine T_nil ?_
      refine T_next ?_
      refine T_seq ?_
      refine T_condF rfl ?_
      refine T_exit ?_
      refine T_outX ?_
      have hk22 := exit_k ht19 hx19
      refine T_rangeEnd (.there (.there (.here))) ?_
      refine T_outX ?_
      refine T_here ?_
      exact T_metP s19 (y19.2.2.1, y19.2.2.2) hk22 trivial (by exact .cons rfl (.cons rfl (.nil))) (by exact .pick 0 rfl (.pick 0 rfl (.pick 0 rfl (.pick 0 rfl (.refl)))))
    · obtain ⟨x19, hx19, ht19, hn19⟩ := MR.someK hm19 hp19
      unfold mesh_builder_rim_l3s at hx19
      refine T_val (Ev_extract rfl rfl) rfl ?_
      refine T_nil ?_
      refine T_next ?_
      refine T_seq ?_
      refine T_condT rfl ?_
      refine T_skip ?_
      refine T_next ?_
      refine T_block ?_
      refine T_seq ?_
      refine T_reg ?_
      refine T_val (Ev_entry2 (kv := .agg #[.int .i64 (p19_.1.a0), .int .i64 (p19_.1.a1)]) (vv := .int .i64 (p19_.2)) rfl (i := 2) rfl rfl rfl) rfl ?_
      refine T_val (Ev_extract rfl rfl) rfl ?_
      refine T_x (Wx_alloc zer48 rfl (fun g23 => ?_))
      refine T_h (Wh_store rfl rfl rfl (.here) (.put (.put (.done))) rfl (List.cons_ne_nil _ _) agg48.2 ?_)
      refine T_nil ?_
      refine T_next ?_
      refine T_seq ?_
      refine T_draw [0, 0, 0, 1, 0, 1, 0, 1, 0, 1, 0, 0, 0, 2, 2] [[], [0], [0, 1], [0, 1, 2], [], [4], [], [6], [4, 5, 6, 7], [0, 1, 2, 3, 4, 5, 6, 7, 8], [0, 1, 2, 3, 4, 5, 6, 7, 8, 9], [0, 1, 2, 3, 4, 5, 6, 7, 8, 9, 10], [0, 1, 2, 3, 4, 5, 6, 7, 8, 9, 10], [0, 1, 2, 3, 4, 5, 6, 7, 8, 9, 10, 11], [0, 1, 2, 3, 4, 5, 6, 7, 8, 9, 10, 11, 12, 13]] (.q 0 (.q 1 (.q 2 (.q 3 (.q 4 (.q 5 (.q 6 (.q 7 (.q 8 (.q 9 (.q 10 (.q 11 (.q 12 (.e 13 (.e 14 (.done) (.stop)) (.stop))))))))))))))) mixed (by kernel_rfl) (by kernel_rfl) ?_
      refine P_p rfl rfl (Ev_move rfl) rfl ?_
      refine P_p rfl rfl (Ev_nilCheck rfl) rfl ?_
      refine P_p rfl rfl (Ev_field rfl fld69_1 rfl) rfl ?_
      refine P_q rfl rfl (Ev_load1 rfl (i := 2) rfl rfl one66) rfl ?_
      refine P_p rfl rfl (Ev_indexP rfl rfl arr48 (by decide) (by decide) rfl) rfl ?_
      refine P_q rfl rfl (Ev_load1 rfl (i := 0) rfl rfl one3) rfl ?_
      refine P_p rfl rfl (Ev_indexP rfl rfl arr48 (by decide) (by decide) rfl) rfl ?_
      refine P_q rfl rfl (Ev_load1 rfl (i := 0) rfl rfl one3) rfl ?_
      refine P_p rfl rfl (Ev_build rfl (bld48_0i641i64 _ _)) rfl ?_
      obtain ⟨h24, hx25⟩ := gd_some hx19
      obtain ⟨x26, h27, hx28⟩ := bnd_some hx25
      refine P_q rfl rfl (Ev_look2Ok (x := (⟨p19_.1.a1, p19_.1.a0⟩ : S_arr2_int)) (i := 3) (vv := .int .i64 (x26)) key48 Tryz.underlying66 (fun w => by kernel_rfl) v_arr2_int_inj rfl rfl rfl rfl holds_rngE (isk48 ((⟨p19_.1.a1, p19_.1.a0⟩ : S_arr2_int)) h24) h27 rfl) rfl ?_
      refine P_p rfl rfl (Ev_move rfl) rfl ?_
      refine P_p rfl rfl (Ev_extract rfl rfl) rfl ?_
      refine P_p rfl rfl (Ev_extract rfl rfl) rfl ?_
      refine P_x rfl (Wx_val (Ev_assign rfl) rfl ?_) ?_
      rotate_left; exact P_stop
      refine P_x rfl (Wx_val (Ev_assign rfl) rfl ?_) ?_
      rotate_left; exact P_stop
      refine P_done ?_
      refine T_next ?_
      refine T_seq ?_
      refine T_reg ?_
      refine T_val (Ev_move rfl) rfl ?_
      refine T_val (Ev_not rfl) rfl ?_
      refine T_nil ?_
      refine T_next ?_
      refine T_caseNB (s := 30) rfl (fun h29 => ?_) (fun h29 => ?_)
      · have hx30 := ite_bf h29 hx28
        refine T_condT rfl ?_
        refine T_reg ?_
        refine T_val (Ev_move rfl) rfl ?_
        refine T_val (Ev_indexP rfl rfl arr48 (by decide) (by decide) rfl) rfl ?_
        refine T_val (Ev_load1 rfl (i := 0) rfl rfl one3) rfl ?_
        refine T_val (Ev_indexP rfl rfl arr48 (by decide) (by decide) rfl) rfl ?_
        refine T_val (Ev_load1 rfl (i := 0) rfl rfl one3) rfl ?_
        refine T_val (Ev_build rfl (bld48_0i641i64 _ _)) rfl ?_
        refine T_x (Wx_buildSlice rfl (bls23_1_0ai64i64 _ _) rfl (fun g31 => ?_))
        obtain ⟨h32, hx33⟩ := gd_some hx30
        refine T_h (Wh_appendP e_arr2_int (s19) [(⟨p19_.1.a1, p19_.1.a0⟩ : S_arr2_int)] rfl rfl rfl elm23 (fun _ => rfl) (i' := 0) rfl rfl rfl rfl h32 rfl (fun _ _ => .there (.there (.here))) (fun _ _ => .drop .refl) (by decide) (fun A34 c35 => ?_))
        refine T_val (Ev_assign rfl) rfl ?_
        refine T_nil ?_
        refine T_inN ?_
        exact T_roundM (s19 ++ [(⟨p19_.1.a1, p19_.1.a0⟩ : S_arr2_int)]) (mdel y19.1 p19_.1, (some p19_ : Option (S_arr2_int × Int)), A34, c35) hx33 hn19 hp19 rfl trivial (by exact .cons rfl (.cons rfl (.cons rfl (.nil)))) (by exact .pick 1 rfl (.pick 1 rfl (.pick 1 rfl (.pick 1 rfl (.drop 0 rfl (.refl))))))
      · have hx36 := ite_t h29 hx28
        refine T_condF rfl ?_
        refine T_skip ?_
        refine T_inN ?_
        exact T_roundM s19 (mdel y19.1 p19_.1, (some p19_ : Option (S_arr2_int × Int)), y19.2.2.1, y19.2.2.2) hx36 hn19 hp19 rfl trivial (by exact .cons rfl (.cons rfl (.cons rfl (.nil)))) (by exact .pick 1 rfl (.pick 1 rfl (.pick 1 rfl (.pick 1 rfl (.drop 0 rfl (.refl))))))
set_option maxRecDepth 100000 in
theorem mesh_builder_sides_ok (p0 : S_mesh_builder) {g0_0 : Nat} {gm0_0 : Nat} {gm0_1 : Nat} {K : List Ent} {A0_0 : Option Addr} {c0_0 : Nat} (ha0 : Has K A0_0 (p0.v).length c0_0 4 e_api_Vertex (p0.v)) {r : S_mesh_builder × (List S_arr2_int)} (hx : mesh_builder_sides p0 = some r) : CtK Tryz.prog 71 [.pointer (some ⟨g0_0, 0, none⟩)] K [.m g0_0 69 [.slice (A0_0) ((p0.v).length) (c0_0), .map (some gm0_0), .map (some gm0_1)], mapE2 Tryz.prog 48 v_arr2_int v_i64 gm0_0 (p0.apex), mapE2 Tryz.prog 48 v_arr2_int v_bool gm0_1 (p0.fixed)] fun v Ln => ∃ (A0 : Option Addr) (c0 : Nat) (A2 : Option Addr) (c2 : Nat), v = .slice (A2) ((r.2).length) (c2) ∧ Ln = [.m g0_0 69 [.slice (A0) ((r.1.v).length) (c0), .map (some gm0_0), .map (some gm0_1)], mapE2 Tryz.prog 48 v_arr2_int v_i64 gm0_0 (r.1.apex), mapE2 Tryz.prog 48 v_arr2_int v_bool gm0_1 (r.1.fixed), .r A2 (r.2).length c2 48 2 ((r.2).flatMap e_arr2_int)] ∧ Has (K ++ []) A0 (r.1.v).length c0 4 e_api_Vertex (r.1.v) ∧ True := by
  have ha0' := Has.up0 ha0
  refine CtK.mk 49 Tryz.func71 rfl Tryz.ntmps71 (by kernel_rfl) rfl ?_
  intro Lf hKf
  show T 49 _ [(0, .pointer (some ⟨g0_0, 0, none⟩))] ([.m g0_0 69 [.slice (A0_0) ((p0.v).length) (c0_0), .map (some gm0_0), .map (some gm0_1)], mapE2 Tryz.prog 48 v_arr2_int v_i64 gm0_0 (p0.apex), mapE2 Tryz.prog 48 v_arr2_int v_bool gm0_1 (p0.fixed)] ++ Lf)
  unfold mesh_builder_sides at hx
  refine T_seq ?_
  refine T_reg ?_
  refine T_val (Ev_assign rfl) rfl ?_
  refine T_nil ?_
  refine T_next ?_
  refine T_seq ?_
  refine T_reg ?_
  refine T_val (Ev_assign rfl) rfl ?_
  refine T_nil ?_
  refine T_next ?_
  obtain ⟨j3, hj3, hx⟩ := jn_some hx
  refine T_cutP (τ := List S_arr2_int) (γ := (Option Addr) × Nat) (J := j3) (out := r) (fun s3 y3 => [(0, .pointer (some ⟨g0_0, 0, none⟩)), (3, .slice (y3.1) ((s3).length) (y3.2))]) (fun s3 y3 => [.r (y3.1) ((s3).length) (y3.2) 48 2 ((s3).flatMap e_arr2_int), .m g0_0 69 [.slice (A0_0) ((p0.v).length) (c0_0), .map (some gm0_0), .map (some gm0_1)], mapE2 Tryz.prog 48 v_arr2_int v_i64 gm0_0 (p0.apex), mapE2 Tryz.prog 48 v_arr2_int v_bool gm0_1 (p0.fixed)] ++ Lf) (fun s3 y3 => True) ?_ ?_
  · intro s3 y3 hx53 hG54
    subst hj3
    refine T_seq ?_
    refine T_reg ?_
    refine T_val (Ev_move rfl) rfl ?_
    obtain ⟨h55, hx56⟩ := gd_some hx53
    refine T_h (Wh_sortG (p := small2) (arg := fun x => .agg #[.int .i64 (x.a0), .int .i64 (x.a1)]) (cf := cmp2) s3 (by exact ⟨_, Tryz.func63, rfl, rfl⟩) (fun w hok hcm => sort2_runs s3 h55.1 h55.2 w hok hcm ⟨_, Tryz.func64, rfl, rfl⟩) (fun ys => [.r (y3.1) ((s3).length) (y3.2) 48 2 ys, .m g0_0 69 [.slice (A0_0) ((p0.v).length) (c0_0), .map (some gm0_0), .map (some gm0_1)], mapE2 Tryz.prog 48 v_arr2_int v_i64 gm0_0 (p0.apex), mapE2 Tryz.prog 48 v_arr2_int v_bool gm0_1 (p0.fixed)] ++ Lf) (fun ys => by exact .here) (fun ys W hW x y px py => ⟨[.agg #[.int .i64 (x.a0), .int .i64 (x.a1)], .agg #[.int .i64 (y.a0), .int .i64 (y.a1)]], rfl, mesh_order_ok x y  (order_cmp px py) W⟩) rfl rfl rfl ?_)
    refine T_nil ?_
    refine T_next ?_
    refine T_seq ?_
    refine T_reg ?_
    refine T_val (Ev_move rfl) rfl ?_
    refine T_val (Ev_assign rfl) rfl ?_
    refine T_nil ?_
    refine T_next ?_
    refine T_retc ?_
    have hn57 : (s3).length = (sortBy cmp2 s3).length := (by rw [sortBy_len])
    refine T_ent (.here) (e' := .r (y3.1) ((sortBy cmp2 s3).length) (y3.2) 48 2 ((sortBy cmp2 s3).flatMap e_arr2_int)) (by first | (rw [← hn57]; done) | rfl) ?_
    refine T_slot (s := 2) (v' := .slice (y3.1) ((sortBy cmp2 s3).length) (y3.2)) rfl (by have hn58 : ((s3).length) = (sortBy cmp2 s3).length := (by rw [sortBy_len]); first | (rw [← hn58]; done) | rfl) ?_
    obtain rfl := Option.some.inj hx56
    exact T_retK (rs := [.tmp 2]) Tryz.results71 (.tmp rfl (.nil)) (Ln := [.m g0_0 69 [.slice (A0_0) ((p0.v).length) (c0_0), .map (some gm0_0), .map (some gm0_1)], mapE2 Tryz.prog 48 v_arr2_int v_i64 gm0_0 (p0.apex), mapE2 Tryz.prog 48 v_arr2_int v_bool gm0_1 (p0.fixed), .r (y3.1) ((sortBy cmp2 s3).length) (y3.2) 48 2 ((sortBy cmp2 s3).flatMap e_arr2_int)]) ⟨A0_0, c0_0, y3.1, y3.2, rfl, rfl, Has.len' ha0', trivial⟩ (by exact .pick 1 rfl (.pick 1 rfl (.pick 1 rfl (.pick 0 rfl (.refl)))))
  · skip
    refine T_seq ?_
    refine T_reg ?_
    refine T_val (Ev_move rfl) rfl ?_
    refine T_val (Ev_nilCheck rfl) rfl ?_
    refine T_val (Ev_field rfl fld69_1 rfl) rfl ?_
    refine T_val (Ev_load1 rfl (i := 0) rfl rfl one66) rfl ?_
    refine T_x (Wx_range2 key48 v_arr2_int_inj Tryz.underlying66 rfl (fun _ => .there (.here)) rfl (fun g1 => ?_))
    refine T_nil ?_
    refine T_next ?_
    refine T_block ?_
    refine T_none 48 2 ?_
    have hn28 : 0 = (([] : List S_arr2_int)).length := by simp [setI_len, cpy_len, List.length_append] <;> omega
    refine T_ent (.here) (e' := .r (none) ((([] : List S_arr2_int)).length) (0) 48 2 ((([] : List S_arr2_int)).flatMap e_arr2_int)) (by first | (rw [← hn28]; done) | rfl) ?_
    refine T_loopM (σ := List S_arr2_int) (γ := (List (S_arr2_int × Int)) × (Option (S_arr2_int × Int)) × (Option Addr) × Nat) hx (fun y27 => y27.1) (fun s27 y27 => [(0, .pointer (some ⟨g0_0, 0, none⟩)), (3, .slice (y27.2.2.1) ((s27).length) (y27.2.2.2)), (11, .pointer (some ⟨g1, 0, none⟩))]) (fun s27 y27 => [.r (y27.2.2.1) ((s27).length) (y27.2.2.2) 48 2 ((s27).flatMap e_arr2_int), .m g0_0 69 [.slice (A0_0) ((p0.v).length) (c0_0), .map (some gm0_0), .map (some gm0_1)], rngE Tryz.prog 48 v_arr2_int v_i64 gm0_0 g1 (p0.apex) (y27.1) (y27.2.1), mapE2 Tryz.prog 48 v_arr2_int v_bool gm0_1 (p0.fixed)] ++ Lf) (fun s27 y27 => True) (p0.apex, (none : Option (S_arr2_int × Int)), none, 0) rfl trivial (by exact .cons rfl (.cons rfl (.cons rfl (.nil)))) (by exact .pick 0 rfl (.pick 0 rfl (.pick 0 rfl (.pick 0 rfl (.refl))))) ?_
    intro s27 y27 hG27 hm27
    replace hm27 : MR _ _ y27.1 s27 r := hm27
    refine T_seq ?_
    refine T_reg ?_
    refine T_h (Wh_next2 key48 v_arr2_int_inj v_i64_inj rfl (i := 2) (fun _ _ => .there (.there (.here))) rfl (fun hn29 => ?_) (fun p27_ hp27 => ?_))
    · obtain ⟨x27, hx27, ht27⟩ := MR.noneK hm27 hn29
      unfold mesh_builder_sides_l3n at hx27
      refine T_val (Ev_extract rfl rfl) rfl ?_
      refine T_nil ?_
      refine T_next ?_
      refine T_seq ?_
      refine T_condF rfl ?_
      refine T_exit ?_
      refine T_outX ?_
      have hk30 := exit_k ht27 hx27
      refine T_rangeEnd (.there (.there (.here))) ?_
      refine T_outX ?_
      refine T_here ?_
      exact T_metP s27 (y27.2.2.1, y27.2.2.2) hk30 trivial (by exact .cons rfl (.cons rfl (.nil))) (by exact .pick 0 rfl (.pick 0 rfl (.pick 0 rfl (.pick 0 rfl (.refl)))))
    · obtain ⟨x27, hx27, ht27, hn27⟩ := MR.someK hm27 hp27
      unfold mesh_builder_sides_l3s at hx27
      refine T_val (Ev_extract rfl rfl) rfl ?_
      refine T_nil ?_
      refine T_next ?_
      refine T_seq ?_
      refine T_condT rfl ?_
      refine T_skip ?_
      refine T_next ?_
      refine T_block ?_
      refine T_seq ?_
      refine T_reg ?_
      refine T_val (Ev_entry2 (kv := .agg #[.int .i64 (p27_.1.a0), .int .i64 (p27_.1.a1)]) (vv := .int .i64 (p27_.2)) rfl (i := 2) rfl rfl rfl) rfl ?_
      refine T_val (Ev_extract rfl rfl) rfl ?_
      refine T_x (Wx_alloc zer48 rfl (fun g31 => ?_))
      refine T_h (Wh_store rfl rfl rfl (.here) (.put (.put (.done))) rfl (List.cons_ne_nil _ _) agg48.2 ?_)
      refine T_nil ?_
      refine T_next ?_
      refine T_seq ?_
      refine T_draw [0, 0, 0, 1, 0, 1, 0, 1, 0, 1, 0, 0, 0, 2, 2] [[], [0], [0, 1], [0, 1, 2], [], [4], [], [6], [4, 5, 6, 7], [0, 1, 2, 3, 4, 5, 6, 7, 8], [0, 1, 2, 3, 4, 5, 6, 7, 8, 9], [0, 1, 2, 3, 4, 5, 6, 7, 8, 9, 10], [0, 1, 2, 3, 4, 5, 6, 7, 8, 9, 10], [0, 1, 2, 3, 4, 5, 6, 7, 8, 9, 10, 11], [0, 1, 2, 3, 4, 5, 6, 7, 8, 9, 10, 11, 12, 13]] (.q 0 (.q 1 (.q 2 (.q 3 (.q 4 (.q 5 (.q 6 (.q 7 (.q 8 (.q 9 (.q 10 (.q 11 (.q 12 (.e 13 (.e 14 (.done) (.stop)) (.stop))))))))))))))) mixed (by kernel_rfl) (by kernel_rfl) ?_
      refine P_p rfl rfl (Ev_move rfl) rfl ?_
      refine P_p rfl rfl (Ev_nilCheck rfl) rfl ?_
      refine P_p rfl rfl (Ev_field rfl fld69_1 rfl) rfl ?_
      refine P_q rfl rfl (Ev_load1 rfl (i := 2) rfl rfl one66) rfl ?_
      refine P_p rfl rfl (Ev_indexP rfl rfl arr48 (by decide) (by decide) rfl) rfl ?_
      refine P_q rfl rfl (Ev_load1 rfl (i := 0) rfl rfl one3) rfl ?_
      refine P_p rfl rfl (Ev_indexP rfl rfl arr48 (by decide) (by decide) rfl) rfl ?_
      refine P_q rfl rfl (Ev_load1 rfl (i := 0) rfl rfl one3) rfl ?_
      refine P_p rfl rfl (Ev_build rfl (bld48_0i641i64 _ _)) rfl ?_
      obtain ⟨h32, hx33⟩ := gd_some hx27
      obtain ⟨x34, h35, hx36⟩ := bnd_some hx33
      refine P_q rfl rfl (Ev_look2Ok (x := (⟨p27_.1.a1, p27_.1.a0⟩ : S_arr2_int)) (i := 3) (vv := .int .i64 (x34)) key48 Tryz.underlying66 (fun w => by kernel_rfl) v_arr2_int_inj rfl rfl rfl rfl holds_rngE (isk48 ((⟨p27_.1.a1, p27_.1.a0⟩ : S_arr2_int)) h32) h35 rfl) rfl ?_
      refine P_p rfl rfl (Ev_move rfl) rfl ?_
      refine P_p rfl rfl (Ev_extract rfl rfl) rfl ?_
      refine P_p rfl rfl (Ev_extract rfl rfl) rfl ?_
      refine P_x rfl (Wx_val (Ev_assign rfl) rfl ?_) ?_
      rotate_left; exact P_stop
      refine P_x rfl (Wx_val (Ev_assign rfl) rfl ?_) ?_
      rotate_left; exact P_stop
      refine P_done ?_
      refine T_next ?_
      obtain ⟨j14, hj14, hx36⟩ := jn_some hx36
      refine T_cutP (τ := Bool) (γ := Unit) (J := j14) (out := x27) (fun s14 y14 => [(0, .pointer (some ⟨g0_0, 0, none⟩)), (3, .slice (y27.2.2.1) ((s27).length) (y27.2.2.2)), (4, .pointer (some ⟨g31, 0, none⟩)), (11, .pointer (some ⟨g1, 0, none⟩)), (37, .bool (s14))]) (fun s14 y14 => [.m g31 48 [.int .i64 (p27_.1.a0), .int .i64 (p27_.1.a1)], .r (y27.2.2.1) ((s27).length) (y27.2.2.2) 48 2 ((s27).flatMap e_arr2_int), .m g0_0 69 [.slice (A0_0) ((p0.v).length) (c0_0), .map (some gm0_0), .map (some gm0_1)], rngE Tryz.prog 48 v_arr2_int v_i64 gm0_0 g1 (p0.apex) (mdel y27.1 p27_.1) (some p27_), mapE2 Tryz.prog 48 v_arr2_int v_bool gm0_1 (p0.fixed)] ++ Lf) (fun s14 y14 => True) ?_ ?_
      · intro s14 y14 hx40 hG41
        subst hj14
        refine T_caseB (s := 37) rfl (fun h42 => ?_) (fun h42 => ?_)
        · have hx43 := ite_t h42 hx40
          refine T_condT rfl ?_
          refine T_reg ?_
          refine T_val (Ev_move rfl) rfl ?_
          refine T_val (Ev_indexP rfl rfl arr48 (by decide) (by decide) rfl) rfl ?_
          refine T_val (Ev_load1 rfl (i := 0) rfl rfl one3) rfl ?_
          refine T_val (Ev_indexP rfl rfl arr48 (by decide) (by decide) rfl) rfl ?_
          refine T_val (Ev_load1 rfl (i := 0) rfl rfl one3) rfl ?_
          obtain ⟨r44, h45, hx46⟩ := bnd_some hx43
          refine T_x (Wx_callL rfl (fun w1 hw1 => mesh_pair_ok p27_.1.a0 p27_.1.a1  h45 w1) rfl ?_)
          rintro _ _ hlo ⟨rfl, rfl, -⟩
          refine T_app0 ?_
          refine T_x (Wx_buildSlice rfl (bls23_1_0ai64i64 _ _) rfl (fun g47 => ?_))
          obtain ⟨h48, hx49⟩ := gd_some hx46
          refine T_h (Wh_appendP e_arr2_int (s27) [r44] rfl rfl rfl elm23 (fun _ => rfl) (i' := 0) rfl rfl rfl rfl h48 rfl (fun _ _ => .there (.there (.here))) (fun _ _ => .drop .refl) (by decide) (fun A50 c51 => ?_))
          refine T_val (Ev_assign rfl) rfl ?_
          refine T_nil ?_
          refine T_inN ?_
          exact T_roundM (s27 ++ [r44]) (mdel y27.1 p27_.1, (some p27_ : Option (S_arr2_int × Int)), A50, c51) hx49 hn27 hp27 rfl trivial (by exact .cons rfl (.cons rfl (.cons rfl (.nil)))) (by exact .pick 1 rfl (.pick 1 rfl (.pick 1 rfl (.pick 1 rfl (.drop 0 rfl (.refl))))))
        · have hx52 := ite_bf h42 hx40
          refine T_condF rfl ?_
          refine T_skip ?_
          refine T_inN ?_
          exact T_roundM s27 (mdel y27.1 p27_.1, (some p27_ : Option (S_arr2_int × Int)), y27.2.2.1, y27.2.2.2) hx52 hn27 hp27 rfl trivial (by exact .cons rfl (.cons rfl (.cons rfl (.nil)))) (by exact .pick 1 rfl (.pick 1 rfl (.pick 1 rfl (.pick 1 rfl (.drop 0 rfl (.refl))))))
      · skip
        refine T_reg ?_
        refine T_val (Ev_indexP rfl rfl arr48 (by decide) (by decide) rfl) rfl ?_
        refine T_val (Ev_load1 rfl (i := 0) rfl rfl one3) rfl ?_
        refine T_val (Ev_indexP rfl rfl arr48 (by decide) (by decide) rfl) rfl ?_
        refine T_val (Ev_load1 rfl (i := 0) rfl rfl one3) rfl ?_
        refine T_val (Ev_lss rfl rfl) rfl ?_
        refine T_val (Ev_move rfl) rfl ?_
        refine T_caseP (s := 34) rfl (fun h37 => ?_) (fun h37 => ?_)
        · have hx38 := ite_t h37 hx36
          refine T_skipG rfl rfl rfl rfl rfl ?_
          refine T_skipG rfl rfl rfl rfl rfl ?_
          refine T_val (Ev_pickT rfl rfl) rfl ?_
          refine T_nil ?_
          exact T_metP true () hx38 trivial (by exact .cons rfl (.cons rfl (.cons rfl (.cons rfl (.cons rfl (.nil)))))) (by exact .pick 0 rfl (.pick 0 rfl (.pick 0 rfl (.pick 0 rfl (.pick 0 rfl (.refl))))))
        · have hx39 := ite_f h37 hx36
          refine T_valG rfl rfl rfl (Ev_move rfl) rfl ?_
          refine T_valG rfl rfl rfl (Ev_not rfl) rfl ?_
          refine T_val (Ev_pickF rfl rfl) rfl ?_
          refine T_nil ?_
          exact T_metP (!((mget p0.apex ((⟨p27_.1.a1, p27_.1.a0⟩ : S_arr2_int))).isSome)) () hx39 trivial (by exact .cons rfl (.cons rfl (.cons rfl (.cons rfl (.cons rfl (.nil)))))) (by exact .pick 0 rfl (.pick 0 rfl (.pick 0 rfl (.pick 0 rfl (.pick 0 rfl (.refl))))))
set_option maxRecDepth 100000 in
theorem mesh_builder_triangles_ok (p0 : S_mesh_builder) {g0_0 : Nat} {gm0_0 : Nat} {gm0_1 : Nat} {K : List Ent} {A0_0 : Option Addr} {c0_0 : Nat} (ha0 : Has K A0_0 (p0.v).length c0_0 4 e_api_Vertex (p0.v)) {r : S_mesh_builder × (List S_arr3_int)} (hx : mesh_builder_triangles p0 = some r) : CtK Tryz.prog 37 [.pointer (some ⟨g0_0, 0, none⟩)] K [.m g0_0 69 [.slice (A0_0) ((p0.v).length) (c0_0), .map (some gm0_0), .map (some gm0_1)], mapE2 Tryz.prog 48 v_arr2_int v_i64 gm0_0 (p0.apex), mapE2 Tryz.prog 48 v_arr2_int v_bool gm0_1 (p0.fixed)] fun v Ln => ∃ (A0 : Option Addr) (c0 : Nat) (A2 : Option Addr) (c2 : Nat), v = .slice (A2) ((r.2).length) (c2) ∧ Ln = [.m g0_0 69 [.slice (A0) ((r.1.v).length) (c0), .map (some gm0_0), .map (some gm0_1)], mapE2 Tryz.prog 48 v_arr2_int v_i64 gm0_0 (r.1.apex), mapE2 Tryz.prog 48 v_arr2_int v_bool gm0_1 (r.1.fixed), .r A2 (r.2).length c2 35 3 ((r.2).flatMap e_arr3_int)] ∧ Has (K ++ []) A0 (r.1.v).length c0 4 e_api_Vertex (r.1.v) ∧ True := by
  have ha0' := Has.up0 ha0
  refine CtK.mk 39 Tryz.func37 rfl Tryz.ntmps37 (by kernel_rfl) rfl ?_
  intro Lf hKf
  show T 39 _ [(0, .pointer (some ⟨g0_0, 0, none⟩))] ([.m g0_0 69 [.slice (A0_0) ((p0.v).length) (c0_0), .map (some gm0_0), .map (some gm0_1)], mapE2 Tryz.prog 48 v_arr2_int v_i64 gm0_0 (p0.apex), mapE2 Tryz.prog 48 v_arr2_int v_bool gm0_1 (p0.fixed)] ++ Lf)
  unfold mesh_builder_triangles at hx
  refine T_seq ?_
  refine T_reg ?_
  refine T_val (Ev_assign rfl) rfl ?_
  refine T_nil ?_
  refine T_next ?_
  refine T_seq ?_
  refine T_reg ?_
  refine T_val (Ev_assign rfl) rfl ?_
  refine T_nil ?_
  refine T_next ?_
  obtain ⟨j3, hj3, hx⟩ := jn_some hx
  refine T_cutP (τ := List S_arr3_int) (γ := (Option Addr) × Nat) (J := j3) (out := r) (fun s3 y3 => [(0, .pointer (some ⟨g0_0, 0, none⟩)), (3, .slice (y3.1) ((s3).length) (y3.2))]) (fun s3 y3 => [.r (y3.1) ((s3).length) (y3.2) 35 3 ((s3).flatMap e_arr3_int), .m g0_0 69 [.slice (A0_0) ((p0.v).length) (c0_0), .map (some gm0_0), .map (some gm0_1)], mapE2 Tryz.prog 48 v_arr2_int v_i64 gm0_0 (p0.apex), mapE2 Tryz.prog 48 v_arr2_int v_bool gm0_1 (p0.fixed)] ++ Lf) (fun s3 y3 => True) ?_ ?_
  · intro s3 y3 hx37 hG38
    subst hj3
    refine T_seq ?_
    refine T_reg ?_
    refine T_val (Ev_move rfl) rfl ?_
    obtain ⟨h39, hx40⟩ := gd_some hx37
    refine T_h (Wh_sortG (p := small3) (arg := fun x => .agg #[.int .i64 (x.a0), .int .i64 (x.a1), .int .i64 (x.a2)]) (cf := cmp3) s3 (by exact ⟨_, Tryz.func73, rfl, rfl⟩) (fun w hok hcm => sort3_runs s3 h39.1 h39.2 w hok hcm ⟨_, Tryz.func74, rfl, rfl⟩) (fun ys => [.r (y3.1) ((s3).length) (y3.2) 35 3 ys, .m g0_0 69 [.slice (A0_0) ((p0.v).length) (c0_0), .map (some gm0_0), .map (some gm0_1)], mapE2 Tryz.prog 48 v_arr2_int v_i64 gm0_0 (p0.apex), mapE2 Tryz.prog 48 v_arr2_int v_bool gm0_1 (p0.fixed)] ++ Lf) (fun ys => by exact .here) (fun ys W hW x y px py => ⟨[.agg #[.int .i64 (x.a0), .int .i64 (x.a1), .int .i64 (x.a2)], .agg #[.int .i64 (y.a0), .int .i64 (y.a1), .int .i64 (y.a2)]], rfl, mesh_builder_triangles_1_ok x y  (triangle_cmp px py) W⟩) rfl rfl rfl ?_)
    refine T_nil ?_
    refine T_next ?_
    refine T_seq ?_
    refine T_reg ?_
    refine T_val (Ev_move rfl) rfl ?_
    refine T_val (Ev_assign rfl) rfl ?_
    refine T_nil ?_
    refine T_next ?_
    refine T_retc ?_
    have hn41 : (s3).length = (sortBy cmp3 s3).length := (by rw [sortBy_len])
    refine T_ent (.here) (e' := .r (y3.1) ((sortBy cmp3 s3).length) (y3.2) 35 3 ((sortBy cmp3 s3).flatMap e_arr3_int)) (by first | (rw [← hn41]; done) | rfl) ?_
    refine T_slot (s := 2) (v' := .slice (y3.1) ((sortBy cmp3 s3).length) (y3.2)) rfl (by have hn42 : ((s3).length) = (sortBy cmp3 s3).length := (by rw [sortBy_len]); first | (rw [← hn42]; done) | rfl) ?_
    obtain rfl := Option.some.inj hx40
    exact T_retK (rs := [.tmp 2]) Tryz.results37 (.tmp rfl (.nil)) (Ln := [.m g0_0 69 [.slice (A0_0) ((p0.v).length) (c0_0), .map (some gm0_0), .map (some gm0_1)], mapE2 Tryz.prog 48 v_arr2_int v_i64 gm0_0 (p0.apex), mapE2 Tryz.prog 48 v_arr2_int v_bool gm0_1 (p0.fixed), .r (y3.1) ((sortBy cmp3 s3).length) (y3.2) 35 3 ((sortBy cmp3 s3).flatMap e_arr3_int)]) ⟨A0_0, c0_0, y3.1, y3.2, rfl, rfl, Has.len' ha0', trivial⟩ (by exact .pick 1 rfl (.pick 1 rfl (.pick 1 rfl (.pick 0 rfl (.refl)))))
  · skip
    refine T_seq ?_
    refine T_reg ?_
    refine T_val (Ev_move rfl) rfl ?_
    refine T_val (Ev_nilCheck rfl) rfl ?_
    refine T_val (Ev_field rfl fld69_1 rfl) rfl ?_
    refine T_val (Ev_load1 rfl (i := 0) rfl rfl one66) rfl ?_
    refine T_x (Wx_range2 key48 v_arr2_int_inj Tryz.underlying66 rfl (fun _ => .there (.here)) rfl (fun g1 => ?_))
    refine T_nil ?_
    refine T_next ?_
    refine T_block ?_
    refine T_none 35 3 ?_
    have hn20 : 0 = (([] : List S_arr3_int)).length := by simp [setI_len, cpy_len, List.length_append] <;> omega
    refine T_ent (.here) (e' := .r (none) ((([] : List S_arr3_int)).length) (0) 35 3 ((([] : List S_arr3_int)).flatMap e_arr3_int)) (by first | (rw [← hn20]; done) | rfl) ?_
    refine T_loopM (σ := List S_arr3_int) (γ := (List (S_arr2_int × Int)) × (Option (S_arr2_int × Int)) × (Option Addr) × Nat) hx (fun y19 => y19.1) (fun s19 y19 => [(0, .pointer (some ⟨g0_0, 0, none⟩)), (3, .slice (y19.2.2.1) ((s19).length) (y19.2.2.2)), (10, .pointer (some ⟨g1, 0, none⟩))]) (fun s19 y19 => [.r (y19.2.2.1) ((s19).length) (y19.2.2.2) 35 3 ((s19).flatMap e_arr3_int), .m g0_0 69 [.slice (A0_0) ((p0.v).length) (c0_0), .map (some gm0_0), .map (some gm0_1)], rngE Tryz.prog 48 v_arr2_int v_i64 gm0_0 g1 (p0.apex) (y19.1) (y19.2.1), mapE2 Tryz.prog 48 v_arr2_int v_bool gm0_1 (p0.fixed)] ++ Lf) (fun s19 y19 => True) (p0.apex, (none : Option (S_arr2_int × Int)), none, 0) rfl trivial (by exact .cons rfl (.cons rfl (.cons rfl (.nil)))) (by exact .pick 0 rfl (.pick 0 rfl (.pick 0 rfl (.pick 0 rfl (.refl))))) ?_
    intro s19 y19 hG19 hm19
    replace hm19 : MR _ _ y19.1 s19 r := hm19
    refine T_seq ?_
    refine T_reg ?_
    refine T_h (Wh_next2 key48 v_arr2_int_inj v_i64_inj rfl (i := 2) (fun _ _ => .there (.there (.here))) rfl (fun hn21 => ?_) (fun p19_ hp19 => ?_))
    · obtain ⟨x19, hx19, ht19⟩ := MR.noneK hm19 hn21
      unfold mesh_builder_triangles_l3n at hx19
      refine T_val (Ev_extract rfl rfl) rfl ?_
      refine T_nil ?_
      refine T_next ?_
      refine T_seq ?_
      refine T_condF rfl ?_
      refine T_exit ?_
      refine T_outX ?_
      have hk22 := exit_k ht19 hx19
      refine T_rangeEnd (.there (.there (.here))) ?_
      refine T_outX ?_
      refine T_here ?_
      exact T_metP s19 (y19.2.2.1, y19.2.2.2) hk22 trivial (by exact .cons rfl (.cons rfl (.nil))) (by exact .pick 0 rfl (.pick 0 rfl (.pick 0 rfl (.pick 0 rfl (.refl)))))
    · obtain ⟨x19, hx19, ht19, hn19⟩ := MR.someK hm19 hp19
      unfold mesh_builder_triangles_l3s at hx19
      refine T_val (Ev_extract rfl rfl) rfl ?_
      refine T_nil ?_
      refine T_next ?_
      refine T_seq ?_
      refine T_condT rfl ?_
      refine T_skip ?_
      refine T_next ?_
      refine T_block ?_
      refine T_seq ?_
      refine T_reg ?_
      refine T_val (Ev_entry2 (kv := .agg #[.int .i64 (p19_.1.a0), .int .i64 (p19_.1.a1)]) (vv := .int .i64 (p19_.2)) rfl (i := 2) rfl rfl rfl) rfl ?_
      refine T_val (Ev_extract rfl rfl) rfl ?_
      refine T_val (Ev_extract rfl rfl) rfl ?_
      refine T_x (Wx_alloc zer48 rfl (fun g23 => ?_))
      refine T_h (Wh_store rfl rfl rfl (.here) (.put (.put (.done))) rfl (List.cons_ne_nil _ _) agg48.2 ?_)
      refine T_val (Ev_assign rfl) rfl ?_
      refine T_nil ?_
      refine T_next ?_
      obtain ⟨j12, hj12, hx19⟩ := jn_some hx19
      refine T_cutP (τ := Bool) (γ := Unit) (J := j12) (out := x19) (fun s12 y12 => [(0, .pointer (some ⟨g0_0, 0, none⟩)), (3, .slice (y19.2.2.1) ((s19).length) (y19.2.2.2)), (4, .pointer (some ⟨g23, 0, none⟩)), (5, .int .i64 (p19_.2)), (10, .pointer (some ⟨g1, 0, none⟩)), (26, .bool (s12))]) (fun s12 y12 => [.m g23 48 [.int .i64 (p19_.1.a0), .int .i64 (p19_.1.a1)], .r (y19.2.2.1) ((s19).length) (y19.2.2.2) 35 3 ((s19).flatMap e_arr3_int), .m g0_0 69 [.slice (A0_0) ((p0.v).length) (c0_0), .map (some gm0_0), .map (some gm0_1)], rngE Tryz.prog 48 v_arr2_int v_i64 gm0_0 g1 (p0.apex) (mdel y19.1 p19_.1) (some p19_), mapE2 Tryz.prog 48 v_arr2_int v_bool gm0_1 (p0.fixed)] ++ Lf) (fun s12 y12 => True) ?_ ?_
      · intro s12 y12 hx27 hG28
        subst hj12
        refine T_caseB (s := 26) rfl (fun h29 => ?_) (fun h29 => ?_)
        · have hx30 := ite_t h29 hx27
          refine T_condT rfl ?_
          refine T_reg ?_
          refine T_val (Ev_move rfl) rfl ?_
          refine T_val (Ev_indexP rfl rfl arr48 (by decide) (by decide) rfl) rfl ?_
          refine T_val (Ev_load1 rfl (i := 0) rfl rfl one3) rfl ?_
          refine T_val (Ev_indexP rfl rfl arr48 (by decide) (by decide) rfl) rfl ?_
          refine T_val (Ev_load1 rfl (i := 0) rfl rfl one3) rfl ?_
          refine T_val (Ev_move rfl) rfl ?_
          refine T_val (Ev_build rfl (bld35_0i641i642i64 _ _ _)) rfl ?_
          refine T_x (Wx_buildSlice rfl (bls30_1_0ai64i64i64 _ _ _) rfl (fun g31 => ?_))
          obtain ⟨h32, hx33⟩ := gd_some hx30
          refine T_h (Wh_appendP e_arr3_int (s19) [(⟨p19_.1.a0, p19_.1.a1, p19_.2⟩ : S_arr3_int)] rfl rfl rfl elm30 (fun _ => rfl) (i' := 0) rfl rfl rfl rfl h32 rfl (fun _ _ => .there (.there (.here))) (fun _ _ => .drop .refl) (by decide) (fun A34 c35 => ?_))
          refine T_val (Ev_assign rfl) rfl ?_
          refine T_nil ?_
          refine T_inN ?_
          exact T_roundM (s19 ++ [(⟨p19_.1.a0, p19_.1.a1, p19_.2⟩ : S_arr3_int)]) (mdel y19.1 p19_.1, (some p19_ : Option (S_arr2_int × Int)), A34, c35) hx33 hn19 hp19 rfl trivial (by exact .cons rfl (.cons rfl (.cons rfl (.nil)))) (by exact .pick 1 rfl (.pick 1 rfl (.pick 1 rfl (.pick 1 rfl (.drop 0 rfl (.refl))))))
        · have hx36 := ite_bf h29 hx27
          refine T_condF rfl ?_
          refine T_skip ?_
          refine T_inN ?_
          exact T_roundM s19 (mdel y19.1 p19_.1, (some p19_ : Option (S_arr2_int × Int)), y19.2.2.1, y19.2.2.2) hx36 hn19 hp19 rfl trivial (by exact .cons rfl (.cons rfl (.cons rfl (.nil)))) (by exact .pick 1 rfl (.pick 1 rfl (.pick 1 rfl (.pick 1 rfl (.drop 0 rfl (.refl))))))
      · skip
        refine T_reg ?_
        refine T_val (Ev_indexP rfl rfl arr48 (by decide) (by decide) rfl) rfl ?_
        refine T_val (Ev_load1 rfl (i := 0) rfl rfl one3) rfl ?_
        refine T_val (Ev_indexP rfl rfl arr48 (by decide) (by decide) rfl) rfl ?_
        refine T_val (Ev_load1 rfl (i := 0) rfl rfl one3) rfl ?_
        refine T_val (Ev_lss rfl rfl) rfl ?_
        refine T_val (Ev_move rfl) rfl ?_
        refine T_caseP (s := 21) rfl (fun h24 => ?_) (fun h24 => ?_)
        · have hx25 := ite_t h24 hx19
          refine T_valG rfl rfl rfl (Ev_indexP rfl rfl arr48 (by decide) (by decide) rfl) rfl ?_
          refine T_valG rfl rfl rfl (Ev_load1 rfl (i := 0) rfl rfl one3) rfl ?_
          refine T_valG rfl rfl rfl (Ev_move rfl) rfl ?_
          refine T_valG rfl rfl rfl (Ev_lss rfl rfl) rfl ?_
          refine T_val (Ev_pickT rfl rfl) rfl ?_
          refine T_nil ?_
          exact T_metP (decide (p19_.1.a0 < p19_.2)) () hx25 trivial (by exact .cons rfl (.cons rfl (.cons rfl (.cons rfl (.cons rfl (.cons rfl (.nil))))))) (by exact .pick 0 rfl (.pick 0 rfl (.pick 0 rfl (.pick 0 rfl (.pick 0 rfl (.refl))))))
        · have hx26 := ite_f h24 hx19
          refine T_skipG rfl rfl rfl rfl rfl ?_
          refine T_skipG rfl rfl rfl rfl rfl ?_
          refine T_skipG rfl rfl rfl rfl rfl ?_
          refine T_skipG rfl rfl rfl rfl rfl ?_
          refine T_val (Ev_pickF rfl rfl) rfl ?_
          refine T_nil ?_
          exact T_metP false () hx26 trivial (by exact .cons rfl (.cons rfl (.cons rfl (.cons rfl (.cons rfl (.cons rfl (.nil))))))) (by exact .pick 0 rfl (.pick 0 rfl (.pick 0 rfl (.pick 0 rfl (.pick 0 rfl (.refl))))))
set_option maxRecDepth 100000 in
theorem mesh_ranks_ok (p0 : List S_api_Vertex) {K : List Ent} {A0_0 : Option Addr} {c0_0 : Nat} (ha0 : Has K A0_0 (p0).length c0_0 4 e_api_Vertex (p0)) {r : List Int} (hx : mesh_ranks p0 = some r) (w : World) (hK : ∀ e ∈ K, Ent.ok w e) : CtL Tryz.prog 33 [.slice (A0_0) ((p0).length) (c0_0)] w fun v Ln => ∃ (A0 : Option Addr) (c0 : Nat), v = .slice (A0) ((r).length) (c0) ∧ Ln = [.r A0 (r).length c0 3 1 ((r).flatMap e_i64)] ∧ True := by
  have ha0' := Has.up0 ha0
  refine CtL.mk 19 Tryz.func33 rfl Tryz.ntmps33 (by kernel_rfl) rfl ?_
  show T 19 _ [(0, .slice (A0_0) ((p0).length) (c0_0))] _
  unfold mesh_ranks at hx
  refine T_seq ?_
  refine T_reg ?_
  refine T_x (Wx_box rfl rfl rfl (fun g1 => ?_))
  refine T_val (Ev_assign rfl) rfl ?_
  refine T_nil ?_
  refine T_next ?_
  refine T_seq ?_
  refine T_reg ?_
  refine T_val (Ev_assign rfl) rfl ?_
  refine T_nil ?_
  refine T_next ?_
  obtain ⟨j3, hj3, hx⟩ := jn_some hx
  refine T_cutP (τ := List Int) (γ := (Option Addr) × Nat) (J := j3) (out := r) (fun s3 y3 => [(1, .pointer (some ⟨g1, 0, none⟩)), (3, .slice (y3.1) ((s3).length) (y3.2))]) (fun s3 y3 => [.r (y3.1) ((s3).length) (y3.2) 3 1 ((s3).flatMap e_i64), .m g1 22 [.slice (A0_0) ((p0).length) (c0_0)]] ++ [.old w]) (fun s3 y3 => True) ?_ ?_
  · intro s3 y3 hx22 hG23
    subst hj3
    refine T_seq ?_
    refine T_reg ?_
    refine T_val (Ev_move rfl) rfl ?_
    refine T_val (Ev_makeFunc rfl) rfl ?_
    obtain ⟨h24, hx25⟩ := gd_some hx22
    refine T_h (Wh_sortG (p := (okIx p0)) (arg := fun x => .int .i64 (x)) (cf := (cmpR p0)) s3 (by exact ⟨_, Tryz.func68, rfl, rfl⟩) (fun w hok hcm => sort1_ranks p0 h24.2.2 s3 h24.1 h24.2.1 w hok hcm ⟨_, Tryz.func69, rfl, rfl⟩) (fun ys => [.r (y3.1) ((s3).length) (y3.2) 3 1 ys, .m g1 22 [.slice (A0_0) ((p0).length) (c0_0)]] ++ [.old w]) (fun ys => by exact .here) (fun ys W hW x y px py => ⟨[.int .i64 (x), .int .i64 (y), .pointer (some ⟨g1, 0, none⟩)], rfl, mesh_ranks_1_ok x y p0 (Has.len' (Has.up (L := (K ++ [.m g1 22 [.slice (A0_0) ((p0).length) (c0_0)]])) ha0' (SubE.app2 SubE.nil))) (Pt.m0 (List.mem_append_right _ (List.mem_cons_self))) (ranks_cmp p0 px py) W (okApp (K := K) (K2 := [.m g1 22 [.slice (A0_0) ((p0).length) (c0_0)]]) hK (by exact (SubE.cons2 (i := 2) rfl (SubE.nil))) (by exact (SubE.cons2 (i := 1) rfl (SubE.nil))) hW)⟩) rfl rfl rfl ?_)
    refine T_nil ?_
    refine T_next ?_
    refine T_seq ?_
    refine T_reg ?_
    refine T_val (Ev_move rfl) rfl ?_
    refine T_val (Ev_assign rfl) rfl ?_
    refine T_nil ?_
    refine T_next ?_
    refine T_retc ?_
    have hn26 : (s3).length = (sortBy ((cmpR p0)) s3).length := (by rw [sortBy_len])
    refine T_ent (.here) (e' := .r (y3.1) ((sortBy ((cmpR p0)) s3).length) (y3.2) 3 1 ((sortBy ((cmpR p0)) s3).flatMap e_i64)) (by first | (rw [← hn26]; done) | rfl) ?_
    refine T_slot (s := 2) (v' := .slice (y3.1) ((sortBy ((cmpR p0)) s3).length) (y3.2)) rfl (by have hn27 : ((s3).length) = (sortBy ((cmpR p0)) s3).length := (by rw [sortBy_len]); first | (rw [← hn27]; done) | rfl) ?_
    obtain rfl := Option.some.inj hx25
    exact T_retP (rs := [.tmp 2]) Tryz.results33 (.tmp rfl (.nil)) (Ln := [.r (y3.1) ((sortBy ((cmpR p0)) s3).length) (y3.2) 3 1 ((sortBy ((cmpR p0)) s3).flatMap e_i64)]) ⟨y3.1, y3.2, rfl, rfl, trivial⟩ (loCons rfl (loNil)) (by exact .pick 0 rfl (.drop 0 rfl (.refl)))
  · skip
    refine T_seq ?_
    refine T_reg ?_
    refine T_val (Ev_load1 rfl (i := 0) rfl rfl one22) rfl ?_
    refine T_val (Ev_len rfl 43 Tryz.underlying22) rfl ?_
    refine T_val (Ev_move rfl) rfl ?_
    refine T_nil ?_
    refine T_next ?_
    refine T_block ?_
    obtain ⟨t12, hl12, ho12⟩ := bnd_some hx
    refine T_none 3 1 ?_
    have hn13 : 0 = (([] : List Int)).length := by simp [setI_len, cpy_len, List.length_append] <;> omega
    refine T_ent (.here) (e' := .r (none) ((([] : List Int)).length) (0) 3 1 ((([] : List Int)).flatMap e_i64)) (by first | (rw [← hn13]; done) | rfl) ?_
    refine T_loopP (σ := (List Int) × Int) (γ := (Option Addr) × Nat) hl12 (fun s12 y12 => [(1, .pointer (some ⟨g1, 0, none⟩)), (3, .slice (y12.1) ((s12.1).length) (y12.2)), (6, .int .i64 ((((p0).length : Nat) : Int))), (7, .int .i64 (s12.2))]) (fun s12 y12 => [.r (y12.1) ((s12.1).length) (y12.2) 3 1 ((s12.1).flatMap e_i64), .m g1 22 [.slice (A0_0) ((p0).length) (c0_0)]] ++ [.old w]) (fun s12 y12 => True) (none, 0) trivial (by exact .cons rfl (.cons rfl (.cons rfl (.cons rfl (.nil))))) (by exact .pick 0 rfl (.pick 0 rfl (.refl))) ?_
    intro s12 y12 hG12 x12 hx12 ht12
    unfold mesh_ranks_l3 at hx12
    refine T_seq ?_
    refine T_reg ?_
    refine T_val (Ev_lss rfl rfl) rfl ?_
    refine T_nil ?_
    refine T_next ?_
    refine T_seq ?_
    refine T_caseP (s := 8) rfl (fun h14 => ?_) (fun h14 => ?_)
    · have hx15 := ite_t h14 hx12
      refine T_condT rfl ?_
      refine T_skip ?_
      refine T_next ?_
      refine T_seq ?_
      refine T_block ?_
      refine T_seq ?_
      refine T_reg ?_
      refine T_val (Ev_move rfl) rfl ?_
      refine T_val (Ev_assign rfl) rfl ?_
      refine T_nil ?_
      refine T_next ?_
      refine T_reg ?_
      refine T_val (Ev_move rfl) rfl ?_
      refine T_val (Ev_move rfl) rfl ?_
      refine T_x (Wx_buildSlice rfl (bls58_1_0i64 _) rfl (fun g17 => ?_))
      obtain ⟨h18, hx19⟩ := gd_some hx15
      refine T_h (Wh_appendP e_i64 (s12.1) [s12.2] rfl rfl rfl elm58 (fun _ => rfl) (i' := 0) rfl rfl rfl rfl h18 rfl (fun _ _ => .there (.here)) (fun _ _ => .drop .refl) (by decide) (fun A20 c21 => ?_))
      refine T_val (Ev_assign rfl) rfl ?_
      refine T_nil ?_
      refine T_inN ?_
      refine T_next ?_
      refine T_reg ?_
      refine T_val (Ev_add_w64 rfl rfl) rfl ?_
      refine T_val (Ev_move rfl) rfl ?_
      refine T_nil ?_
      exact T_roundP (s12.1 ++ [s12.2], w64 (s12.2 + 1)) (A20, c21) hx19 trivial (by exact .cons rfl (.cons rfl (.cons rfl (.cons rfl (.nil))))) (by exact .pick 0 rfl (.pick 0 rfl (.refl)))
    · have hx16 := ite_f h14 hx12
      refine T_condF rfl ?_
      refine T_exit ?_
      refine T_outX ?_
      obtain rfl := exit_eq ht12 hx16
      refine T_outX ?_
      refine T_here ?_
      exact T_metP s12.1 (y12.1, y12.2) ho12 trivial (by exact .cons rfl (.cons rfl (.nil))) (by exact .pick 0 rfl (.pick 0 rfl (.refl)))
set_option maxRecDepth 100000 in
theorem mesh_sorted_ok (p0 : List S_arr2_int) {K : List Ent} {A0_0 : Option Addr} {c0_0 : Nat} (ha0 : Has K A0_0 (p0).length c0_0 2 e_arr2_int (p0)) {r : List S_arr2_int} (hx : mesh_sorted p0 = some r) (w : World) (hK : ∀ e ∈ K, Ent.ok w e) : CtL Tryz.prog 31 [.slice (A0_0) ((p0).length) (c0_0)] w fun v Ln => ∃ (A0 : Option Addr) (c0 : Nat), v = .slice (A0) ((r).length) (c0) ∧ Ln = [.r A0 (r).length c0 48 2 ((r).flatMap e_arr2_int)] ∧ True := by
  have ha0' := Has.up0 ha0
  refine CtL.mk 24 Tryz.func31 rfl Tryz.ntmps31 (by kernel_rfl) rfl ?_
  show T 24 _ [(0, .slice (A0_0) ((p0).length) (c0_0))] _
  unfold mesh_sorted at hx
  refine T_seq ?_
  refine T_reg ?_
  refine T_val (Ev_assign rfl) rfl ?_
  refine T_nil ?_
  refine T_next ?_
  refine T_seq ?_
  refine T_reg ?_
  refine T_val (Ev_assign rfl) rfl ?_
  refine T_nil ?_
  refine T_next ?_
  obtain ⟨j3, hj3, hx⟩ := jn_some hx
  refine T_cutP (τ := List S_arr2_int) (γ := (Option Addr) × Nat) (J := j3) (out := r) (fun s3 y3 => [(3, .slice (y3.1) ((s3).length) (y3.2))]) (fun s3 y3 => [.r (y3.1) ((s3).length) (y3.2) 48 2 ((s3).flatMap e_arr2_int)] ++ [.old w]) (fun s3 y3 => True) ?_ ?_
  · intro s3 y3 hx51 hG52
    subst hj3
    refine T_seq ?_
    refine T_reg ?_
    refine T_val (Ev_move rfl) rfl ?_
    obtain ⟨h53, hx54⟩ := gd_some hx51
    refine T_h (Wh_sortG (p := small2) (arg := fun x => .agg #[.int .i64 (x.a0), .int .i64 (x.a1)]) (cf := cmp2) s3 (by exact ⟨_, Tryz.func63, rfl, rfl⟩) (fun w hok hcm => sort2_runs s3 h53.1 h53.2 w hok hcm ⟨_, Tryz.func64, rfl, rfl⟩) (fun ys => [.r (y3.1) ((s3).length) (y3.2) 48 2 ys] ++ [.old w]) (fun ys => by exact .here) (fun ys W hW x y px py => ⟨[.agg #[.int .i64 (x.a0), .int .i64 (x.a1)], .agg #[.int .i64 (y.a0), .int .i64 (y.a1)]], rfl, mesh_order_ok x y  (order_cmp px py) W⟩) rfl rfl rfl ?_)
    refine T_nil ?_
    refine T_next ?_
    refine T_seq ?_
    refine T_reg ?_
    refine T_val (Ev_move rfl) rfl ?_
    refine T_val (Ev_assign rfl) rfl ?_
    refine T_nil ?_
    refine T_next ?_
    refine T_retc ?_
    have hn55 : (s3).length = (sortBy cmp2 s3).length := (by rw [sortBy_len])
    refine T_ent (.here) (e' := .r (y3.1) ((sortBy cmp2 s3).length) (y3.2) 48 2 ((sortBy cmp2 s3).flatMap e_arr2_int)) (by first | (rw [← hn55]; done) | rfl) ?_
    refine T_slot (s := 2) (v' := .slice (y3.1) ((sortBy cmp2 s3).length) (y3.2)) rfl (by have hn56 : ((s3).length) = (sortBy cmp2 s3).length := (by rw [sortBy_len]); first | (rw [← hn56]; done) | rfl) ?_
    obtain rfl := Option.some.inj hx54
    exact T_retP (rs := [.tmp 2]) Tryz.results31 (.tmp rfl (.nil)) (Ln := [.r (y3.1) ((sortBy cmp2 s3).length) (y3.2) 48 2 ((sortBy cmp2 s3).flatMap e_arr2_int)]) ⟨y3.1, y3.2, rfl, rfl, trivial⟩ (loCons rfl (loNil)) (by exact .pick 0 rfl (.refl))
  · skip
    refine T_seq ?_
    refine T_reg ?_
    refine T_val (Ev_move rfl) rfl ?_
    refine T_val (Ev_len rfl 48 Tryz.underlying23) rfl ?_
    refine T_val (Ev_move rfl) rfl ?_
    refine T_nil ?_
    refine T_next ?_
    refine T_block ?_
    obtain ⟨t26, hl26, ho26⟩ := bnd_some hx
    refine T_none 48 2 ?_
    have hn27 : 0 = (([] : List S_arr2_int)).length := by simp [setI_len, cpy_len, List.length_append] <;> omega
    refine T_ent (.here) (e' := .r (none) ((([] : List S_arr2_int)).length) (0) 48 2 ((([] : List S_arr2_int)).flatMap e_arr2_int)) (by first | (rw [← hn27]; done) | rfl) ?_
    refine T_loopP (σ := (List S_arr2_int) × Int) (γ := (Option Addr) × Nat) hl26 (fun s26 y26 => [(3, .slice (y26.1) ((s26.1).length) (y26.2)), (6, .slice (A0_0) ((p0).length) (c0_0)), (7, .int .i64 ((((p0).length : Nat) : Int))), (8, .int .i64 (s26.2))]) (fun s26 y26 => [.r (y26.1) ((s26.1).length) (y26.2) 48 2 ((s26.1).flatMap e_arr2_int)] ++ [.old w]) (fun s26 y26 => True) (none, 0) trivial (by exact .cons rfl (.cons rfl (.cons rfl (.cons rfl (.nil))))) (by exact .pick 0 rfl (.refl)) ?_
    intro s26 y26 hG26 x26 hx26 ht26
    unfold mesh_sorted_l3 at hx26
    refine T_seq ?_
    refine T_reg ?_
    refine T_val (Ev_lss rfl rfl) rfl ?_
    refine T_nil ?_
    refine T_next ?_
    refine T_seq ?_
    refine T_caseP (s := 9) rfl (fun h28 => ?_) (fun h28 => ?_)
    · have hx29 := ite_t h28 hx26
      refine T_condT rfl ?_
      refine T_skip ?_
      refine T_next ?_
      refine T_seq ?_
      refine T_block ?_
      refine T_seq ?_
      refine T_reg ?_
      obtain ⟨x31, h32, hx33⟩ := bnd_some hx29
      have hw41 := Has.low (E := []) ha0' hK
      obtain ⟨b34, o35, j36, hA37, hj38, hl39, hp40⟩ := Has.at_idx hw41 h32
      refine T_val (Ev_index rfl rfl hA37 (j := j36) hj38 hl39 slc23) rfl ?_
      refine T_val (Ev_loadPK0 rfl hp40 (SubE.cons2 (i := 1) rfl (SubE.nil)) rfl agg48) rfl ?_
      refine T_x (Wx_alloc zer48 rfl (fun g42 => ?_))
      refine T_h (Wh_store rfl rfl rfl (.here) (.put (.put (.done))) rfl (List.cons_ne_nil _ _) agg48.2 ?_)
      refine T_nil ?_
      refine T_next ?_
      refine T_reg ?_
      refine T_val (Ev_move rfl) rfl ?_
      refine T_val (Ev_indexP rfl rfl arr48 (by decide) (by decide) rfl) rfl ?_
      refine T_val (Ev_load1 rfl (i := 0) rfl rfl one3) rfl ?_
      refine T_val (Ev_indexP rfl rfl arr48 (by decide) (by decide) rfl) rfl ?_
      refine T_val (Ev_load1 rfl (i := 0) rfl rfl one3) rfl ?_
      obtain ⟨r43, h44, hx45⟩ := bnd_some hx33
      refine T_x (Wx_callL rfl (fun w1 hw1 => mesh_pair_ok x31.a0 x31.a1  h44 w1) rfl ?_)
      rintro _ _ hlo ⟨rfl, rfl, -⟩
      refine T_app0 ?_
      refine T_x (Wx_buildSlice rfl (bls23_1_0ai64i64 _ _) rfl (fun g46 => ?_))
      obtain ⟨h47, hx48⟩ := gd_some hx45
      refine T_h (Wh_appendP e_arr2_int (s26.1) [r43] rfl rfl rfl elm23 (fun _ => rfl) (i' := 0) rfl rfl rfl rfl h47 rfl (fun _ _ => .there (.there (.here))) (fun _ _ => .drop .refl) (by decide) (fun A49 c50 => ?_))
      refine T_val (Ev_assign rfl) rfl ?_
      refine T_nil ?_
      refine T_inN ?_
      refine T_next ?_
      refine T_reg ?_
      refine T_val (Ev_add_w64 rfl rfl) rfl ?_
      refine T_val (Ev_move rfl) rfl ?_
      refine T_nil ?_
      exact T_roundP (s26.1 ++ [r43], w64 (s26.2 + 1)) (A49, c50) hx48 trivial (by exact .cons rfl (.cons rfl (.cons rfl (.cons rfl (.nil))))) (by exact .pick 1 rfl (.drop 0 rfl (.refl)))
    · have hx30 := ite_f h28 hx26
      refine T_condF rfl ?_
      refine T_exit ?_
      refine T_outX ?_
      obtain rfl := exit_eq ht26 hx30
      refine T_outX ?_
      refine T_here ?_
      exact T_metP s26.1 (y26.1, y26.2) ho26 trivial (by exact .cons rfl (.nil)) (by exact .pick 0 rfl (.refl))
end Go.Proofs.YtlkgeeppfifeeaaGreat
