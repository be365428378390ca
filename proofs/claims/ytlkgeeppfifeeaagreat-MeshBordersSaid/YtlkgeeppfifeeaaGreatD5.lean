/- Walks of the program, with their plain functions: sweep, settle, Build. -/
import Derived.Test.YtlkgeeppfifeeaaGreatD4
namespace Go.Proofs.YtlkgeeppfifeeaaGreat
open Go Go.RowKit
theorem fld69_2 : FieldOf Tryz.prog 69 2 2 := .mk Tryz.underlying69 rfl rfl (show Tryz.prog.info? 67 = some Tryz.t67 from by kernel_rfl) (show Tryz.t67.size = 1 from by kernel_rfl) rfl
theorem one67 : OneOf Tryz.prog 67 := .mk Tryz.underlying67 rfl (show Tryz.prog.info? 67 = some Tryz.t67 from by kernel_rfl) (by kernel_rfl)
theorem bls23_4_0ai64i641ai64i642ai64i643ai64i64 (x0 : Int) (x1 : Int) (x2 : Int) (x3 : Int) (x4 : Int) (x5 : Int) (x6 : Int) (x7 : Int) : BuildSliceOf Tryz.prog 23 4 [(0, .agg #[.int .i64 x0, .int .i64 x1]), (1, .agg #[.int .i64 x2, .int .i64 x3]), (2, .agg #[.int .i64 x4, .int .i64 x5]), (3, .agg #[.int .i64 x6, .int .i64 x7])] 48 [.int .i64 x0, .int .i64 x1, .int .i64 x2, .int .i64 x3, .int .i64 x4, .int .i64 x5, .int .i64 x6, .int .i64 x7] := fun w => by kernel_rfl
theorem bls22_0_  : BuildSliceOf Tryz.prog 22 0 [] 43 [] := fun w => by kernel_rfl
theorem elm22 : ElemOf Tryz.prog 22 43 4 32 := ⟨Tryz.underlying22, ⟨Tryz.t43, .agg #[.int .i64 (0), .int .i64 (0), .int .i64 (0), .int .i64 (0)], by kernel_rfl, by kernel_rfl, by kernel_rfl, by kernel_rfl, rfl⟩, by decide⟩
theorem zer32 : ZeroOf Tryz.prog 32 [.slice (none) (0) (0), .slice (none) (0) (0), .slice (none) (0) (0)] := ⟨_, Tryz.zeroValue32, rfl⟩
theorem bld32_  : BuildOf Tryz.prog 32 [] [.slice (none) (0) (0), .slice (none) (0) (0), .slice (none) (0) (0)] := fun w => by kernel_rfl
theorem agg32 : AggOf Tryz.prog 32 3 := .mk Tryz.underlying32 rfl (show Tryz.prog.info? 32 = some Tryz.t32 from by kernel_rfl) (by kernel_rfl)
theorem bld69_0s1m2m (x0 : Option Addr) (x1 : Nat) (x2 : Nat) (x3 : Nat) (x4 : Nat) : BuildOf Tryz.prog 69 [(0, .slice x0 x1 x2), (1, .map (some x3)), (2, .map (some x4))] [.slice x0 x1 x2, .map (some x3), .map (some x4)] := fun w => by kernel_rfl
theorem bld32_0s1s2s (x0 : Option Addr) (x1 : Nat) (x2 : Nat) (x3 : Option Addr) (x4 : Nat) (x5 : Nat) (x6 : Option Addr) (x7 : Nat) (x8 : Nat) : BuildOf Tryz.prog 32 [(0, .slice x0 x1 x2), (1, .slice x3 x4 x5), (2, .slice x6 x7 x8)] [.slice x0 x1 x2, .slice x3 x4 x5, .slice x6 x7 x8] := fun w => by kernel_rfl
noncomputable def mesh_builder_sweep_l1 (p1 : List Int) (p0 : S_mesh_builder) : Int → Option (Sum Int Int) := fun s52 =>
 jn (fun (s6 : Bool) =>
 if s6 = true then (some (.inl (w64 (s52 + 1))))
 else (some (.inr s52)))
 (fun j6 => if s52 < ((((p1).length : Nat) : Int)) then (bnd (idx p1 0) fun x55 =>
 bnd (idx p1 1) fun x65 =>
 bnd (idx p1 s52) fun x75 =>
 bnd (mesh_builder_p p0 x55) fun r85 =>
 bnd (mesh_builder_p p0 x65) fun r88 =>
 bnd (mesh_builder_p p0 x75) fun r91 =>
 bnd (mesh_turn r85 r88 r91) fun r94 =>
 j6 (decide (r94 = 0)))
 else (j6 false))
noncomputable def mesh_builder_sweep_l5 (s2 : Int) (p1 : List Int) : ((List S_api_Vertex) × (List (S_arr2_int × Int)) × (List (S_arr2_int × Bool)) × Int) → Option (Sum ((List S_api_Vertex) × (List (S_arr2_int × Int)) × (List (S_arr2_int × Bool)) × Int) ((List S_api_Vertex) × (List (S_arr2_int × Int)) × (List (S_arr2_int × Bool)))) := fun s235 =>
 if (w64 (s235.2.2.2 + 1)) < s2 then (jn (fun (s17 : (List S_api_Vertex) × (List (S_arr2_int × Int)) × (List (S_arr2_int × Bool))) =>
 some (.inl (s17.1, s17.2.1, s17.2.2, w64 (s235.2.2.2 + 1))))
 (fun j17 => bnd (idx p1 s235.2.2.2) fun x240 =>
 bnd (idx p1 (w64 (s235.2.2.2 + 1))) fun x250 =>
 bnd (idx p1 s2) fun x260 =>
 bnd (mesh_builder_p (⟨s235.1, s235.2.1, s235.2.2.1⟩ : S_mesh_builder) x240) fun r270 =>
 bnd (mesh_builder_p (⟨s235.1, s235.2.1, s235.2.2.1⟩ : S_mesh_builder) x250) fun r273 =>
 bnd (mesh_builder_p (⟨s235.1, s235.2.1, s235.2.2.1⟩ : S_mesh_builder) x260) fun r276 =>
 bnd (mesh_turn r270 r273 r276) fun r279 =>
 if 0 < r279 then (bnd (idx p1 s235.2.2.2) fun x284 =>
 bnd (idx p1 (w64 (s235.2.2.2 + 1))) fun x294 =>
 bnd (idx p1 s2) fun x304 =>
 bnd (mesh_builder_put (⟨s235.1, s235.2.1, s235.2.2.1⟩ : S_mesh_builder) x284 x294 x304) fun r314 =>
 j17 (r314.v, r314.apex, r314.fixed))
 else (bnd (idx p1 (w64 (s235.2.2.2 + 1))) fun x322 =>
 bnd (idx p1 s235.2.2.2) fun x332 =>
 bnd (idx p1 s2) fun x342 =>
 bnd (mesh_builder_put (⟨s235.1, s235.2.1, s235.2.2.1⟩ : S_mesh_builder) x322 x332 x342) fun r352 =>
 j17 (r352.v, r352.apex, r352.fixed))))
 else (some (.inr (s235.1, s235.2.1, s235.2.2.1)))
noncomputable def mesh_builder_sweep_l14 (r498 : S_mesh_builder × (List S_arr2_int)) (x488 : Int) : ((List S_api_Vertex) × (List (S_arr2_int × Int)) × (List (S_arr2_int × Bool)) × Int) → Option (Sum ((List S_api_Vertex) × (List (S_arr2_int × Int)) × (List (S_arr2_int × Bool)) × Int) ((List S_api_Vertex) × (List (S_arr2_int × Int)) × (List (S_arr2_int × Bool)))) := fun s549 =>
 if s549.2.2.2 < ((((r498.2).length : Nat) : Int)) then (jn (fun (s47 : (List S_api_Vertex) × (List (S_arr2_int × Int)) × (List (S_arr2_int × Bool))) =>
 some (.inl (s47.1, s47.2.1, s47.2.2, w64 (s549.2.2.2 + 1))))
 (fun j47 => bnd (idx r498.2 s549.2.2.2) fun x554 =>
 bnd (mesh_builder_p (⟨s549.1, s549.2.1, s549.2.2.1⟩ : S_mesh_builder) x554.a0) fun r566 =>
 bnd (mesh_builder_p (⟨s549.1, s549.2.1, s549.2.2.1⟩ : S_mesh_builder) x554.a1) fun r569 =>
 bnd (mesh_builder_p (⟨s549.1, s549.2.1, s549.2.2.1⟩ : S_mesh_builder) x488) fun r572 =>
 bnd (mesh_turn r566 r569 r572) fun r575 =>
 if 0 < r575 then (bnd (mesh_builder_put (⟨s549.1, s549.2.1, s549.2.2.1⟩ : S_mesh_builder) x554.a0 x554.a1 x488) fun r580 =>
 j47 (r580.v, r580.apex, r580.fixed))
 else (j47 (s549.1, s549.2.1, s549.2.2.1))))
 else (some (.inr (s549.1, s549.2.1, s549.2.2.1)))
noncomputable def mesh_builder_sweep_l11 (p1 : List Int) (s2 : Int) : ((List S_api_Vertex) × (List (S_arr2_int × Int)) × (List (S_arr2_int × Bool)) × (List Int) × Int) → Option (Sum ((List S_api_Vertex) × (List (S_arr2_int × Int)) × (List (S_arr2_int × Bool)) × (List Int) × Int) S_mesh_builder) := fun s481 =>
 if s481.2.2.2.2 < (((((p1).length) - Int.toNat (w64 (s2 + 1)) : Nat) : Int)) then (jn (fun (s37 : (List S_api_Vertex) × (List (S_arr2_int × Int)) × (List (S_arr2_int × Bool))) =>
 some (.inl (s37.1, s37.2.1, s37.2.2, s481.2.2.2.1, w64 (s481.2.2.2.2 + 1))))
 (fun j37 => bnd (idx s481.2.2.2.1 s481.2.2.2.2) fun x488 =>
 bnd (mesh_builder_rim (⟨s481.1, s481.2.1, s481.2.2.1⟩ : S_mesh_builder)) fun r498 =>
 bnd (lfix (mesh_builder_sweep_l14 r498 x488) (r498.1.v, r498.1.apex, r498.1.fixed, 0)) fun t549 =>
 j37 t549))
 else (some (.inr (⟨s481.1, s481.2.1, s481.2.2.1⟩ : S_mesh_builder)))
noncomputable def mesh_builder_sweep (p0 : S_mesh_builder) (p1 : List Int) : Option S_mesh_builder :=
 jn (fun (s2 : Int) =>
 if ((((p1).length : Nat) : Int)) ≤ s2 then (some p0)
 else (jn (fun (s9 : (List S_api_Vertex) × (List (S_arr2_int × Int)) × (List (S_arr2_int × Bool))) =>
 gd (0 ≤ (w64 (s2 + 1)) ∧ (w64 (s2 + 1)) ≤ (((p1).length : Nat) : Int)) <|
 bnd (lfix (mesh_builder_sweep_l11 p1 s2) (s9.1, s9.2.1, s9.2.2, subl p1 (w64 (s2 + 1)) (((p1).length : Nat) : Int), 0)) fun t481 =>
 some t481)
 (fun j9 => bnd (lfix (mesh_builder_sweep_l5 s2 p1) (p0.v, p0.apex, p0.fixed, 0)) fun t235 =>
 j9 t235)))
 (fun j2 => bnd (lfix (mesh_builder_sweep_l1 p1 p0) 2) fun t52 =>
 j2 t52)
noncomputable def mesh_builder_settle_l1  : ((List S_api_Vertex) × (List (S_arr2_int × Int)) × (List (S_arr2_int × Bool)) × (List S_arr2_int)) → Option (Sum ((List S_api_Vertex) × (List (S_arr2_int × Int)) × (List (S_arr2_int × Bool)) × (List S_arr2_int)) S_mesh_builder) := fun s111 =>
 if 0 < ((((s111.2.2.2).length : Nat) : Int)) then (bnd (idx s111.2.2.2 (w64 (((((s111.2.2.2).length : Nat) : Int)) - 1))) fun x116 =>
 gd (0 ≤ (w64 (((((s111.2.2.2).length : Nat) : Int)) - 1)) ∧ (w64 (((((s111.2.2.2).length : Nat) : Int)) - 1)) ≤ (((s111.2.2.2).length : Nat) : Int)) <|
 gd ((-9223372036854775808 ≤ x116.a0 ∧ x116.a0 ≤ 9223372036854775807) ∧ (-9223372036854775808 ≤ x116.a1 ∧ x116.a1 ≤ 9223372036854775807)) <|
 bnd (some ((mget s111.2.1 x116).getD 0)) fun x135 =>
 gd ((-9223372036854775808 ≤ x116.a1 ∧ x116.a1 ≤ 9223372036854775807) ∧ (-9223372036854775808 ≤ x116.a0 ∧ x116.a0 ≤ 9223372036854775807)) <|
 bnd (some ((mget s111.2.1 ((⟨x116.a1, x116.a0⟩ : S_arr2_int))).getD 0)) fun x140 =>
 jn (fun (s18 : (List S_arr2_int) × Bool) =>
 if s18.2 = true then (some (.inl (s111.1, s111.2.1, s111.2.2.1, s18.1)))
 else (bnd (mesh_builder_flip (⟨s111.1, s111.2.1, s111.2.2.1⟩ : S_mesh_builder) x116.a0 x116.a1) fun r185 =>
 if r185.2 = true then (bnd (mesh_pair x116.a0 x135) fun r194 =>
 bnd (mesh_pair x135 x116.a1) fun r197 =>
 bnd (mesh_pair x116.a1 x140) fun r200 =>
 bnd (mesh_pair x140 x116.a0) fun r203 =>
 gd (((s18.1).length + 4) * 16 ≤ 140737488355328) <|
 some (.inl (r185.1.v, r185.1.apex, r185.1.fixed, s18.1 ++ [r194, r197, r200, r203])))
 else (some (.inl (r185.1.v, r185.1.apex, r185.1.fixed, s18.1)))))
 (fun j18 => if ((mget s111.2.1 x116).isSome) = true then (if ((mget s111.2.1 ((⟨x116.a1, x116.a0⟩ : S_arr2_int))).isSome) = true then (gd ((-9223372036854775808 ≤ x116.a0 ∧ x116.a0 ≤ 9223372036854775807) ∧ (-9223372036854775808 ≤ x116.a1 ∧ x116.a1 ≤ 9223372036854775807)) <|
 bnd (some ((mget s111.2.2.1 x116).getD false)) fun x151 =>
 if x151 = true then (j18 (List.take (Int.toNat (w64 (((((s111.2.2.2).length : Nat) : Int)) - 1))) s111.2.2.2, true))
 else (bnd (mesh_builder_p (⟨s111.1, s111.2.1, s111.2.2.1⟩ : S_mesh_builder) x116.a0) fun r157 =>
 bnd (mesh_builder_p (⟨s111.1, s111.2.1, s111.2.2.1⟩ : S_mesh_builder) x116.a1) fun r160 =>
 bnd (mesh_builder_p (⟨s111.1, s111.2.1, s111.2.2.1⟩ : S_mesh_builder) x135) fun r163 =>
 bnd (mesh_builder_p (⟨s111.1, s111.2.1, s111.2.2.1⟩ : S_mesh_builder) x140) fun r166 =>
 bnd (mesh_legal r157 r160 r163 r166) fun r169 =>
 j18 (List.take (Int.toNat (w64 (((((s111.2.2.2).length : Nat) : Int)) - 1))) s111.2.2.2, r169)))
 else (j18 (List.take (Int.toNat (w64 (((((s111.2.2.2).length : Nat) : Int)) - 1))) s111.2.2.2, true)))
 else (j18 (List.take (Int.toNat (w64 (((((s111.2.2.2).length : Nat) : Int)) - 1))) s111.2.2.2, true))))
 else (some (.inr (⟨s111.1, s111.2.1, s111.2.2.1⟩ : S_mesh_builder)))
noncomputable def mesh_builder_settle (p0 : S_mesh_builder) : Option S_mesh_builder :=
 bnd (mesh_builder_sides p0) fun r1 =>
 bnd (lfix (mesh_builder_settle_l1) (r1.1.v, r1.1.apex, r1.1.fixed, r1.2)) fun t111 =>
 some t111
noncomputable def clone_api_Vertex (p0 : List S_api_Vertex) : Option (List S_api_Vertex) := gd (p0.length * 32 ≤ 140737488355328) <| some p0
set_option maxRecDepth 100000 in
theorem clone_api_Vertex_ok (p0 : List S_api_Vertex) {K : List Ent} {A0_0 : Option Addr} {c0_0 : Nat} (ha0 : Has K A0_0 p0.length c0_0 4 e_api_Vertex p0) {r : List S_api_Vertex} (hx : clone_api_Vertex p0 = some r) (w : World) (hK : ∀ e ∈ K, Ent.ok w e) :
    CtL Tryz.prog 36 [.slice A0_0 p0.length c0_0] w (fun v Ln => ∃ (A0 : Option Addr) (c0 : Nat), v = .slice A0 (r).length c0 ∧ Ln = [.r A0 (r).length c0 43 4 ((r).flatMap e_api_Vertex)] ∧ True) := by
  obtain ⟨hb, hx⟩ := gd_some hx
  obtain rfl := Option.some.inj hx
  have ha : Has [.old w] A0_0 p0.length c0_0 4 e_api_Vertex p0 := Has.low (E := []) (by rw [List.append_nil]; exact ha0) hK
  refine CtL.mk 8 Tryz.func36 rfl Tryz.ntmps36 (by kernel_rfl) rfl ?_
  show T 8 _ [(0, .slice A0_0 p0.length c0_0)] _
  refine T_seq ?_
  refine T_reg ?_
  refine T_val (Ev_assign rfl) rfl ?_
  refine T_nil ?_
  refine T_next ?_
  refine T_seq ?_
  refine T_seq ?_
  refine T_reg ?_
  refine T_val (Ev_move rfl) rfl ?_
  refine T_val (Ev_eqlNil Tryz.underlying22 rfl rfl) rfl ?_
  refine T_nil ?_
  refine T_next ?_
  cases hA : A0_0 with
  | none =>
    subst hA
    have h0 : p0 = [] := by
      cases p0 with
      | nil => rfl
      | cons x r => obtain ⟨b, o, h, _⟩ := ha.at_ (by simp); cases h
    subst h0
    refine T_condT rfl ?_
    refine T_seq ?_
    refine T_reg ?_
    refine T_val (Ev_assign rfl) rfl ?_
    refine T_nil ?_
    refine T_next ?_
    refine T_retc ?_
    refine T_outR ?_
    refine T_none 43 4 ?_
    exact T_retP (rs := [.tmp 2]) Tryz.results36 (.tmp rfl .nil) (Ln := [.r none 0 0 43 4 []]) ⟨none, 0, rfl, rfl, trivial⟩ (loCons rfl loNil) (.pick 0 rfl (.pick 0 rfl .refl))
  | some a =>
    subst hA
    refine T_condF rfl ?_
    refine T_skip ?_
    refine T_next ?_
    refine T_seq ?_
    refine T_reg ?_
    refine T_x (Wx_buildSlice rfl (bls22_0_) rfl (fun g5 => ?_))
    refine T_val (Ev_move rfl) rfl ?_
    refine T_mr (enc := e_api_Vertex) (sz := 4) (([] : List S_api_Vertex)) (.here) rfl rfl (fun _ => rfl) (by decide) ?_
    refine T_h (Wh_appendH e_api_Vertex ([] : List S_api_Vertex) p0 rfl rfl elm22 (fun _ => rfl) ha (SubE.cons2 (i := 1) rfl SubE.nil) (fun _ => rfl) (by rw [List.length_nil, Nat.zero_add]; exact hb) rfl (fun _ _ => .here) (by decide) (fun A1 c1 => ?_))
    refine T_val (Ev_assign rfl) rfl ?_
    refine T_nil ?_
    refine T_next ?_
    refine T_retc ?_
    exact T_retP (rs := [.tmp 2]) Tryz.results36 (.tmp rfl .nil) (Ln := [.r A1 p0.length c1 43 4 (p0.flatMap e_api_Vertex)]) ⟨A1, c1, rfl, rfl, trivial⟩ (loCons rfl loNil) (.pick 0 rfl (.pick 0 rfl .refl))

structure S_api_Mesh where
  V : List S_api_Vertex
  T : List S_arr3_int
  Lines : List S_arr2_int
noncomputable def mesh_Build_l12 (r17 : List S_arr2_int) : Unit → Option (Sum Unit Unit) := fun s55 =>
 if 0 < ((((r17).length : Nat) : Int)) then (bnd (idx r17 0) fun x59 =>
 none)
 else (some (.inr ()))
noncomputable def mesh_Build (p0 : List S_api_Vertex) (p1 : List S_arr2_int) : Option (S_api_Mesh × Int) :=
 bnd (mesh_vertices p0) fun r2 =>
 if r2 = 0 then (bnd (mesh_lineErrors p0 p1) fun r8 =>
 if r8 = 0 then (bnd (mesh_sorted p1) fun r17 =>
 bnd (mesh_ranks p0) fun r22 =>
 bnd (mesh_builder_sweep (⟨p0, ([] : List (S_arr2_int × Int)), ([] : List (S_arr2_int × Bool))⟩ : S_mesh_builder) r22) fun r29 =>
 jn (fun (s13 : (List S_api_Vertex) × (List (S_arr2_int × Int)) × (List (S_arr2_int × Bool))) =>
 bnd (clone_api_Vertex p0) fun r83 =>
 bnd (mesh_builder_triangles (⟨s13.1, s13.2.1, s13.2.2⟩ : S_mesh_builder)) fun r88 =>
 some ((⟨r83, r88.2, r17⟩ : S_api_Mesh), 0))
 (fun j13 => if 0 < (((r29.apex).length : Int)) then (jn (fun (s15 : Unit) =>
 bnd (mesh_builder_settle r29) fun r73 =>
 j13 (r73.v, r73.apex, r73.fixed))
 (fun j15 => bnd (lfix (mesh_Build_l12 r17) ()) fun t55 =>
 j15 t55))
 else (j13 (r29.v, r29.apex, r29.fixed))))
 else (some ((⟨([] : List S_api_Vertex), ([] : List S_arr3_int), ([] : List S_arr2_int)⟩ : S_api_Mesh), r8)))
 else (some ((⟨([] : List S_api_Vertex), ([] : List S_arr3_int), ([] : List S_arr2_int)⟩ : S_api_Mesh), r2))
set_option maxRecDepth 100000 in
theorem mesh_builder_sweep_ok (p0 : S_mesh_builder) (p1 : List Int) {g0_0 : Nat} {gm0_0 : Nat} {gm0_1 : Nat} {K : List Ent} {A0_0 : Option Addr} {c0_0 : Nat} {A0_1 : Option Addr} {c0_1 : Nat} (ha0 : Has K A0_0 (p0.v).length c0_0 4 e_api_Vertex (p0.v)) (ha1 : Has K A0_1 (p1).length c0_1 1 e_i64 (p1)) {r : S_mesh_builder} (hx : mesh_builder_sweep p0 p1 = some r) : CtK Tryz.prog 32 [.pointer (some ⟨g0_0, 0, none⟩), .slice (A0_1) ((p1).length) (c0_1)] K [.m g0_0 69 [.slice (A0_0) ((p0.v).length) (c0_0), .map (some gm0_0), .map (some gm0_1)], mapE2 Tryz.prog 48 v_arr2_int v_i64 gm0_0 (p0.apex), mapE2 Tryz.prog 48 v_arr2_int v_bool gm0_1 (p0.fixed)] fun v Ln => ∃ (A0 : Option Addr) (c0 : Nat), v = .tuple #[] ∧ Ln = [.m g0_0 69 [.slice (A0) ((r.v).length) (c0), .map (some gm0_0), .map (some gm0_1)], mapE2 Tryz.prog 48 v_arr2_int v_i64 gm0_0 (r.apex), mapE2 Tryz.prog 48 v_arr2_int v_bool gm0_1 (r.fixed)] ∧ Has (K ++ []) A0 (r.v).length c0 4 e_api_Vertex (r.v) ∧ True := by
  have ha0' := Has.up0 ha0
  have ha1' := Has.up0 ha1
  refine CtK.mk 135 Tryz.func32 rfl Tryz.ntmps32 (by kernel_rfl) rfl ?_
  intro Lf hKf
  show T 135 _ [(0, .pointer (some ⟨g0_0, 0, none⟩)), (1, .slice (A0_1) ((p1).length) (c0_1))] ([.m g0_0 69 [.slice (A0_0) ((p0.v).length) (c0_0), .map (some gm0_0), .map (some gm0_1)], mapE2 Tryz.prog 48 v_arr2_int v_i64 gm0_0 (p0.apex), mapE2 Tryz.prog 48 v_arr2_int v_bool gm0_1 (p0.fixed)] ++ Lf)
  unfold mesh_builder_sweep at hx
  refine T_seq ?_
  refine T_reg ?_
  refine T_val (Ev_assign rfl) rfl ?_
  refine T_nil ?_
  refine T_next ?_
  obtain ⟨j2, hj2, hx⟩ := jn_some hx
  refine T_cutP (τ := Int) (γ := Unit) (J := j2) (out := r) (fun s2 y2 => [(0, .pointer (some ⟨g0_0, 0, none⟩)), (1, .slice (A0_1) ((p1).length) (c0_1)), (4, .int .i64 (s2))]) (fun s2 y2 => [.m g0_0 69 [.slice (A0_0) ((p0.v).length) (c0_0), .map (some gm0_0), .map (some gm0_1)], mapE2 Tryz.prog 48 v_arr2_int v_i64 gm0_0 (p0.apex), mapE2 Tryz.prog 48 v_arr2_int v_bool gm0_1 (p0.fixed)] ++ Lf) (fun s2 y2 => True) ?_ ?_
  · intro s2 y2 hx103 hG104
    subst hj2
    refine T_seq ?_
    refine T_seq ?_
    refine T_reg ?_
    refine T_val (Ev_move rfl) rfl ?_
    refine T_val (Ev_move rfl) rfl ?_
    refine T_val (Ev_len rfl 3 Tryz.underlying58) rfl ?_
    refine T_val (Ev_geq rfl rfl) rfl ?_
    refine T_nil ?_
    refine T_next ?_
    refine T_caseP (s := 39) rfl (fun h105 => ?_) (fun h105 => ?_)
    · have hx106 := ite_t h105 hx103
      refine T_condT rfl ?_
      refine T_retc ?_
      refine T_outR ?_
      obtain rfl := Option.some.inj hx106
      exact T_retK (rs := []) Tryz.results32 (.nil) (Ln := [.m g0_0 69 [.slice (A0_0) ((p0.v).length) (c0_0), .map (some gm0_0), .map (some gm0_1)], mapE2 Tryz.prog 48 v_arr2_int v_i64 gm0_0 (p0.apex), mapE2 Tryz.prog 48 v_arr2_int v_bool gm0_1 (p0.fixed)]) ⟨A0_0, c0_0, rfl, rfl, Has.len' ha0', trivial⟩ (by exact .pick 0 rfl (.pick 0 rfl (.pick 0 rfl (.refl))))
    · have hx107 := ite_f h105 hx103
      refine T_condF rfl ?_
      refine T_skip ?_
      refine T_next ?_
      obtain ⟨j9, hj9, hx107⟩ := jn_some hx107
      refine T_cutP (τ := (List S_api_Vertex) × (List (S_arr2_int × Int)) × (List (S_arr2_int × Bool))) (γ := (Option Addr) × Nat) (J := j9) (out := r) (fun s9 y9 => [(0, .pointer (some ⟨g0_0, 0, none⟩)), (1, .slice (A0_1) ((p1).length) (c0_1)), (4, .int .i64 (s2))]) (fun s9 y9 => [.m g0_0 69 [.slice (y9.1) ((s9.1).length) (y9.2), .map (some gm0_0), .map (some gm0_1)], mapE2 Tryz.prog 48 v_arr2_int v_i64 gm0_0 (s9.2.1), mapE2 Tryz.prog 48 v_arr2_int v_bool gm0_1 (s9.2.2)] ++ Lf) (fun s9 y9 => Has (K ++ []) (y9.1) ((s9.1).length) (y9.2) 4 e_api_Vertex (s9.1) ∧ True) ?_ ?_
      · intro s9 y9 hx362 hG363
        obtain ⟨hs364, -⟩ := hG363
        subst hj9
        refine T_seq ?_
        refine T_reg ?_
        refine T_val (Ev_move rfl) rfl ?_
        refine T_val (Ev_move rfl) rfl ?_
        refine T_val (Ev_add_w64 rfl rfl) rfl ?_
        obtain ⟨h366, hx367⟩ := gd_some hx362
        have hs365 := Has.subL ha1' h366.1 h366.2
        refine T_val (Ev_subL rfl rfl slc58 h366.1 h366.2) rfl ?_
        refine T_val (Ev_len rfl 3 Tryz.underlying58) rfl ?_
        refine T_val (Ev_move rfl) rfl ?_
        refine T_nil ?_
        refine T_next ?_
        refine T_block ?_
        obtain ⟨t481, hl481, ho481⟩ := bnd_some hx367
        refine T_slot (s := 100) (v' := .slice (slA (A0_1) (c0_1) (Int.toNat (w64 (s2 + 1))) 1) ((subl p1 (w64 (s2 + 1)) (((p1).length : Nat) : Int)).length) (c0_1 - Int.toNat (w64 (s2 + 1)))) rfl (by have hn482 : (((p1).length) - Int.toNat (w64 (s2 + 1))) = (subl p1 (w64 (s2 + 1)) (((p1).length : Nat) : Int)).length := (Has.len hs365).symm; first | (rw [← hn482]; done) | rfl) ?_
        refine T_loopP (σ := (List S_api_Vertex) × (List (S_arr2_int × Int)) × (List (S_arr2_int × Bool)) × (List Int) × Int) (γ := (Option Addr) × Nat × (Option Addr) × Nat) hl481 (fun s481 y481 => [(0, .pointer (some ⟨g0_0, 0, none⟩)), (100, .slice (y481.2.2.1) ((s481.2.2.2.1).length) (y481.2.2.2)), (101, .int .i64 (((((p1).length) - Int.toNat (w64 (s2 + 1)) : Nat) : Int))), (102, .int .i64 (s481.2.2.2.2))]) (fun s481 y481 => [.m g0_0 69 [.slice (y481.1) ((s481.1).length) (y481.2.1), .map (some gm0_0), .map (some gm0_1)], mapE2 Tryz.prog 48 v_arr2_int v_i64 gm0_0 (s481.2.1), mapE2 Tryz.prog 48 v_arr2_int v_bool gm0_1 (s481.2.2.1)] ++ Lf) (fun s481 y481 => Has (K ++ []) (y481.1) ((s481.1).length) (y481.2.1) 4 e_api_Vertex (s481.1) ∧ Has (K ++ []) (y481.2.2.1) ((s481.2.2.2.1).length) (y481.2.2.2) 1 e_i64 (s481.2.2.2.1) ∧ True) (y9.1, y9.2, slA (A0_1) (c0_1) (Int.toNat (w64 (s2 + 1))) 1, c0_1 - Int.toNat (w64 (s2 + 1))) ((by exact ⟨Has.len' hs364, Has.len' hs365, trivial⟩)) (by exact .cons rfl (.cons rfl (.cons rfl (.cons rfl (.nil))))) (by exact .pick 0 rfl (.pick 0 rfl (.pick 0 rfl (.refl)))) ?_
        intro s481 y481 hG481 x481 hx481 ht481
        unfold mesh_builder_sweep_l11 at hx481
        obtain ⟨hs483, hs484, -⟩ := hG481
        refine T_seq ?_
        refine T_reg ?_
        refine T_val (Ev_lss rfl rfl) rfl ?_
        refine T_nil ?_
        refine T_next ?_
        refine T_seq ?_
        refine T_caseP (s := 103) rfl (fun h485 => ?_) (fun h485 => ?_)
        · have hx486 := ite_t h485 hx481
          refine T_condT rfl ?_
          refine T_skip ?_
          refine T_next ?_
          obtain ⟨j37, hj37, hx486⟩ := jn_some hx486
          refine T_cutP (τ := (List S_api_Vertex) × (List (S_arr2_int × Int)) × (List (S_arr2_int × Bool))) (γ := (Option Addr) × Nat) (J := j37) (out := x481) (fun s37 y37 => [(0, .pointer (some ⟨g0_0, 0, none⟩)), (100, .slice (y481.2.2.1) ((s481.2.2.2.1).length) (y481.2.2.2)), (101, .int .i64 (((((p1).length) - Int.toNat (w64 (s2 + 1)) : Nat) : Int))), (102, .int .i64 (s481.2.2.2.2))]) (fun s37 y37 => [.m g0_0 69 [.slice (y37.1) ((s37.1).length) (y37.2), .map (some gm0_0), .map (some gm0_1)], mapE2 Tryz.prog 48 v_arr2_int v_i64 gm0_0 (s37.2.1), mapE2 Tryz.prog 48 v_arr2_int v_bool gm0_1 (s37.2.2)] ++ Lf) (fun s37 y37 => Has (K ++ []) (y37.1) ((s37.1).length) (y37.2) 4 e_api_Vertex (s37.1) ∧ True) ?_ ?_
          · intro s37 y37 hx591 hG592
            obtain ⟨hs593, -⟩ := hG592
            subst hj37
            refine T_reg ?_
            refine T_val (Ev_add_w64 rfl rfl) rfl ?_
            refine T_val (Ev_move rfl) rfl ?_
            refine T_nil ?_
            exact T_roundP (s37.1, s37.2.1, s37.2.2, s481.2.2.2.1, w64 (s481.2.2.2.2 + 1)) (y37.1, y37.2, y481.2.2.1, y481.2.2.2) hx591 ((by exact ⟨Has.len' hs593, Has.len' hs484, trivial⟩)) (by exact .cons rfl (.cons rfl (.cons rfl (.cons rfl (.nil))))) (by exact .pick 0 rfl (.pick 0 rfl (.pick 0 rfl (.refl))))
          · skip
            refine T_block ?_
            refine T_seq ?_
            refine T_reg ?_
            obtain ⟨x488, h489, hx490⟩ := bnd_some hx486
            obtain ⟨b491, o492, j493, hA494, hj495, hl496, hp497⟩ := Has.at_idx hs484 h489
            refine T_val (Ev_index rfl rfl hA494 (j := j493) hj495 hl496 slc58) rfl ?_
            refine T_val (Ev_loadP0 rfl hp497 (SubE.appC (SubE.tail (SubE.tail (SubE.tail (hKf)))) (SubE.nil)) rfl one3) rfl ?_
            refine T_val (Ev_assign rfl) rfl ?_
            refine T_nil ?_
            refine T_next ?_
            refine T_seq ?_
            refine T_reg ?_
            refine T_val (Ev_move rfl) rfl ?_
            obtain ⟨r498, h499, hx500⟩ := bnd_some hx490
            refine T_h (Wh_callK rfl (by exact .pick 0 rfl (.pick 0 rfl (.pick 0 rfl (.refl)))) (by exact (SubE.appC (hKf) (SubE.nil))) (mesh_builder_rim_ok (⟨s481.1, s481.2.1, s481.2.2.1⟩ : S_mesh_builder) (Has.len' hs483) h499 (K := (K ++ []))) rfl ?_)
            rintro _ _ ⟨A501, c502, A503, c504, rfl, rfl, hs505, -⟩
            refine T_app4 ?_
            have hs506 : Has (K ++ []) _ _ _ _ _ _ := Has.assoc hs505
            refine T_val (Ev_len rfl 48 Tryz.underlying23) rfl ?_
            refine T_val (Ev_move rfl) rfl ?_
            refine T_nil ?_
            refine T_next ?_
            refine T_block ?_
            obtain ⟨t549, hl549, ho549⟩ := bnd_some hx500
            refine T_loopP (σ := (List S_api_Vertex) × (List (S_arr2_int × Int)) × (List (S_arr2_int × Bool)) × Int) (γ := (Option Addr) × Nat) hl549 (fun s549 y549 => [(0, .pointer (some ⟨g0_0, 0, none⟩)), (7, .int .i64 (x488)), (100, .slice (y481.2.2.1) ((s481.2.2.2.1).length) (y481.2.2.2)), (101, .int .i64 (((((p1).length) - Int.toNat (w64 (s2 + 1)) : Nat) : Int))), (102, .int .i64 (s481.2.2.2.2)), (107, .slice (A503) ((r498.2).length) (c504)), (108, .int .i64 ((((r498.2).length : Nat) : Int))), (109, .int .i64 (s549.2.2.2))]) (fun s549 y549 => [.m g0_0 69 [.slice (y549.1) ((s549.1).length) (y549.2), .map (some gm0_0), .map (some gm0_1)], mapE2 Tryz.prog 48 v_arr2_int v_i64 gm0_0 (s549.2.1), mapE2 Tryz.prog 48 v_arr2_int v_bool gm0_1 (s549.2.2.1), .r (A503) ((r498.2).length) (c504) 48 2 ((r498.2).flatMap e_arr2_int)] ++ Lf) (fun s549 y549 => Has (K ++ []) (y549.1) ((s549.1).length) (y549.2) 4 e_api_Vertex (s549.1) ∧ True) (A501, c502) ((by exact ⟨Has.len' hs506, trivial⟩)) (by exact .cons rfl (.cons rfl (.cons rfl (.cons rfl (.cons rfl (.cons rfl (.cons rfl (.cons rfl (.nil))))))))) (by exact .pick 0 rfl (.pick 0 rfl (.pick 0 rfl (.pick 0 rfl (.refl))))) ?_
            intro s549 y549 hG549 x549 hx549 ht549
            unfold mesh_builder_sweep_l14 at hx549
            obtain ⟨hs550, -⟩ := hG549
            refine T_seq ?_
            refine T_reg ?_
            refine T_val (Ev_lss rfl rfl) rfl ?_
            refine T_nil ?_
            refine T_next ?_
            refine T_seq ?_
            refine T_caseP (s := 110) rfl (fun h551 => ?_) (fun h551 => ?_)
            · have hx552 := ite_t h551 hx549
              refine T_condT rfl ?_
              refine T_skip ?_
              refine T_next ?_
              obtain ⟨j47, hj47, hx552⟩ := jn_some hx552
              refine T_cutP (τ := (List S_api_Vertex) × (List (S_arr2_int × Int)) × (List (S_arr2_int × Bool))) (γ := (Option Addr) × Nat) (J := j47) (out := x549) (fun s47 y47 => [(0, .pointer (some ⟨g0_0, 0, none⟩)), (7, .int .i64 (x488)), (100, .slice (y481.2.2.1) ((s481.2.2.2.1).length) (y481.2.2.2)), (101, .int .i64 (((((p1).length) - Int.toNat (w64 (s2 + 1)) : Nat) : Int))), (102, .int .i64 (s481.2.2.2.2)), (107, .slice (A503) ((r498.2).length) (c504)), (108, .int .i64 ((((r498.2).length : Nat) : Int))), (109, .int .i64 (s549.2.2.2))]) (fun s47 y47 => [.m g0_0 69 [.slice (y47.1) ((s47.1).length) (y47.2), .map (some gm0_0), .map (some gm0_1)], mapE2 Tryz.prog 48 v_arr2_int v_i64 gm0_0 (s47.2.1), mapE2 Tryz.prog 48 v_arr2_int v_bool gm0_1 (s47.2.2), .r (A503) ((r498.2).length) (c504) 48 2 ((r498.2).flatMap e_arr2_int)] ++ Lf) (fun s47 y47 => Has (K ++ []) (y47.1) ((s47.1).length) (y47.2) 4 e_api_Vertex (s47.1) ∧ True) ?_ ?_
              · intro s47 y47 hx588 hG589
                obtain ⟨hs590, -⟩ := hG589
                subst hj47
                refine T_reg ?_
                refine T_val (Ev_add_w64 rfl rfl) rfl ?_
                refine T_val (Ev_move rfl) rfl ?_
                refine T_nil ?_
                exact T_roundP (s47.1, s47.2.1, s47.2.2, w64 (s549.2.2.2 + 1)) (y47.1, y47.2) hx588 ((by exact ⟨Has.len' hs590, trivial⟩)) (by exact .cons rfl (.cons rfl (.cons rfl (.cons rfl (.cons rfl (.cons rfl (.cons rfl (.cons rfl (.nil))))))))) (by exact .pick 0 rfl (.pick 0 rfl (.pick 0 rfl (.pick 0 rfl (.refl)))))
              · skip
                refine T_block ?_
                refine T_seq ?_
                refine T_reg ?_
                obtain ⟨x554, h555, hx556⟩ := bnd_some hx552
                refine T_idxR (k := 3) rfl (by decide) (fun _ => rfl) h555 (fun b557 j559 hA560 hj561 hl562 hm564 hp563 => ?_)
                refine T_val (Ev_index rfl rfl hA560 (j := j559) hj561 hl562 slc23) rfl ?_
                refine T_val (Ev_loadPK0 rfl hp563 (SubE.cons2 (i := 3) rfl (SubE.nil)) rfl agg48) rfl ?_
                refine T_x (Wx_alloc zer48 rfl (fun g565 => ?_))
                refine T_h (Wh_store rfl rfl rfl (.here) (.put (.put (.done))) rfl (List.cons_ne_nil _ _) agg48.2 ?_)
                refine T_nil ?_
                refine T_next ?_
                refine T_seq ?_
                refine T_draw [0, 0, 1, 2, 0, 0, 1, 2, 0, 0, 2, 2, 0] [[], [], [1], [0, 1, 2], [], [], [5], [0, 1, 2, 3, 4, 5, 6], [], [], [0, 1, 2, 3, 4, 5, 6, 7, 8, 9], [0, 1, 2, 3, 4, 5, 6, 7, 8, 9, 10], [0, 1, 2, 3, 4, 5, 6, 7, 8, 9, 10, 11]] (.q 0 (.q 1 (.q 2 (.q 4 (.q 5 (.q 6 (.q 8 (.q 9 (.e 3 (.e 7 (.e 10 (.e 11 (.q 12 (.done)) (.stop)) (.stop)) (.stop)) (.stop)))))))))) mixed (by kernel_rfl) (by kernel_rfl) ?_
                refine P_p rfl rfl (Ev_move rfl) rfl ?_
                refine P_p rfl rfl (Ev_indexP rfl rfl arr48 (by decide) (by decide) rfl) rfl ?_
                refine P_q rfl rfl (Ev_load1 rfl (i := 0) rfl rfl one3) rfl ?_
                refine P_p rfl rfl (Ev_move rfl) rfl ?_
                refine P_p rfl rfl (Ev_indexP rfl rfl arr48 (by decide) (by decide) rfl) rfl ?_
                refine P_q rfl rfl (Ev_load1 rfl (i := 0) rfl rfl one3) rfl ?_
                refine P_p rfl rfl (Ev_move rfl) rfl ?_
                refine P_p rfl rfl (Ev_move rfl) rfl ?_
                obtain ⟨r566, h567, hx568⟩ := bnd_some hx556
                refine P_x rfl (Wx_callL rfl (fun w1 hw1 => mesh_builder_p_ok (⟨s549.1, s549.2.1, s549.2.2.1⟩ : S_mesh_builder) x554.a0 (Has.len' (Has.up (L := (K ++ [.m g0_0 69 [.slice (y549.1) ((s549.1).length) (y549.2), .map (some gm0_0), .map (some gm0_1)]])) hs550 (SubE.app2 SubE.nil))) (Pt.m0 (List.mem_append_right _ (List.mem_cons_self))) h567 w1 (okAll (K := (K ++ [.m g0_0 69 [.slice (y549.1) ((s549.1).length) (y549.2), .map (some gm0_0), .map (some gm0_1)]])) (by exact (SubE.appC (SubE.tail (SubE.tail (SubE.tail (SubE.tail (SubE.tail (hKf)))))) (SubE.cons2 (i := 1) rfl (SubE.nil)))) hw1)) rfl ?_) ?_
                rotate_left; exact P_stop
                rintro _ _ hlo ⟨rfl, rfl, -⟩
                refine T_app0 ?_
                obtain ⟨r569, h570, hx571⟩ := bnd_some hx568
                refine P_x rfl (Wx_callL rfl (fun w1 hw1 => mesh_builder_p_ok (⟨s549.1, s549.2.1, s549.2.2.1⟩ : S_mesh_builder) x554.a1 (Has.len' (Has.up (L := (K ++ [.m g0_0 69 [.slice (y549.1) ((s549.1).length) (y549.2), .map (some gm0_0), .map (some gm0_1)]])) hs550 (SubE.app2 SubE.nil))) (Pt.m0 (List.mem_append_right _ (List.mem_cons_self))) h570 w1 (okAll (K := (K ++ [.m g0_0 69 [.slice (y549.1) ((s549.1).length) (y549.2), .map (some gm0_0), .map (some gm0_1)]])) (by exact (SubE.appC (SubE.tail (SubE.tail (SubE.tail (SubE.tail (SubE.tail (hKf)))))) (SubE.cons2 (i := 1) rfl (SubE.nil)))) hw1)) rfl ?_) ?_
                rotate_left; exact P_stop
                rintro _ _ hlo ⟨rfl, rfl, -⟩
                refine T_app0 ?_
                obtain ⟨r572, h573, hx574⟩ := bnd_some hx571
                refine P_x rfl (Wx_callL rfl (fun w1 hw1 => mesh_builder_p_ok (⟨s549.1, s549.2.1, s549.2.2.1⟩ : S_mesh_builder) x488 (Has.len' (Has.up (L := (K ++ [.m g0_0 69 [.slice (y549.1) ((s549.1).length) (y549.2), .map (some gm0_0), .map (some gm0_1)]])) hs550 (SubE.app2 SubE.nil))) (Pt.m0 (List.mem_append_right _ (List.mem_cons_self))) h573 w1 (okAll (K := (K ++ [.m g0_0 69 [.slice (y549.1) ((s549.1).length) (y549.2), .map (some gm0_0), .map (some gm0_1)]])) (by exact (SubE.appC (SubE.tail (SubE.tail (SubE.tail (SubE.tail (SubE.tail (hKf)))))) (SubE.cons2 (i := 1) rfl (SubE.nil)))) hw1)) rfl ?_) ?_
                rotate_left; exact P_stop
                rintro _ _ hlo ⟨rfl, rfl, -⟩
                refine T_app0 ?_
                obtain ⟨r575, h576, hx577⟩ := bnd_some hx574
                refine P_x rfl (Wx_callL rfl (fun w1 hw1 => mesh_turn_ok r566 r569 r572  h576 w1) rfl ?_) ?_
                rotate_left; exact P_stop
                rintro _ _ hlo ⟨rfl, rfl, -⟩
                refine T_app0 ?_
                refine P_p rfl rfl (Ev_gtr rfl rfl) rfl ?_
                refine P_done ?_
                refine T_next ?_
                refine T_caseP (s := 125) rfl (fun h578 => ?_) (fun h578 => ?_)
                · have hx579 := ite_t h578 hx577
                  refine T_condT rfl ?_
                  refine T_reg ?_
                  refine T_val (Ev_move rfl) rfl ?_
                  refine T_val (Ev_indexP rfl rfl arr48 (by decide) (by decide) rfl) rfl ?_
                  refine T_val (Ev_load1 rfl (i := 0) rfl rfl one3) rfl ?_
                  refine T_val (Ev_indexP rfl rfl arr48 (by decide) (by decide) rfl) rfl ?_
                  refine T_val (Ev_load1 rfl (i := 0) rfl rfl one3) rfl ?_
                  refine T_val (Ev_move rfl) rfl ?_
                  obtain ⟨r580, h581, hx582⟩ := bnd_some hx579
                  refine T_h (Wh_callK rfl (by exact .pick 1 rfl (.pick 1 rfl (.pick 1 rfl (.refl)))) (by exact (SubE.appC (SubE.tail (SubE.tail (hKf))) (SubE.nil))) (mesh_builder_put_ok (⟨s549.1, s549.2.1, s549.2.2.1⟩ : S_mesh_builder) x554.a0 x554.a1 x488 (Has.len' hs550) h581 (K := (K ++ []))) rfl ?_)
                  rintro _ _ ⟨A583, c584, rfl, rfl, hs585, -⟩
                  refine T_app3 ?_
                  have hs586 : Has (K ++ []) _ _ _ _ _ _ := Has.assoc hs585
                  refine T_nil ?_
                  refine T_inN ?_
                  exact T_metP (r580.v, r580.apex, r580.fixed) (A583, c584) hx582 ((by exact ⟨Has.len' hs586, trivial⟩)) (by exact .cons rfl (.cons rfl (.cons rfl (.cons rfl (.cons rfl (.cons rfl (.cons rfl (.cons rfl (.nil))))))))) (by exact .pick 0 rfl (.pick 0 rfl (.pick 0 rfl (.pick 1 rfl (.drop 0 rfl (.refl))))))
                · have hx587 := ite_f h578 hx577
                  refine T_condF rfl ?_
                  refine T_skip ?_
                  refine T_inN ?_
                  exact T_metP (s549.1, s549.2.1, s549.2.2.1) (y549.1, y549.2) hx587 ((by exact ⟨Has.len' hs550, trivial⟩)) (by exact .cons rfl (.cons rfl (.cons rfl (.cons rfl (.cons rfl (.cons rfl (.cons rfl (.cons rfl (.nil))))))))) (by exact .pick 1 rfl (.pick 1 rfl (.pick 1 rfl (.pick 1 rfl (.drop 0 rfl (.refl))))))
            · have hx553 := ite_f h551 hx549
              refine T_condF rfl ?_
              refine T_exit ?_
              refine T_outX ?_
              obtain rfl := exit_eq ht549 hx553
              refine T_outX ?_
              refine T_here ?_
              refine T_inN ?_
              exact T_metP (s549.1, s549.2.1, s549.2.2.1) (y549.1, y549.2) ho549 ((by exact ⟨Has.len' hs550, trivial⟩)) (by exact .cons rfl (.cons rfl (.cons rfl (.cons rfl (.nil))))) (by exact .pick 0 rfl (.pick 0 rfl (.pick 0 rfl (.drop 0 rfl (.refl)))))
        · have hx487 := ite_f h485 hx481
          refine T_condF rfl ?_
          refine T_exit ?_
          refine T_outX ?_
          obtain rfl := exit_eq ht481 hx487
          refine T_outX ?_
          refine T_here ?_
          obtain rfl := Option.some.inj ho481
          exact T_endK (rs := []) Tryz.results32 (.nil) (Ln := [.m g0_0 69 [.slice (y481.1) ((s481.1).length) (y481.2.1), .map (some gm0_0), .map (some gm0_1)], mapE2 Tryz.prog 48 v_arr2_int v_i64 gm0_0 (s481.2.1), mapE2 Tryz.prog 48 v_arr2_int v_bool gm0_1 (s481.2.2.1)]) ⟨y481.1, y481.2.1, rfl, rfl, Has.len' hs483, trivial⟩ (by exact .pick 0 rfl (.pick 0 rfl (.pick 0 rfl (.refl))))
      · skip
        refine T_seq ?_
        refine T_reg ?_
        refine T_val (Ev_assign rfl) rfl ?_
        refine T_nil ?_
        refine T_next ?_
        refine T_block ?_
        obtain ⟨t235, hl235, ho235⟩ := bnd_some hx107
        refine T_loopP (σ := (List S_api_Vertex) × (List (S_arr2_int × Int)) × (List (S_arr2_int × Bool)) × Int) (γ := (Option Addr) × Nat) hl235 (fun s235 y235 => [(0, .pointer (some ⟨g0_0, 0, none⟩)), (1, .slice (A0_1) ((p1).length) (c0_1)), (4, .int .i64 (s2)), (5, .int .i64 (s235.2.2.2))]) (fun s235 y235 => [.m g0_0 69 [.slice (y235.1) ((s235.1).length) (y235.2), .map (some gm0_0), .map (some gm0_1)], mapE2 Tryz.prog 48 v_arr2_int v_i64 gm0_0 (s235.2.1), mapE2 Tryz.prog 48 v_arr2_int v_bool gm0_1 (s235.2.2.1)] ++ Lf) (fun s235 y235 => Has (K ++ []) (y235.1) ((s235.1).length) (y235.2) 4 e_api_Vertex (s235.1) ∧ True) (A0_0, c0_0) ((by exact ⟨Has.len' ha0', trivial⟩)) (by exact .cons rfl (.cons rfl (.cons rfl (.cons rfl (.nil))))) (by exact .pick 0 rfl (.pick 0 rfl (.pick 0 rfl (.refl)))) ?_
        intro s235 y235 hG235 x235 hx235 ht235
        unfold mesh_builder_sweep_l5 at hx235
        obtain ⟨hs236, -⟩ := hG235
        refine T_seq ?_
        refine T_seq ?_
        refine T_reg ?_
        refine T_val (Ev_move rfl) rfl ?_
        refine T_val (Ev_add_w64 rfl rfl) rfl ?_
        refine T_val (Ev_move rfl) rfl ?_
        refine T_val (Ev_lss rfl rfl) rfl ?_
        refine T_nil ?_
        refine T_next ?_
        refine T_caseP (s := 43) rfl (fun h237 => ?_) (fun h237 => ?_)
        · have hx238 := ite_t h237 hx235
          refine T_condT rfl ?_
          refine T_skip ?_
          refine T_next ?_
          obtain ⟨j17, hj17, hx238⟩ := jn_some hx238
          refine T_cutP (τ := (List S_api_Vertex) × (List (S_arr2_int × Int)) × (List (S_arr2_int × Bool))) (γ := (Option Addr) × Nat) (J := j17) (out := x235) (fun s17 y17 => [(0, .pointer (some ⟨g0_0, 0, none⟩)), (1, .slice (A0_1) ((p1).length) (c0_1)), (4, .int .i64 (s2)), (5, .int .i64 (s235.2.2.2))]) (fun s17 y17 => [.m g0_0 69 [.slice (y17.1) ((s17.1).length) (y17.2), .map (some gm0_0), .map (some gm0_1)], mapE2 Tryz.prog 48 v_arr2_int v_i64 gm0_0 (s17.2.1), mapE2 Tryz.prog 48 v_arr2_int v_bool gm0_1 (s17.2.2)] ++ Lf) (fun s17 y17 => Has (K ++ []) (y17.1) ((s17.1).length) (y17.2) 4 e_api_Vertex (s17.1) ∧ True) ?_ ?_
          · intro s17 y17 hx359 hG360
            obtain ⟨hs361, -⟩ := hG360
            subst hj17
            refine T_reg ?_
            refine T_val (Ev_move rfl) rfl ?_
            refine T_val (Ev_add_w64 rfl rfl) rfl ?_
            refine T_val (Ev_assign rfl) rfl ?_
            refine T_nil ?_
            exact T_roundP (s17.1, s17.2.1, s17.2.2, w64 (s235.2.2.2 + 1)) (y17.1, y17.2) hx359 ((by exact ⟨Has.len' hs361, trivial⟩)) (by exact .cons rfl (.cons rfl (.cons rfl (.cons rfl (.nil))))) (by exact .pick 0 rfl (.pick 0 rfl (.pick 0 rfl (.refl))))
          · skip
            refine T_block ?_
            refine T_seq ?_
            refine T_draw [0, 0, 0, 0, 1, 2, 0, 0, 0, 0, 0, 1, 2, 0, 0, 0, 0, 1, 2, 2, 0] [[], [], [], [1, 2], [1, 2, 3], [0, 1, 2, 3, 4], [], [], [], [8], [7, 8, 9], [7, 8, 9, 10], [0, 1, 2, 3, 4, 5, 6, 7, 8, 9, 10, 11], [], [], [], [14, 15], [14, 15, 16], [0, 1, 2, 3, 4, 5, 6, 7, 8, 9, 10, 11, 12, 13, 14, 15, 16, 17], [0, 1, 2, 3, 4, 5, 6, 7, 8, 9, 10, 11, 12, 13, 14, 15, 16, 17, 18], [0, 1, 2, 3, 4, 5, 6, 7, 8, 9, 10, 11, 12, 13, 14, 15, 16, 17, 18, 19]] (.q 0 (.q 1 (.q 2 (.q 3 (.q 4 (.q 6 (.q 7 (.q 8 (.q 9 (.q 10 (.q 11 (.q 13 (.q 14 (.q 15 (.q 16 (.q 17 (.e 5 (.e 12 (.e 18 (.e 19 (.q 20 (.done)) (.stop)) (.stop)) (.stop)) (.stop)))))))))))))))))) mixed (by kernel_rfl) (by kernel_rfl) ?_
            refine P_p rfl rfl (Ev_move rfl) rfl ?_
            refine P_p rfl rfl (Ev_move rfl) rfl ?_
            refine P_p rfl rfl (Ev_move rfl) rfl ?_
            obtain ⟨x240, h241, hx242⟩ := bnd_some hx238
            obtain ⟨b243, o244, j245, hA246, hj247, hl248, hp249⟩ := Has.at_idx ha1' h241
            refine P_p rfl rfl (Ev_index rfl rfl hA246 (j := j245) hj247 hl248 slc58) rfl ?_
            refine P_q rfl rfl (Ev_loadP0 rfl hp249 (SubE.appC (SubE.tail (SubE.tail (SubE.tail (hKf)))) (SubE.nil)) rfl one3) rfl ?_
            refine P_p rfl rfl (Ev_move rfl) rfl ?_
            refine P_p rfl rfl (Ev_move rfl) rfl ?_
            refine P_p rfl rfl (Ev_move rfl) rfl ?_
            refine P_p rfl rfl (Ev_add_w64 rfl rfl) rfl ?_
            obtain ⟨x250, h251, hx252⟩ := bnd_some hx242
            obtain ⟨b253, o254, j255, hA256, hj257, hl258, hp259⟩ := Has.at_idx ha1' h251
            refine P_p rfl rfl (Ev_index rfl rfl hA256 (j := j255) hj257 hl258 slc58) rfl ?_
            refine P_q rfl rfl (Ev_loadP0 rfl hp259 (SubE.appC (SubE.tail (SubE.tail (SubE.tail (hKf)))) (SubE.nil)) rfl one3) rfl ?_
            refine P_p rfl rfl (Ev_move rfl) rfl ?_
            refine P_p rfl rfl (Ev_move rfl) rfl ?_
            refine P_p rfl rfl (Ev_move rfl) rfl ?_
            obtain ⟨x260, h261, hx262⟩ := bnd_some hx252
            obtain ⟨b263, o264, j265, hA266, hj267, hl268, hp269⟩ := Has.at_idx ha1' h261
            refine P_p rfl rfl (Ev_index rfl rfl hA266 (j := j265) hj267 hl268 slc58) rfl ?_
            refine P_q rfl rfl (Ev_loadP0 rfl hp269 (SubE.appC (SubE.tail (SubE.tail (SubE.tail (hKf)))) (SubE.nil)) rfl one3) rfl ?_
            obtain ⟨r270, h271, hx272⟩ := bnd_some hx262
            refine P_x rfl (Wx_callL rfl (fun w1 hw1 => mesh_builder_p_ok (⟨s235.1, s235.2.1, s235.2.2.1⟩ : S_mesh_builder) x240 (Has.len' (Has.up (L := (K ++ [.m g0_0 69 [.slice (y235.1) ((s235.1).length) (y235.2), .map (some gm0_0), .map (some gm0_1)]])) hs236 (SubE.app2 SubE.nil))) (Pt.m0 (List.mem_append_right _ (List.mem_cons_self))) h271 w1 (okAll (K := (K ++ [.m g0_0 69 [.slice (y235.1) ((s235.1).length) (y235.2), .map (some gm0_0), .map (some gm0_1)]])) (by exact (SubE.appC (SubE.tail (SubE.tail (SubE.tail (hKf)))) (SubE.cons2 (i := 0) rfl (SubE.nil)))) hw1)) rfl ?_) ?_
            rotate_left; exact P_stop
            rintro _ _ hlo ⟨rfl, rfl, -⟩
            refine T_app0 ?_
            obtain ⟨r273, h274, hx275⟩ := bnd_some hx272
            refine P_x rfl (Wx_callL rfl (fun w1 hw1 => mesh_builder_p_ok (⟨s235.1, s235.2.1, s235.2.2.1⟩ : S_mesh_builder) x250 (Has.len' (Has.up (L := (K ++ [.m g0_0 69 [.slice (y235.1) ((s235.1).length) (y235.2), .map (some gm0_0), .map (some gm0_1)]])) hs236 (SubE.app2 SubE.nil))) (Pt.m0 (List.mem_append_right _ (List.mem_cons_self))) h274 w1 (okAll (K := (K ++ [.m g0_0 69 [.slice (y235.1) ((s235.1).length) (y235.2), .map (some gm0_0), .map (some gm0_1)]])) (by exact (SubE.appC (SubE.tail (SubE.tail (SubE.tail (hKf)))) (SubE.cons2 (i := 0) rfl (SubE.nil)))) hw1)) rfl ?_) ?_
            rotate_left; exact P_stop
            rintro _ _ hlo ⟨rfl, rfl, -⟩
            refine T_app0 ?_
            obtain ⟨r276, h277, hx278⟩ := bnd_some hx275
            refine P_x rfl (Wx_callL rfl (fun w1 hw1 => mesh_builder_p_ok (⟨s235.1, s235.2.1, s235.2.2.1⟩ : S_mesh_builder) x260 (Has.len' (Has.up (L := (K ++ [.m g0_0 69 [.slice (y235.1) ((s235.1).length) (y235.2), .map (some gm0_0), .map (some gm0_1)]])) hs236 (SubE.app2 SubE.nil))) (Pt.m0 (List.mem_append_right _ (List.mem_cons_self))) h277 w1 (okAll (K := (K ++ [.m g0_0 69 [.slice (y235.1) ((s235.1).length) (y235.2), .map (some gm0_0), .map (some gm0_1)]])) (by exact (SubE.appC (SubE.tail (SubE.tail (SubE.tail (hKf)))) (SubE.cons2 (i := 0) rfl (SubE.nil)))) hw1)) rfl ?_) ?_
            rotate_left; exact P_stop
            rintro _ _ hlo ⟨rfl, rfl, -⟩
            refine T_app0 ?_
            obtain ⟨r279, h280, hx281⟩ := bnd_some hx278
            refine P_x rfl (Wx_callL rfl (fun w1 hw1 => mesh_turn_ok r270 r273 r276  h280 w1) rfl ?_) ?_
            rotate_left; exact P_stop
            rintro _ _ hlo ⟨rfl, rfl, -⟩
            refine T_app0 ?_
            refine P_p rfl rfl (Ev_gtr rfl rfl) rfl ?_
            refine P_done ?_
            refine T_next ?_
            refine T_caseP (s := 66) rfl (fun h282 => ?_) (fun h282 => ?_)
            · have hx283 := ite_t h282 hx281
              refine T_condT rfl ?_
              refine T_draw [0, 0, 0, 0, 1, 0, 0, 0, 0, 1, 0, 0, 0, 1, 3] [[], [], [], [1, 2], [1, 2, 3], [], [], [6], [5, 6, 7], [5, 6, 7, 8], [], [], [10, 11], [10, 11, 12], [0, 1, 2, 3, 4, 5, 6, 7, 8, 9, 10, 11, 12, 13]] (.q 0 (.q 1 (.q 2 (.q 3 (.q 4 (.q 5 (.q 6 (.q 7 (.q 8 (.q 9 (.q 10 (.q 11 (.q 12 (.q 13 (.e 14 (.done) (.stop)))))))))))))))) mixed (by kernel_rfl) (by kernel_rfl) ?_
              refine P_p rfl rfl (Ev_move rfl) rfl ?_
              refine P_p rfl rfl (Ev_move rfl) rfl ?_
              refine P_p rfl rfl (Ev_move rfl) rfl ?_
              obtain ⟨x284, h285, hx286⟩ := bnd_some hx283
              obtain ⟨b287, o288, j289, hA290, hj291, hl292, hp293⟩ := Has.at_idx ha1' h285
              refine P_p rfl rfl (Ev_index rfl rfl hA290 (j := j289) hj291 hl292 slc58) rfl ?_
              refine P_q rfl rfl (Ev_loadP0 rfl hp293 (SubE.appC (SubE.tail (SubE.tail (SubE.tail (hKf)))) (SubE.nil)) rfl one3) rfl ?_
              refine P_p rfl rfl (Ev_move rfl) rfl ?_
              refine P_p rfl rfl (Ev_move rfl) rfl ?_
              refine P_p rfl rfl (Ev_add_w64 rfl rfl) rfl ?_
              obtain ⟨x294, h295, hx296⟩ := bnd_some hx286
              obtain ⟨b297, o298, j299, hA300, hj301, hl302, hp303⟩ := Has.at_idx ha1' h295
              refine P_p rfl rfl (Ev_index rfl rfl hA300 (j := j299) hj301 hl302 slc58) rfl ?_
              refine P_q rfl rfl (Ev_loadP0 rfl hp303 (SubE.appC (SubE.tail (SubE.tail (SubE.tail (hKf)))) (SubE.nil)) rfl one3) rfl ?_
              refine P_p rfl rfl (Ev_move rfl) rfl ?_
              refine P_p rfl rfl (Ev_move rfl) rfl ?_
              obtain ⟨x304, h305, hx306⟩ := bnd_some hx296
              obtain ⟨b307, o308, j309, hA310, hj311, hl312, hp313⟩ := Has.at_idx ha1' h305
              refine P_p rfl rfl (Ev_index rfl rfl hA310 (j := j309) hj311 hl312 slc58) rfl ?_
              refine P_q rfl rfl (Ev_loadP0 rfl hp313 (SubE.appC (SubE.tail (SubE.tail (SubE.tail (hKf)))) (SubE.nil)) rfl one3) rfl ?_
              obtain ⟨r314, h315, hx316⟩ := bnd_some hx306
              refine P_h rfl rfl (Wh_callK rfl (by exact .pick 0 rfl (.pick 0 rfl (.pick 0 rfl (.refl)))) (by exact (SubE.appC (hKf) (SubE.nil))) (mesh_builder_put_ok (⟨s235.1, s235.2.1, s235.2.2.1⟩ : S_mesh_builder) x284 x294 x304 (Has.len' hs236) h315 (K := (K ++ []))) rfl ?_) ?_
              rotate_left; exact P_stop
              rintro _ _ ⟨A317, c318, rfl, rfl, hs319, -⟩
              refine T_app3 ?_
              have hs320 : Has (K ++ []) _ _ _ _ _ _ := Has.assoc hs319
              refine P_done ?_
              refine T_inN ?_
              exact T_metP (r314.v, r314.apex, r314.fixed) (A317, c318) hx316 ((by exact ⟨Has.len' hs320, trivial⟩)) (by exact .cons rfl (.cons rfl (.cons rfl (.cons rfl (.nil))))) (by exact .pick 0 rfl (.pick 0 rfl (.pick 0 rfl (.refl))))
            · have hx321 := ite_f h282 hx281
              refine T_condF rfl ?_
              refine T_draw [0, 0, 0, 0, 0, 1, 0, 0, 0, 1, 0, 0, 0, 1, 3] [[], [], [], [2], [1, 2, 3], [1, 2, 3, 4], [], [], [6, 7], [6, 7, 8], [], [], [10, 11], [10, 11, 12], [0, 1, 2, 3, 4, 5, 6, 7, 8, 9, 10, 11, 12, 13]] (.q 0 (.q 1 (.q 2 (.q 3 (.q 4 (.q 5 (.q 6 (.q 7 (.q 8 (.q 9 (.q 10 (.q 11 (.q 12 (.q 13 (.e 14 (.done) (.stop)))))))))))))))) mixed (by kernel_rfl) (by kernel_rfl) ?_
              refine P_p rfl rfl (Ev_move rfl) rfl ?_
              refine P_p rfl rfl (Ev_move rfl) rfl ?_
              refine P_p rfl rfl (Ev_move rfl) rfl ?_
              refine P_p rfl rfl (Ev_add_w64 rfl rfl) rfl ?_
              obtain ⟨x322, h323, hx324⟩ := bnd_some hx321
              obtain ⟨b325, o326, j327, hA328, hj329, hl330, hp331⟩ := Has.at_idx ha1' h323
              refine P_p rfl rfl (Ev_index rfl rfl hA328 (j := j327) hj329 hl330 slc58) rfl ?_
              refine P_q rfl rfl (Ev_loadP0 rfl hp331 (SubE.appC (SubE.tail (SubE.tail (SubE.tail (hKf)))) (SubE.nil)) rfl one3) rfl ?_
              refine P_p rfl rfl (Ev_move rfl) rfl ?_
              refine P_p rfl rfl (Ev_move rfl) rfl ?_
              obtain ⟨x332, h333, hx334⟩ := bnd_some hx324
              obtain ⟨b335, o336, j337, hA338, hj339, hl340, hp341⟩ := Has.at_idx ha1' h333
              refine P_p rfl rfl (Ev_index rfl rfl hA338 (j := j337) hj339 hl340 slc58) rfl ?_
              refine P_q rfl rfl (Ev_loadP0 rfl hp341 (SubE.appC (SubE.tail (SubE.tail (SubE.tail (hKf)))) (SubE.nil)) rfl one3) rfl ?_
              refine P_p rfl rfl (Ev_move rfl) rfl ?_
              refine P_p rfl rfl (Ev_move rfl) rfl ?_
              obtain ⟨x342, h343, hx344⟩ := bnd_some hx334
              obtain ⟨b345, o346, j347, hA348, hj349, hl350, hp351⟩ := Has.at_idx ha1' h343
              refine P_p rfl rfl (Ev_index rfl rfl hA348 (j := j347) hj349 hl350 slc58) rfl ?_
              refine P_q rfl rfl (Ev_loadP0 rfl hp351 (SubE.appC (SubE.tail (SubE.tail (SubE.tail (hKf)))) (SubE.nil)) rfl one3) rfl ?_
              obtain ⟨r352, h353, hx354⟩ := bnd_some hx344
              refine P_h rfl rfl (Wh_callK rfl (by exact .pick 0 rfl (.pick 0 rfl (.pick 0 rfl (.refl)))) (by exact (SubE.appC (hKf) (SubE.nil))) (mesh_builder_put_ok (⟨s235.1, s235.2.1, s235.2.2.1⟩ : S_mesh_builder) x322 x332 x342 (Has.len' hs236) h353 (K := (K ++ []))) rfl ?_) ?_
              rotate_left; exact P_stop
              rintro _ _ ⟨A355, c356, rfl, rfl, hs357, -⟩
              refine T_app3 ?_
              have hs358 : Has (K ++ []) _ _ _ _ _ _ := Has.assoc hs357
              refine P_done ?_
              refine T_inN ?_
              exact T_metP (r352.v, r352.apex, r352.fixed) (A355, c356) hx354 ((by exact ⟨Has.len' hs358, trivial⟩)) (by exact .cons rfl (.cons rfl (.cons rfl (.cons rfl (.nil))))) (by exact .pick 0 rfl (.pick 0 rfl (.pick 0 rfl (.refl))))
        · have hx239 := ite_f h237 hx235
          refine T_condF rfl ?_
          refine T_exit ?_
          refine T_outX ?_
          obtain rfl := exit_eq ht235 hx239
          refine T_outX ?_
          refine T_here ?_
          exact T_metP (s235.1, s235.2.1, s235.2.2.1) (y235.1, y235.2) ho235 ((by exact ⟨Has.len' hs236, trivial⟩)) (by exact .cons rfl (.cons rfl (.cons rfl (.nil)))) (by exact .pick 0 rfl (.pick 0 rfl (.pick 0 rfl (.refl))))
  · skip
    refine T_block ?_
    obtain ⟨t52, hl52, ho52⟩ := bnd_some hx
    refine T_loopP (σ := Int) (γ := Unit) hl52 (fun s52 y52 => [(0, .pointer (some ⟨g0_0, 0, none⟩)), (1, .slice (A0_1) ((p1).length) (c0_1)), (4, .int .i64 (s52))]) (fun s52 y52 => [.m g0_0 69 [.slice (A0_0) ((p0.v).length) (c0_0), .map (some gm0_0), .map (some gm0_1)], mapE2 Tryz.prog 48 v_arr2_int v_i64 gm0_0 (p0.apex), mapE2 Tryz.prog 48 v_arr2_int v_bool gm0_1 (p0.fixed)] ++ Lf) (fun s52 y52 => True) () trivial (by exact .cons rfl (.cons rfl (.cons rfl (.nil)))) (by exact .pick 0 rfl (.pick 0 rfl (.pick 0 rfl (.refl)))) ?_
    intro s52 y52 hG52 x52 hx52 ht52
    unfold mesh_builder_sweep_l1 at hx52
    refine T_seq ?_
    obtain ⟨j6, hj6, hx52⟩ := jn_some hx52
    refine T_cutP (τ := Bool) (γ := Unit) (J := j6) (out := x52) (fun s6 y6 => [(0, .pointer (some ⟨g0_0, 0, none⟩)), (1, .slice (A0_1) ((p1).length) (c0_1)), (4, .int .i64 (s52)), (33, .bool (s6))]) (fun s6 y6 => [.m g0_0 69 [.slice (A0_0) ((p0.v).length) (c0_0), .map (some gm0_0), .map (some gm0_1)], mapE2 Tryz.prog 48 v_arr2_int v_i64 gm0_0 (p0.apex), mapE2 Tryz.prog 48 v_arr2_int v_bool gm0_1 (p0.fixed)] ++ Lf) (fun s6 y6 => True) ?_ ?_
    · intro s6 y6 hx98 hG99
      subst hj6
      refine T_caseB (s := 33) rfl (fun h100 => ?_) (fun h100 => ?_)
      · have hx101 := ite_t h100 hx98
        refine T_condT rfl ?_
        refine T_skip ?_
        refine T_next ?_
        refine T_block ?_
        refine T_reg ?_
        refine T_val (Ev_move rfl) rfl ?_
        refine T_val (Ev_add_w64 rfl rfl) rfl ?_
        refine T_val (Ev_assign rfl) rfl ?_
        refine T_nil ?_
        refine T_inN ?_
        exact T_roundP (w64 (s52 + 1)) () hx101 trivial (by exact .cons rfl (.cons rfl (.cons rfl (.nil)))) (by exact .pick 0 rfl (.pick 0 rfl (.pick 0 rfl (.refl))))
      · have hx102 := ite_bf h100 hx98
        refine T_condF rfl ?_
        refine T_exit ?_
        refine T_outX ?_
        obtain rfl := exit_eq ht52 hx102
        refine T_outX ?_
        refine T_here ?_
        exact T_metP s52 () ho52 trivial (by exact .cons rfl (.cons rfl (.cons rfl (.nil)))) (by exact .pick 0 rfl (.pick 0 rfl (.pick 0 rfl (.refl))))
    · skip
      refine T_draw [0, 0, 0, 0, 0, 0, 0, 0, 1, 2, 0, 0, 0, 1, 2, 0, 0, 0, 0, 1, 2, 2, 0, 0] [[], [], [1], [0, 1, 2], [0, 1, 2, 3], [0, 1, 2, 3, 4], [0, 1, 2, 3, 4], [0, 1, 2, 3, 4, 6], [0, 1, 2, 3, 4, 6, 7], [0, 1, 2, 3, 4, 5, 6, 7, 8], [0, 1, 2, 3, 4], [0, 1, 2, 3, 4], [0, 1, 2, 3, 4, 11], [0, 1, 2, 3, 4, 11, 12], [0, 1, 2, 3, 4, 5, 6, 7, 8, 9, 10, 11, 12, 13], [0, 1, 2, 3, 4], [0, 1, 2, 3, 4], [0, 1, 2, 3, 4], [0, 1, 2, 3, 4, 16, 17], [0, 1, 2, 3, 4, 16, 17, 18], [0, 1, 2, 3, 4, 5, 6, 7, 8, 9, 10, 11, 12, 13, 14, 15, 16, 17, 18, 19], [0, 1, 2, 3, 4, 5, 6, 7, 8, 9, 10, 11, 12, 13, 14, 15, 16, 17, 18, 19, 20], [0, 1, 2, 3, 4, 5, 6, 7, 8, 9, 10, 11, 12, 13, 14, 15, 16, 17, 18, 19, 20, 21], [0, 1, 2, 3, 4, 5, 6, 7, 8, 9, 10, 11, 12, 13, 14, 15, 16, 17, 18, 19, 20, 21, 22]] (.q 0 (.q 1 (.q 2 (.q 3 (.q 4 (.q 5 (.q 6 (.q 7 (.q 8 (.q 10 (.q 11 (.q 12 (.q 13 (.q 15 (.q 16 (.q 17 (.q 18 (.q 19 (.e 9 (.e 14 (.e 20 (.e 21 (.q 22 (.q 23 (.done))) (.stop)) (.stop)) (.stop)) (.stop)))))))))))))))))))) mixed (by kernel_rfl) (by kernel_rfl) ?_
      refine P_p rfl rfl (Ev_move rfl) rfl ?_
      refine P_p rfl rfl (Ev_move rfl) rfl ?_
      refine P_p rfl rfl (Ev_len rfl 3 Tryz.underlying58) rfl ?_
      refine P_p rfl rfl (Ev_lss rfl rfl) rfl ?_
      refine P_p rfl rfl (Ev_move rfl) rfl ?_
      refine T_caseP (s := 14) rfl (fun h53 => ?_) (fun h53 => ?_)
      · have hx54 := ite_t h53 hx52
        refine P_pG rfl rfl rfl rfl rfl (Ev_move rfl) rfl ?_
        refine P_pG rfl rfl rfl rfl rfl (Ev_move rfl) rfl ?_
        obtain ⟨x55, h56, hx57⟩ := bnd_some hx54
        obtain ⟨b58, o59, j60, hA61, hj62, hl63, hp64⟩ := Has.at_idx ha1' h56
        refine P_pG rfl rfl rfl rfl rfl (Ev_index rfl rfl hA61 (j := j60) hj62 hl63 slc58) rfl ?_
        refine P_qG rfl rfl rfl rfl rfl (Ev_loadP0 rfl hp64 (SubE.appC (SubE.tail (SubE.tail (SubE.tail (hKf)))) (SubE.nil)) rfl one3) rfl ?_
        refine P_pG rfl rfl rfl rfl rfl (Ev_move rfl) rfl ?_
        refine P_pG rfl rfl rfl rfl rfl (Ev_move rfl) rfl ?_
        obtain ⟨x65, h66, hx67⟩ := bnd_some hx57
        obtain ⟨b68, o69, j70, hA71, hj72, hl73, hp74⟩ := Has.at_idx ha1' h66
        refine P_pG rfl rfl rfl rfl rfl (Ev_index rfl rfl hA71 (j := j70) hj72 hl73 slc58) rfl ?_
        refine P_qG rfl rfl rfl rfl rfl (Ev_loadP0 rfl hp74 (SubE.appC (SubE.tail (SubE.tail (SubE.tail (hKf)))) (SubE.nil)) rfl one3) rfl ?_
        refine P_pG rfl rfl rfl rfl rfl (Ev_move rfl) rfl ?_
        refine P_pG rfl rfl rfl rfl rfl (Ev_move rfl) rfl ?_
        refine P_pG rfl rfl rfl rfl rfl (Ev_move rfl) rfl ?_
        obtain ⟨x75, h76, hx77⟩ := bnd_some hx67
        obtain ⟨b78, o79, j80, hA81, hj82, hl83, hp84⟩ := Has.at_idx ha1' h76
        refine P_pG rfl rfl rfl rfl rfl (Ev_index rfl rfl hA81 (j := j80) hj82 hl83 slc58) rfl ?_
        refine P_qG rfl rfl rfl rfl rfl (Ev_loadP0 rfl hp84 (SubE.appC (SubE.tail (SubE.tail (SubE.tail (hKf)))) (SubE.nil)) rfl one3) rfl ?_
        obtain ⟨r85, h86, hx87⟩ := bnd_some hx77
        refine P_xG rfl rfl rfl rfl (Wx_callL rfl (fun w1 hw1 => mesh_builder_p_ok p0 x55 (Has.len' (Has.up (L := (K ++ [.m g0_0 69 [.slice (A0_0) ((p0.v).length) (c0_0), .map (some gm0_0), .map (some gm0_1)]])) ha0' (SubE.app2 SubE.nil))) (Pt.m0 (List.mem_append_right _ (List.mem_cons_self))) h86 w1 (okAll (K := (K ++ [.m g0_0 69 [.slice (A0_0) ((p0.v).length) (c0_0), .map (some gm0_0), .map (some gm0_1)]])) (by exact (SubE.appC (SubE.tail (SubE.tail (SubE.tail (hKf)))) (SubE.cons2 (i := 0) rfl (SubE.nil)))) hw1)) rfl ?_) ?_
        rotate_left; exact P_stop
        rintro _ _ hlo ⟨rfl, rfl, -⟩
        refine T_app0 ?_
        obtain ⟨r88, h89, hx90⟩ := bnd_some hx87
        refine P_xG rfl rfl rfl rfl (Wx_callL rfl (fun w1 hw1 => mesh_builder_p_ok p0 x65 (Has.len' (Has.up (L := (K ++ [.m g0_0 69 [.slice (A0_0) ((p0.v).length) (c0_0), .map (some gm0_0), .map (some gm0_1)]])) ha0' (SubE.app2 SubE.nil))) (Pt.m0 (List.mem_append_right _ (List.mem_cons_self))) h89 w1 (okAll (K := (K ++ [.m g0_0 69 [.slice (A0_0) ((p0.v).length) (c0_0), .map (some gm0_0), .map (some gm0_1)]])) (by exact (SubE.appC (SubE.tail (SubE.tail (SubE.tail (hKf)))) (SubE.cons2 (i := 0) rfl (SubE.nil)))) hw1)) rfl ?_) ?_
        rotate_left; exact P_stop
        rintro _ _ hlo ⟨rfl, rfl, -⟩
        refine T_app0 ?_
        obtain ⟨r91, h92, hx93⟩ := bnd_some hx90
        refine P_xG rfl rfl rfl rfl (Wx_callL rfl (fun w1 hw1 => mesh_builder_p_ok p0 x75 (Has.len' (Has.up (L := (K ++ [.m g0_0 69 [.slice (A0_0) ((p0.v).length) (c0_0), .map (some gm0_0), .map (some gm0_1)]])) ha0' (SubE.app2 SubE.nil))) (Pt.m0 (List.mem_append_right _ (List.mem_cons_self))) h92 w1 (okAll (K := (K ++ [.m g0_0 69 [.slice (A0_0) ((p0.v).length) (c0_0), .map (some gm0_0), .map (some gm0_1)]])) (by exact (SubE.appC (SubE.tail (SubE.tail (SubE.tail (hKf)))) (SubE.cons2 (i := 0) rfl (SubE.nil)))) hw1)) rfl ?_) ?_
        rotate_left; exact P_stop
        rintro _ _ hlo ⟨rfl, rfl, -⟩
        refine T_app0 ?_
        obtain ⟨r94, h95, hx96⟩ := bnd_some hx93
        refine P_xG rfl rfl rfl rfl (Wx_callL rfl (fun w1 hw1 => mesh_turn_ok r85 r88 r91  h95 w1) rfl ?_) ?_
        rotate_left; exact P_stop
        rintro _ _ hlo ⟨rfl, rfl, -⟩
        refine T_app0 ?_
        refine P_pG rfl rfl rfl rfl rfl (Ev_eql rfl rfl) rfl ?_
        refine P_p rfl rfl (Ev_pickT rfl rfl) rfl ?_
        refine P_done ?_
        exact T_metP (decide (r94 = 0)) () hx96 trivial (by exact .cons rfl (.cons rfl (.cons rfl (.cons rfl (.nil))))) (by exact .pick 0 rfl (.pick 0 rfl (.pick 0 rfl (.refl))))
      · have hx97 := ite_f h53 hx52
        refine P_skip rfl rfl rfl rfl rfl rfl ?_
        refine P_skip rfl rfl rfl rfl rfl rfl ?_
        refine P_skip rfl rfl rfl rfl rfl rfl ?_
        refine P_skip rfl rfl rfl rfl rfl rfl ?_
        refine P_skip rfl rfl rfl rfl rfl rfl ?_
        refine P_skip rfl rfl rfl rfl rfl rfl ?_
        refine P_skip rfl rfl rfl rfl rfl rfl ?_
        refine P_skip rfl rfl rfl rfl rfl rfl ?_
        refine P_skip rfl rfl rfl rfl rfl rfl ?_
        refine P_skip rfl rfl rfl rfl rfl rfl ?_
        refine P_skip rfl rfl rfl rfl rfl rfl ?_
        refine P_skip rfl rfl rfl rfl rfl rfl ?_
        refine P_skip rfl rfl rfl rfl rfl rfl ?_
        refine P_skipE rfl rfl rfl rfl rfl rfl ?_ ?_
        rotate_left; exact P_stop
        refine P_skipE rfl rfl rfl rfl rfl rfl ?_ ?_
        rotate_left; exact P_stop
        refine P_skipE rfl rfl rfl rfl rfl rfl ?_ ?_
        rotate_left; exact P_stop
        refine P_skipE rfl rfl rfl rfl rfl rfl ?_ ?_
        rotate_left; exact P_stop
        refine P_skip rfl rfl rfl rfl rfl rfl ?_
        refine P_p rfl rfl (Ev_pickF rfl rfl) rfl ?_
        refine P_done ?_
        exact T_metP false () hx97 trivial (by exact .cons rfl (.cons rfl (.cons rfl (.cons rfl (.nil))))) (by exact .pick 0 rfl (.pick 0 rfl (.pick 0 rfl (.refl))))
set_option maxRecDepth 100000 in
theorem mesh_builder_settle_ok (p0 : S_mesh_builder) {g0_0 : Nat} {gm0_0 : Nat} {gm0_1 : Nat} {K : List Ent} {A0_0 : Option Addr} {c0_0 : Nat} (ha0 : Has K A0_0 (p0.v).length c0_0 4 e_api_Vertex (p0.v)) {r : S_mesh_builder} (hx : mesh_builder_settle p0 = some r) : CtK Tryz.prog 35 [.pointer (some ⟨g0_0, 0, none⟩)] K [.m g0_0 69 [.slice (A0_0) ((p0.v).length) (c0_0), .map (some gm0_0), .map (some gm0_1)], mapE2 Tryz.prog 48 v_arr2_int v_i64 gm0_0 (p0.apex), mapE2 Tryz.prog 48 v_arr2_int v_bool gm0_1 (p0.fixed)] fun v Ln => ∃ (A0 : Option Addr) (c0 : Nat), v = .tuple #[] ∧ Ln = [.m g0_0 69 [.slice (A0) ((r.v).length) (c0), .map (some gm0_0), .map (some gm0_1)], mapE2 Tryz.prog 48 v_arr2_int v_i64 gm0_0 (r.apex), mapE2 Tryz.prog 48 v_arr2_int v_bool gm0_1 (r.fixed)] ∧ Has (K ++ []) A0 (r.v).length c0 4 e_api_Vertex (r.v) ∧ True := by
  have ha0' := Has.up0 ha0
  refine CtK.mk 102 Tryz.func35 rfl Tryz.ntmps35 (by kernel_rfl) rfl ?_
  intro Lf hKf
  show T 102 _ [(0, .pointer (some ⟨g0_0, 0, none⟩))] ([.m g0_0 69 [.slice (A0_0) ((p0.v).length) (c0_0), .map (some gm0_0), .map (some gm0_1)], mapE2 Tryz.prog 48 v_arr2_int v_i64 gm0_0 (p0.apex), mapE2 Tryz.prog 48 v_arr2_int v_bool gm0_1 (p0.fixed)] ++ Lf)
  unfold mesh_builder_settle at hx
  refine T_seq ?_
  refine T_reg ?_
  refine T_val (Ev_move rfl) rfl ?_
  obtain ⟨r1, h2, hx3⟩ := bnd_some hx
  refine T_h (Wh_callK rfl (by exact .pick 0 rfl (.pick 0 rfl (.pick 0 rfl (.refl)))) (by exact (SubE.appC (hKf) (SubE.nil))) (mesh_builder_sides_ok p0 (Has.len' ha0') h2 (K := (K ++ []))) rfl ?_)
  rintro _ _ ⟨A4, c5, A6, c7, rfl, rfl, hs8, -⟩
  refine T_app4 ?_
  have hs9 : Has (K ++ []) _ _ _ _ _ _ := Has.assoc hs8
  refine T_val (Ev_assign rfl) rfl ?_
  refine T_nil ?_
  refine T_next ?_
  refine T_block ?_
  obtain ⟨t111, hl111, ho111⟩ := bnd_some hx3
  refine T_loopP (σ := (List S_api_Vertex) × (List (S_arr2_int × Int)) × (List (S_arr2_int × Bool)) × (List S_arr2_int)) (γ := (Option Addr) × Nat × (Option Addr) × Nat) hl111 (fun s111 y111 => [(0, .pointer (some ⟨g0_0, 0, none⟩)), (2, .slice (y111.2.2.1) ((s111.2.2.2).length) (y111.2.2.2))]) (fun s111 y111 => [.m g0_0 69 [.slice (y111.1) ((s111.1).length) (y111.2.1), .map (some gm0_0), .map (some gm0_1)], mapE2 Tryz.prog 48 v_arr2_int v_i64 gm0_0 (s111.2.1), mapE2 Tryz.prog 48 v_arr2_int v_bool gm0_1 (s111.2.2.1), .r (y111.2.2.1) ((s111.2.2.2).length) (y111.2.2.2) 48 2 ((s111.2.2.2).flatMap e_arr2_int)] ++ Lf) (fun s111 y111 => Has (K ++ []) (y111.1) ((s111.1).length) (y111.2.1) 4 e_api_Vertex (s111.1) ∧ True) (A4, c5, A6, c7) ((by exact ⟨Has.len' hs9, trivial⟩)) (by exact .cons rfl (.cons rfl (.nil))) (by exact .pick 0 rfl (.pick 0 rfl (.pick 0 rfl (.pick 0 rfl (.refl))))) ?_
  intro s111 y111 hG111 x111 hx111 ht111
  unfold mesh_builder_settle_l1 at hx111
  obtain ⟨hs112, -⟩ := hG111
  refine T_seq ?_
  refine T_seq ?_
  refine T_reg ?_
  refine T_val (Ev_move rfl) rfl ?_
  refine T_val (Ev_len rfl 48 Tryz.underlying23) rfl ?_
  refine T_val (Ev_gtr rfl rfl) rfl ?_
  refine T_nil ?_
  refine T_next ?_
  refine T_caseP (s := 12) rfl (fun h113 => ?_) (fun h113 => ?_)
  · have hx114 := ite_t h113 hx111
    refine T_condT rfl ?_
    refine T_skip ?_
    refine T_next ?_
    refine T_block ?_
    refine T_seq ?_
    refine T_reg ?_
    refine T_val (Ev_move rfl) rfl ?_
    refine T_val (Ev_move rfl) rfl ?_
    refine T_val (Ev_len rfl 48 Tryz.underlying23) rfl ?_
    refine T_val (Ev_sub_w64 rfl rfl) rfl ?_
    obtain ⟨x116, h117, hx118⟩ := bnd_some hx114
    refine T_idxR (k := 3) rfl (by decide) (fun _ => rfl) h117 (fun b119 j121 hA122 hj123 hl124 hm126 hp125 => ?_)
    refine T_val (Ev_index rfl rfl hA122 (j := j121) hj123 hl124 slc23) rfl ?_
    refine T_val (Ev_loadPK0 rfl hp125 (SubE.cons2 (i := 3) rfl (SubE.nil)) rfl agg48) rfl ?_
    refine T_x (Wx_alloc zer48 rfl (fun g127 => ?_))
    refine T_h (Wh_store rfl rfl rfl (.here) (.put (.put (.done))) rfl (List.cons_ne_nil _ _) agg48.2 ?_)
    refine T_nil ?_
    refine T_next ?_
    refine T_seq ?_
    refine T_reg ?_
    refine T_val (Ev_move rfl) rfl ?_
    refine T_val (Ev_move rfl) rfl ?_
    refine T_val (Ev_len rfl 48 Tryz.underlying23) rfl ?_
    refine T_val (Ev_sub_w64 rfl rfl) rfl ?_
    refine T_rowP (k := 4) rfl (by decide) (fun _ => rfl) (fun hn128 hs129 => ?_)
    obtain ⟨h131, hx132⟩ := gd_some hx118
    have hs130 := Has.subH hs129 h131.1 h131.2
    refine T_val (Ev_subH rfl rfl slc23 h131.1 (by have := Has.nc hs129; omega)) rfl ?_
    refine T_val (Ev_assign rfl) rfl ?_
    refine T_nil ?_
    refine T_next ?_
    refine T_seq ?_
    refine T_draw [0, 0, 0, 1, 1, 1, 0, 0, 0, 2, 2] [[], [0], [0, 1], [0, 1, 2], [], [0, 1, 2, 3, 4], [0, 1, 2, 3, 4, 5], [0, 1, 2, 3, 4, 5, 6], [0, 1, 2, 3, 4, 5, 6], [0, 1, 2, 3, 4, 5, 6, 7], [0, 1, 2, 3, 4, 5, 6, 7, 8, 9]] (.q 0 (.q 1 (.q 2 (.q 3 (.q 4 (.q 5 (.q 6 (.q 7 (.q 8 (.e 9 (.e 10 (.done) (.stop)) (.stop))))))))))) mixed (by kernel_rfl) (by kernel_rfl) ?_
    refine P_p rfl rfl (Ev_move rfl) rfl ?_
    refine P_p rfl rfl (Ev_nilCheck rfl) rfl ?_
    refine P_p rfl rfl (Ev_field rfl fld69_1 rfl) rfl ?_
    refine P_q rfl rfl (Ev_load1 rfl (i := 1) rfl rfl one66) rfl ?_
    refine P_q rfl rfl (Ev_loadK rfl (i := 0) rfl rfl agg48) rfl ?_
    obtain ⟨h133, hx134⟩ := gd_some hx132
    obtain ⟨x135, h136, hx137⟩ := bnd_some hx134
    refine P_q rfl rfl (Ev_look2Ok (x := x116) (i := 2) (vv := .int .i64 (x135)) key48 Tryz.underlying66 (fun w => by kernel_rfl) v_arr2_int_inj rfl rfl rfl rfl holds_mapE2 (isk48 x116 h133) h136 rfl) rfl ?_
    refine P_p rfl rfl (Ev_move rfl) rfl ?_
    refine P_p rfl rfl (Ev_extract rfl rfl) rfl ?_
    refine P_p rfl rfl (Ev_extract rfl rfl) rfl ?_
    refine P_x rfl (Wx_val (Ev_assign rfl) rfl ?_) ?_
    rotate_left; exact P_stop
    refine P_x rfl (Wx_val (Ev_assign rfl) rfl ?_) ?_
    rotate_left; exact P_stop
    refine P_done ?_
    refine T_next ?_
    refine T_seq ?_
    refine T_draw [0, 0, 0, 1, 0, 1, 0, 1, 0, 1, 0, 0, 0, 2, 2] [[], [0], [0, 1], [0, 1, 2], [], [4], [], [6], [4, 5, 6, 7], [0, 1, 2, 3, 4, 5, 6, 7, 8], [0, 1, 2, 3, 4, 5, 6, 7, 8, 9], [0, 1, 2, 3, 4, 5, 6, 7, 8, 9, 10], [0, 1, 2, 3, 4, 5, 6, 7, 8, 9, 10], [0, 1, 2, 3, 4, 5, 6, 7, 8, 9, 10, 11], [0, 1, 2, 3, 4, 5, 6, 7, 8, 9, 10, 11, 12, 13]] (.q 0 (.q 1 (.q 2 (.q 3 (.q 4 (.q 5 (.q 6 (.q 7 (.q 8 (.q 9 (.q 10 (.q 11 (.q 12 (.e 13 (.e 14 (.done) (.stop)) (.stop))))))))))))))) mixed (by kernel_rfl) (by kernel_rfl) ?_
    refine P_p rfl rfl (Ev_move rfl) rfl ?_
    refine P_p rfl rfl (Ev_nilCheck rfl) rfl ?_
    refine P_p rfl rfl (Ev_field rfl fld69_1 rfl) rfl ?_
    refine P_q rfl rfl (Ev_load1 rfl (i := 1) rfl rfl one66) rfl ?_
    refine P_p rfl rfl (Ev_indexP rfl rfl arr48 (by decide) (by decide) rfl) rfl ?_
    refine P_q rfl rfl (Ev_load1 rfl (i := 0) rfl rfl one3) rfl ?_
    refine P_p rfl rfl (Ev_indexP rfl rfl arr48 (by decide) (by decide) rfl) rfl ?_
    refine P_q rfl rfl (Ev_load1 rfl (i := 0) rfl rfl one3) rfl ?_
    refine P_p rfl rfl (Ev_build rfl (bld48_0i641i64 _ _)) rfl ?_
    obtain ⟨h138, hx139⟩ := gd_some hx137
    obtain ⟨x140, h141, hx142⟩ := bnd_some hx139
    refine P_q rfl rfl (Ev_look2Ok (x := (⟨x116.a1, x116.a0⟩ : S_arr2_int)) (i := 2) (vv := .int .i64 (x140)) key48 Tryz.underlying66 (fun w => by kernel_rfl) v_arr2_int_inj rfl rfl rfl rfl holds_mapE2 (isk48 ((⟨x116.a1, x116.a0⟩ : S_arr2_int)) h138) h141 rfl) rfl ?_
    refine P_p rfl rfl (Ev_move rfl) rfl ?_
    refine P_p rfl rfl (Ev_extract rfl rfl) rfl ?_
    refine P_p rfl rfl (Ev_extract rfl rfl) rfl ?_
    refine P_x rfl (Wx_val (Ev_assign rfl) rfl ?_) ?_
    rotate_left; exact P_stop
    refine P_x rfl (Wx_val (Ev_assign rfl) rfl ?_) ?_
    rotate_left; exact P_stop
    refine P_done ?_
    refine T_next ?_
    refine T_seq ?_
    obtain ⟨j18, hj18, hx142⟩ := jn_some hx142
    refine T_cutP (τ := (List S_arr2_int) × Bool) (γ := (Option Addr) × Nat) (J := j18) (out := x111) (fun s18 y18 => [(0, .pointer (some ⟨g0_0, 0, none⟩)), (2, .slice (y18.1) ((s18.1).length) (y18.2)), (3, .pointer (some ⟨g127, 0, none⟩)), (4, .int .i64 (x135)), (6, .int .i64 (x140)), (76, .bool (s18.2))]) (fun s18 y18 => [.r (y18.1) ((s18.1).length) (y18.2) 48 2 ((s18.1).flatMap e_arr2_int), .m g127 48 [.int .i64 (x116.a0), .int .i64 (x116.a1)], .m g0_0 69 [.slice (y111.1) ((s111.1).length) (y111.2.1), .map (some gm0_0), .map (some gm0_1)], mapE2 Tryz.prog 48 v_arr2_int v_i64 gm0_0 (s111.2.1), mapE2 Tryz.prog 48 v_arr2_int v_bool gm0_1 (s111.2.2.1)] ++ Lf) (fun s18 y18 => True) ?_ ?_
    · intro s18 y18 hx172 hG173
      subst hj18
      refine T_caseB (s := 76) rfl (fun h174 => ?_) (fun h174 => ?_)
      · have hx175 := ite_t h174 hx172
        refine T_condT rfl ?_
        refine T_exit ?_
        refine T_outX ?_
        refine T_here ?_
        exact T_roundP (s111.1, s111.2.1, s111.2.2.1, s18.1) (y111.1, y111.2.1, y18.1, y18.2) hx175 ((by exact ⟨Has.len' hs112, trivial⟩)) (by exact .cons rfl (.cons rfl (.nil))) (by exact .pick 2 rfl (.pick 2 rfl (.pick 2 rfl (.pick 0 rfl (.drop 0 rfl (.refl))))))
      · have hx176 := ite_bf h174 hx172
        refine T_condF rfl ?_
        refine T_skip ?_
        refine T_next ?_
        refine T_seq ?_
        refine T_reg ?_
        refine T_val (Ev_move rfl) rfl ?_
        refine T_val (Ev_indexP rfl rfl arr48 (by decide) (by decide) rfl) rfl ?_
        refine T_val (Ev_load1 rfl (i := 1) rfl rfl one3) rfl ?_
        refine T_val (Ev_indexP rfl rfl arr48 (by decide) (by decide) rfl) rfl ?_
        refine T_val (Ev_load1 rfl (i := 1) rfl rfl one3) rfl ?_
        obtain ⟨r185, h186, hx187⟩ := bnd_some hx176
        refine T_h (Wh_callK rfl (by exact .pick 2 rfl (.pick 2 rfl (.pick 2 rfl (.refl)))) (by exact (SubE.appC (SubE.tail (SubE.tail (hKf))) (SubE.nil))) (mesh_builder_flip_ok (⟨s111.1, s111.2.1, s111.2.2.1⟩ : S_mesh_builder) x116.a0 x116.a1 (Has.len' hs112) h186 (K := (K ++ []))) rfl ?_)
        rintro _ _ ⟨A188, c189, rfl, rfl, hs190, -⟩
        refine T_app3 ?_
        have hs191 : Has (K ++ []) _ _ _ _ _ _ := Has.assoc hs190
        refine T_nil ?_
        refine T_next ?_
        refine T_caseB (s := 82) rfl (fun h192 => ?_) (fun h192 => ?_)
        · have hx193 := ite_t h192 hx187
          refine T_condT rfl ?_
          refine T_draw [0, 0, 1, 0, 2, 0, 0, 1, 2, 0, 1, 0, 2, 0, 0, 1, 2, 2, 3, 2] [[], [], [1], [], [1, 2, 3], [], [], [6], [1, 2, 3, 4, 5, 6, 7], [], [9], [], [1, 2, 3, 4, 5, 6, 7, 8, 9, 10, 11], [], [], [14], [1, 2, 3, 4, 5, 6, 7, 8, 9, 10, 11, 12, 13, 14, 15], [1, 2, 3, 4, 5, 6, 7, 8, 9, 10, 11, 12, 13, 14, 15, 16], [0, 1, 2, 3, 4, 5, 6, 7, 8, 9, 10, 11, 12, 13, 14, 15, 16, 17], [0, 1, 2, 3, 4, 5, 6, 7, 8, 9, 10, 11, 12, 13, 14, 15, 16, 17, 18]] (.q 0 (.q 1 (.q 2 (.q 3 (.q 5 (.q 6 (.q 7 (.q 9 (.q 10 (.q 11 (.q 13 (.q 14 (.q 15 (.e 4 (.e 8 (.e 12 (.e 16 (.e 17 (.e 18 (.e 19 (.done) (.stop)) (.stop)) (.stop)) (.stop)) (.stop)) (.stop)) (.stop))))))))))))))) mixed (by kernel_rfl) (by kernel_rfl) ?_
          refine P_p rfl rfl (Ev_move rfl) rfl ?_
          refine P_p rfl rfl (Ev_indexP rfl rfl arr48 (by decide) (by decide) rfl) rfl ?_
          refine P_q rfl rfl (Ev_load1 rfl (i := 4) rfl rfl one3) rfl ?_
          refine P_p rfl rfl (Ev_move rfl) rfl ?_
          refine P_p rfl rfl (Ev_move rfl) rfl ?_
          refine P_p rfl rfl (Ev_indexP rfl rfl arr48 (by decide) (by decide) rfl) rfl ?_
          refine P_q rfl rfl (Ev_load1 rfl (i := 4) rfl rfl one3) rfl ?_
          refine P_p rfl rfl (Ev_indexP rfl rfl arr48 (by decide) (by decide) rfl) rfl ?_
          refine P_q rfl rfl (Ev_load1 rfl (i := 4) rfl rfl one3) rfl ?_
          refine P_p rfl rfl (Ev_move rfl) rfl ?_
          refine P_p rfl rfl (Ev_move rfl) rfl ?_
          refine P_p rfl rfl (Ev_indexP rfl rfl arr48 (by decide) (by decide) rfl) rfl ?_
          refine P_q rfl rfl (Ev_load1 rfl (i := 4) rfl rfl one3) rfl ?_
          obtain ⟨r194, h195, hx196⟩ := bnd_some hx193
          refine P_x rfl (Wx_callL rfl (fun w1 hw1 => mesh_pair_ok x116.a0 x135  h195 w1) rfl ?_) ?_
          rotate_left; exact P_stop
          rintro _ _ hlo ⟨rfl, rfl, -⟩
          refine T_app0 ?_
          obtain ⟨r197, h198, hx199⟩ := bnd_some hx196
          refine P_x rfl (Wx_callL rfl (fun w1 hw1 => mesh_pair_ok x135 x116.a1  h198 w1) rfl ?_) ?_
          rotate_left; exact P_stop
          rintro _ _ hlo ⟨rfl, rfl, -⟩
          refine T_app0 ?_
          obtain ⟨r200, h201, hx202⟩ := bnd_some hx199
          refine P_x rfl (Wx_callL rfl (fun w1 hw1 => mesh_pair_ok x116.a1 x140  h201 w1) rfl ?_) ?_
          rotate_left; exact P_stop
          rintro _ _ hlo ⟨rfl, rfl, -⟩
          refine T_app0 ?_
          obtain ⟨r203, h204, hx205⟩ := bnd_some hx202
          refine P_x rfl (Wx_callL rfl (fun w1 hw1 => mesh_pair_ok x140 x116.a0  h204 w1) rfl ?_) ?_
          rotate_left; exact P_stop
          rintro _ _ hlo ⟨rfl, rfl, -⟩
          refine T_app0 ?_
          refine P_x rfl (Wx_buildSlice rfl (bls23_4_0ai64i641ai64i642ai64i643ai64i64 _ _ _ _ _ _ _ _) rfl (fun g206 => ?_)) ?_
          rotate_left; exact P_stop
          obtain ⟨h207, hx208⟩ := gd_some hx205
          refine P_h rfl rfl (Wh_appendP e_arr2_int (s18.1) [r194, r197, r200, r203] rfl rfl rfl elm23 (fun _ => rfl) (i' := 0) rfl rfl rfl rfl h207 rfl (fun _ _ => .there (.there (.there (.there (.here))))) (fun _ _ => .drop .refl) (by decide) (fun A209 c210 => ?_)) ?_
          rotate_left; exact P_stop
          refine P_x rfl (Wx_val (Ev_assign rfl) rfl ?_) ?_
          rotate_left; exact P_stop
          refine P_done ?_
          refine T_inN ?_
          exact T_roundP (r185.1.v, r185.1.apex, r185.1.fixed, s18.1 ++ [r194, r197, r200, r203]) (A188, c189, A209, c210) hx208 ((by exact ⟨Has.len' hs191, trivial⟩)) (by exact .cons rfl (.cons rfl (.nil))) (by exact .pick 0 rfl (.pick 0 rfl (.pick 0 rfl (.pick 0 rfl (.drop 0 rfl (.refl))))))
        · have hx211 := ite_bf h192 hx187
          refine T_condF rfl ?_
          refine T_skip ?_
          refine T_inN ?_
          exact T_roundP (r185.1.v, r185.1.apex, r185.1.fixed, s18.1) (A188, c189, y18.1, y18.2) hx211 ((by exact ⟨Has.len' hs191, trivial⟩)) (by exact .cons rfl (.cons rfl (.nil))) (by exact .pick 0 rfl (.pick 0 rfl (.pick 0 rfl (.pick 0 rfl (.drop 0 rfl (.refl))))))
    · skip
      refine T_draw [0, 0, 0, 0, 0, 0, 0, 0, 0, 0, 1, 1, 1, 0, 0, 0, 0, 1, 2, 0, 0, 1, 2, 0, 0, 2, 0, 0, 2, 2, 0] [[], [0], [0, 1], [0, 1, 2], [0, 1, 2, 3], [0, 1, 2, 3, 4], [0, 1, 2, 3, 4, 5], [0, 1, 2, 3, 4, 5, 6], [0, 1, 2, 3, 4, 5, 6, 7], [0, 1, 2, 3, 4, 5, 6, 7, 8], [0, 1, 2, 3, 4, 5, 6, 7, 8, 9], [0, 1, 2, 3, 4, 5, 6], [0, 1, 2, 3, 4, 5, 6, 7, 8, 9, 10, 11], [0, 1, 2, 3, 4, 5, 6, 7, 8, 9, 10, 11, 12], [0, 1, 2, 3, 4, 5, 6, 7, 8, 9, 10, 11, 12, 13], [0, 1, 2, 3, 4, 5, 6, 7, 8, 9, 10, 11, 12, 13, 14], [0, 1, 2, 3, 4, 5, 6, 7, 8, 9, 10, 11, 12, 13, 14], [0, 1, 2, 3, 4, 5, 6, 7, 8, 9, 10, 11, 12, 13, 14, 16], [0, 1, 2, 3, 4, 5, 6, 7, 8, 9, 10, 11, 12, 13, 14, 15, 16, 17], [0, 1, 2, 3, 4, 5, 6, 7, 8, 9, 10, 11, 12, 13, 14], [0, 1, 2, 3, 4, 5, 6, 7, 8, 9, 10, 11, 12, 13, 14], [0, 1, 2, 3, 4, 5, 6, 7, 8, 9, 10, 11, 12, 13, 14, 20], [0, 1, 2, 3, 4, 5, 6, 7, 8, 9, 10, 11, 12, 13, 14, 15, 16, 17, 18, 19, 20, 21], [0, 1, 2, 3, 4, 5, 6, 7, 8, 9, 10, 11, 12, 13, 14], [0, 1, 2, 3, 4, 5, 6, 7, 8, 9, 10, 11, 12, 13, 14], [0, 1, 2, 3, 4, 5, 6, 7, 8, 9, 10, 11, 12, 13, 14, 15, 16, 17, 18, 19, 20, 21, 22, 23, 24], [0, 1, 2, 3, 4, 5, 6, 7, 8, 9, 10, 11, 12, 13, 14], [0, 1, 2, 3, 4, 5, 6, 7, 8, 9, 10, 11, 12, 13, 14], [0, 1, 2, 3, 4, 5, 6, 7, 8, 9, 10, 11, 12, 13, 14, 15, 16, 17, 18, 19, 20, 21, 22, 23, 24, 25, 26, 27], [0, 1, 2, 3, 4, 5, 6, 7, 8, 9, 10, 11, 12, 13, 14, 15, 16, 17, 18, 19, 20, 21, 22, 23, 24, 25, 26, 27, 28], [0, 1, 2, 3, 4, 5, 6, 7, 8, 9, 10, 11, 12, 13, 14, 15, 16, 17, 18, 19, 20, 21, 22, 23, 24, 25, 26, 27, 28, 29]] (.q 0 (.q 1 (.q 2 (.q 3 (.q 4 (.q 5 (.q 6 (.q 7 (.q 8 (.q 9 (.q 10 (.q 11 (.q 12 (.q 13 (.q 14 (.q 15 (.q 16 (.q 17 (.q 19 (.q 20 (.q 21 (.q 23 (.q 24 (.q 26 (.q 27 (.e 18 (.e 22 (.e 25 (.e 28 (.e 29 (.q 30 (.done)) (.stop)) (.stop)) (.stop)) (.stop)) (.stop))))))))))))))))))))))))))) mixed (by kernel_rfl) (by kernel_rfl) ?_
      refine P_p rfl rfl (Ev_move rfl) rfl ?_
      refine P_p rfl rfl (Ev_not rfl) rfl ?_
      refine P_p rfl rfl (Ev_move rfl) rfl ?_
      refine T_caseNB (s := 48) rfl (fun h143 => ?_) (fun h143 => ?_)
      · have hx144 := ite_bf h143 hx142
        refine P_skip rfl rfl rfl rfl rfl rfl ?_
        refine P_skip rfl rfl rfl rfl rfl rfl ?_
        refine P_p rfl rfl (Ev_pickT rfl rfl) rfl ?_
        refine P_p rfl rfl (Ev_move rfl) rfl ?_
        refine P_skip rfl rfl rfl rfl rfl rfl ?_
        refine P_skip rfl rfl rfl rfl rfl rfl ?_
        refine P_skip rfl rfl rfl rfl rfl rfl ?_
        refine P_skip rfl rfl rfl rfl rfl rfl ?_
        refine P_skip rfl rfl rfl rfl rfl rfl ?_
        refine P_skip rfl rfl rfl rfl rfl rfl ?_
        refine P_p rfl rfl (Ev_pickT rfl rfl) rfl ?_
        refine P_p rfl rfl (Ev_move rfl) rfl ?_
        refine P_skip rfl rfl rfl rfl rfl rfl ?_
        refine P_skip rfl rfl rfl rfl rfl rfl ?_
        refine P_skip rfl rfl rfl rfl rfl rfl ?_
        refine P_skip rfl rfl rfl rfl rfl rfl ?_
        refine P_skip rfl rfl rfl rfl rfl rfl ?_
        refine P_skip rfl rfl rfl rfl rfl rfl ?_
        refine P_skip rfl rfl rfl rfl rfl rfl ?_
        refine P_skip rfl rfl rfl rfl rfl rfl ?_
        refine P_skip rfl rfl rfl rfl rfl rfl ?_
        refine P_skip rfl rfl rfl rfl rfl rfl ?_
        refine P_skipE rfl rfl rfl rfl rfl rfl ?_ ?_
        rotate_left; exact P_stop
        refine P_skipE rfl rfl rfl rfl rfl rfl ?_ ?_
        rotate_left; exact P_stop
        refine P_skipE rfl rfl rfl rfl rfl rfl ?_ ?_
        rotate_left; exact P_stop
        refine P_skipE rfl rfl rfl rfl rfl rfl ?_ ?_
        rotate_left; exact P_stop
        refine P_skipE rfl rfl rfl rfl rfl rfl ?_ ?_
        rotate_left; exact P_stop
        refine P_p rfl rfl (Ev_pickT rfl rfl) rfl ?_
        refine P_done ?_
        refine T_trunc (q := Int.toNat (w64 (((((s111.2.2.2).length : Nat) : Int)) - 1))) (.there (.there (.there (.there (.here))))) (by have := Has.len hs130; simp [subl] at this; omega) (by decide) (fun _ => rfl) ?_
        have hn177 : Int.toNat (w64 (((((s111.2.2.2).length : Nat) : Int)) - 1)) = (List.take (Int.toNat (w64 (((((s111.2.2.2).length : Nat) : Int)) - 1))) s111.2.2.2).length := by simp [setI_len, cpy_len, List.length_append] <;> omega
        refine T_ent (.there (.there (.there (.there (.here))))) (e' := .r (y111.2.2.1) ((List.take (Int.toNat (w64 (((((s111.2.2.2).length : Nat) : Int)) - 1))) s111.2.2.2).length) (y111.2.2.2) 48 2 ((List.take (Int.toNat (w64 (((((s111.2.2.2).length : Nat) : Int)) - 1))) s111.2.2.2).flatMap e_arr2_int)) (by first | (rw [← hn177]; done) | rfl) ?_
        refine T_slot (s := 2) (v' := .slice (y111.2.2.1) ((List.take (Int.toNat (w64 (((((s111.2.2.2).length : Nat) : Int)) - 1))) s111.2.2.2).length) (y111.2.2.2)) rfl (by have hn178 : (Int.toNat (w64 (((((s111.2.2.2).length : Nat) : Int)) - 1))) = (List.take (Int.toNat (w64 (((((s111.2.2.2).length : Nat) : Int)) - 1))) s111.2.2.2).length := (by simp [setI_len, cpy_len, List.length_append] <;> omega); first | (rw [← hn178]; done) | rfl) ?_
        exact T_metP (List.take (Int.toNat (w64 (((((s111.2.2.2).length : Nat) : Int)) - 1))) s111.2.2.2, true) (y111.2.2.1, y111.2.2.2) hx144 trivial (by exact .cons rfl (.cons rfl (.cons rfl (.cons rfl (.cons rfl (.cons rfl (.nil))))))) (by exact .pick 4 rfl (.pick 0 rfl (.pick 0 rfl (.pick 0 rfl (.pick 0 rfl (.refl))))))
      · have hx145 := ite_t h143 hx142
        refine P_pG rfl rfl rfl rfl rfl (Ev_move rfl) rfl ?_
        refine P_pG rfl rfl rfl rfl rfl (Ev_not rfl) rfl ?_
        refine P_p rfl rfl (Ev_pickF rfl rfl) rfl ?_
        refine P_p rfl rfl (Ev_move rfl) rfl ?_
        refine T_caseNB (s := 52) rfl (fun h146 => ?_) (fun h146 => ?_)
        · have hx147 := ite_bf h146 hx145
          refine P_skip rfl rfl rfl rfl rfl rfl ?_
          refine P_skip rfl rfl rfl rfl rfl rfl ?_
          refine P_skip rfl rfl rfl rfl rfl rfl ?_
          refine P_skip rfl rfl rfl rfl rfl rfl ?_
          refine P_skip rfl rfl rfl rfl rfl rfl ?_
          refine P_skip rfl rfl rfl rfl rfl rfl ?_
          refine P_p rfl rfl (Ev_pickT rfl rfl) rfl ?_
          refine P_p rfl rfl (Ev_move rfl) rfl ?_
          refine P_skip rfl rfl rfl rfl rfl rfl ?_
          refine P_skip rfl rfl rfl rfl rfl rfl ?_
          refine P_skip rfl rfl rfl rfl rfl rfl ?_
          refine P_skip rfl rfl rfl rfl rfl rfl ?_
          refine P_skip rfl rfl rfl rfl rfl rfl ?_
          refine P_skip rfl rfl rfl rfl rfl rfl ?_
          refine P_skip rfl rfl rfl rfl rfl rfl ?_
          refine P_skip rfl rfl rfl rfl rfl rfl ?_
          refine P_skip rfl rfl rfl rfl rfl rfl ?_
          refine P_skip rfl rfl rfl rfl rfl rfl ?_
          refine P_skipE rfl rfl rfl rfl rfl rfl ?_ ?_
          rotate_left; exact P_stop
          refine P_skipE rfl rfl rfl rfl rfl rfl ?_ ?_
          rotate_left; exact P_stop
          refine P_skipE rfl rfl rfl rfl rfl rfl ?_ ?_
          rotate_left; exact P_stop
          refine P_skipE rfl rfl rfl rfl rfl rfl ?_ ?_
          rotate_left; exact P_stop
          refine P_skipE rfl rfl rfl rfl rfl rfl ?_ ?_
          rotate_left; exact P_stop
          refine P_p rfl rfl (Ev_pickT rfl rfl) rfl ?_
          refine P_done ?_
          refine T_trunc (q := Int.toNat (w64 (((((s111.2.2.2).length : Nat) : Int)) - 1))) (.there (.there (.there (.there (.here))))) (by have := Has.len hs130; simp [subl] at this; omega) (by decide) (fun _ => rfl) ?_
          have hn179 : Int.toNat (w64 (((((s111.2.2.2).length : Nat) : Int)) - 1)) = (List.take (Int.toNat (w64 (((((s111.2.2.2).length : Nat) : Int)) - 1))) s111.2.2.2).length := by simp [setI_len, cpy_len, List.length_append] <;> omega
          refine T_ent (.there (.there (.there (.there (.here))))) (e' := .r (y111.2.2.1) ((List.take (Int.toNat (w64 (((((s111.2.2.2).length : Nat) : Int)) - 1))) s111.2.2.2).length) (y111.2.2.2) 48 2 ((List.take (Int.toNat (w64 (((((s111.2.2.2).length : Nat) : Int)) - 1))) s111.2.2.2).flatMap e_arr2_int)) (by first | (rw [← hn179]; done) | rfl) ?_
          refine T_slot (s := 2) (v' := .slice (y111.2.2.1) ((List.take (Int.toNat (w64 (((((s111.2.2.2).length : Nat) : Int)) - 1))) s111.2.2.2).length) (y111.2.2.2)) rfl (by have hn180 : (Int.toNat (w64 (((((s111.2.2.2).length : Nat) : Int)) - 1))) = (List.take (Int.toNat (w64 (((((s111.2.2.2).length : Nat) : Int)) - 1))) s111.2.2.2).length := (by simp [setI_len, cpy_len, List.length_append] <;> omega); first | (rw [← hn180]; done) | rfl) ?_
          exact T_metP (List.take (Int.toNat (w64 (((((s111.2.2.2).length : Nat) : Int)) - 1))) s111.2.2.2, true) (y111.2.2.1, y111.2.2.2) hx147 trivial (by exact .cons rfl (.cons rfl (.cons rfl (.cons rfl (.cons rfl (.cons rfl (.nil))))))) (by exact .pick 4 rfl (.pick 0 rfl (.pick 0 rfl (.pick 0 rfl (.pick 0 rfl (.refl))))))
        · have hx148 := ite_t h146 hx145
          refine P_pG rfl rfl rfl rfl rfl (Ev_move rfl) rfl ?_
          refine P_pG rfl rfl rfl rfl rfl (Ev_nilCheck rfl) rfl ?_
          refine P_pG rfl rfl rfl rfl rfl (Ev_field rfl fld69_2 rfl) rfl ?_
          refine P_qG rfl rfl rfl rfl rfl (Ev_load1 rfl (i := 1) rfl rfl one67) rfl ?_
          refine P_qG rfl rfl rfl rfl rfl (Ev_loadK rfl (i := 0) rfl rfl agg48) rfl ?_
          obtain ⟨h149, hx150⟩ := gd_some hx148
          obtain ⟨x151, h152, hx153⟩ := bnd_some hx150
          refine P_qG rfl rfl rfl rfl rfl (Ev_look2 (x := x116) (i := 3) (vv := .bool (x151)) key48 Tryz.underlying67 (fun w => by kernel_rfl) v_arr2_int_inj rfl rfl rfl rfl holds_mapE2 (isk48 x116 h149) h152 rfl) rfl ?_
          refine P_p rfl rfl (Ev_pickF rfl rfl) rfl ?_
          refine P_p rfl rfl (Ev_move rfl) rfl ?_
          refine T_caseB (s := 60) rfl (fun h154 => ?_) (fun h154 => ?_)
          · have hx155 := ite_t h154 hx153
            refine P_skip rfl rfl rfl rfl rfl rfl ?_
            refine P_skip rfl rfl rfl rfl rfl rfl ?_
            refine P_skip rfl rfl rfl rfl rfl rfl ?_
            refine P_skip rfl rfl rfl rfl rfl rfl ?_
            refine P_skip rfl rfl rfl rfl rfl rfl ?_
            refine P_skip rfl rfl rfl rfl rfl rfl ?_
            refine P_skip rfl rfl rfl rfl rfl rfl ?_
            refine P_skip rfl rfl rfl rfl rfl rfl ?_
            refine P_skip rfl rfl rfl rfl rfl rfl ?_
            refine P_skip rfl rfl rfl rfl rfl rfl ?_
            refine P_skipE rfl rfl rfl rfl rfl rfl ?_ ?_
            rotate_left; exact P_stop
            refine P_skipE rfl rfl rfl rfl rfl rfl ?_ ?_
            rotate_left; exact P_stop
            refine P_skipE rfl rfl rfl rfl rfl rfl ?_ ?_
            rotate_left; exact P_stop
            refine P_skipE rfl rfl rfl rfl rfl rfl ?_ ?_
            rotate_left; exact P_stop
            refine P_skipE rfl rfl rfl rfl rfl rfl ?_ ?_
            rotate_left; exact P_stop
            refine P_p rfl rfl (Ev_pickT rfl rfl) rfl ?_
            refine P_done ?_
            refine T_trunc (q := Int.toNat (w64 (((((s111.2.2.2).length : Nat) : Int)) - 1))) (.there (.there (.there (.there (.here))))) (by have := Has.len hs130; simp [subl] at this; omega) (by decide) (fun _ => rfl) ?_
            have hn181 : Int.toNat (w64 (((((s111.2.2.2).length : Nat) : Int)) - 1)) = (List.take (Int.toNat (w64 (((((s111.2.2.2).length : Nat) : Int)) - 1))) s111.2.2.2).length := by simp [setI_len, cpy_len, List.length_append] <;> omega
            refine T_ent (.there (.there (.there (.there (.here))))) (e' := .r (y111.2.2.1) ((List.take (Int.toNat (w64 (((((s111.2.2.2).length : Nat) : Int)) - 1))) s111.2.2.2).length) (y111.2.2.2) 48 2 ((List.take (Int.toNat (w64 (((((s111.2.2.2).length : Nat) : Int)) - 1))) s111.2.2.2).flatMap e_arr2_int)) (by first | (rw [← hn181]; done) | rfl) ?_
            refine T_slot (s := 2) (v' := .slice (y111.2.2.1) ((List.take (Int.toNat (w64 (((((s111.2.2.2).length : Nat) : Int)) - 1))) s111.2.2.2).length) (y111.2.2.2)) rfl (by have hn182 : (Int.toNat (w64 (((((s111.2.2.2).length : Nat) : Int)) - 1))) = (List.take (Int.toNat (w64 (((((s111.2.2.2).length : Nat) : Int)) - 1))) s111.2.2.2).length := (by simp [setI_len, cpy_len, List.length_append] <;> omega); first | (rw [← hn182]; done) | rfl) ?_
            exact T_metP (List.take (Int.toNat (w64 (((((s111.2.2.2).length : Nat) : Int)) - 1))) s111.2.2.2, true) (y111.2.2.1, y111.2.2.2) hx155 trivial (by exact .cons rfl (.cons rfl (.cons rfl (.cons rfl (.cons rfl (.cons rfl (.nil))))))) (by exact .pick 4 rfl (.pick 0 rfl (.pick 0 rfl (.pick 0 rfl (.pick 0 rfl (.refl))))))
          · have hx156 := ite_bf h154 hx153
            refine P_pG rfl rfl rfl rfl rfl (Ev_move rfl) rfl ?_
            refine P_pG rfl rfl rfl rfl rfl (Ev_indexP rfl rfl arr48 (by decide) (by decide) rfl) rfl ?_
            refine P_qG rfl rfl rfl rfl rfl (Ev_load1 rfl (i := 0) rfl rfl one3) rfl ?_
            refine P_pG rfl rfl rfl rfl rfl (Ev_move rfl) rfl ?_
            refine P_pG rfl rfl rfl rfl rfl (Ev_indexP rfl rfl arr48 (by decide) (by decide) rfl) rfl ?_
            refine P_qG rfl rfl rfl rfl rfl (Ev_load1 rfl (i := 0) rfl rfl one3) rfl ?_
            refine P_pG rfl rfl rfl rfl rfl (Ev_move rfl) rfl ?_
            refine P_pG rfl rfl rfl rfl rfl (Ev_move rfl) rfl ?_
            refine P_pG rfl rfl rfl rfl rfl (Ev_move rfl) rfl ?_
            refine P_pG rfl rfl rfl rfl rfl (Ev_move rfl) rfl ?_
            obtain ⟨r157, h158, hx159⟩ := bnd_some hx156
            refine P_xG rfl rfl rfl rfl (Wx_callL rfl (fun w1 hw1 => mesh_builder_p_ok (⟨s111.1, s111.2.1, s111.2.2.1⟩ : S_mesh_builder) x116.a0 (Has.len' (Has.up (L := (K ++ [.m g0_0 69 [.slice (y111.1) ((s111.1).length) (y111.2.1), .map (some gm0_0), .map (some gm0_1)]])) hs112 (SubE.app2 SubE.nil))) (Pt.m0 (List.mem_append_right _ (List.mem_cons_self))) h158 w1 (okAll (K := (K ++ [.m g0_0 69 [.slice (y111.1) ((s111.1).length) (y111.2.1), .map (some gm0_0), .map (some gm0_1)]])) (by exact (SubE.appC (SubE.tail (SubE.tail (SubE.tail (SubE.tail (SubE.tail (hKf)))))) (SubE.cons2 (i := 1) rfl (SubE.nil)))) hw1)) rfl ?_) ?_
            rotate_left; exact P_stop
            rintro _ _ hlo ⟨rfl, rfl, -⟩
            refine T_app0 ?_
            obtain ⟨r160, h161, hx162⟩ := bnd_some hx159
            refine P_xG rfl rfl rfl rfl (Wx_callL rfl (fun w1 hw1 => mesh_builder_p_ok (⟨s111.1, s111.2.1, s111.2.2.1⟩ : S_mesh_builder) x116.a1 (Has.len' (Has.up (L := (K ++ [.m g0_0 69 [.slice (y111.1) ((s111.1).length) (y111.2.1), .map (some gm0_0), .map (some gm0_1)]])) hs112 (SubE.app2 SubE.nil))) (Pt.m0 (List.mem_append_right _ (List.mem_cons_self))) h161 w1 (okAll (K := (K ++ [.m g0_0 69 [.slice (y111.1) ((s111.1).length) (y111.2.1), .map (some gm0_0), .map (some gm0_1)]])) (by exact (SubE.appC (SubE.tail (SubE.tail (SubE.tail (SubE.tail (SubE.tail (hKf)))))) (SubE.cons2 (i := 1) rfl (SubE.nil)))) hw1)) rfl ?_) ?_
            rotate_left; exact P_stop
            rintro _ _ hlo ⟨rfl, rfl, -⟩
            refine T_app0 ?_
            obtain ⟨r163, h164, hx165⟩ := bnd_some hx162
            refine P_xG rfl rfl rfl rfl (Wx_callL rfl (fun w1 hw1 => mesh_builder_p_ok (⟨s111.1, s111.2.1, s111.2.2.1⟩ : S_mesh_builder) x135 (Has.len' (Has.up (L := (K ++ [.m g0_0 69 [.slice (y111.1) ((s111.1).length) (y111.2.1), .map (some gm0_0), .map (some gm0_1)]])) hs112 (SubE.app2 SubE.nil))) (Pt.m0 (List.mem_append_right _ (List.mem_cons_self))) h164 w1 (okAll (K := (K ++ [.m g0_0 69 [.slice (y111.1) ((s111.1).length) (y111.2.1), .map (some gm0_0), .map (some gm0_1)]])) (by exact (SubE.appC (SubE.tail (SubE.tail (SubE.tail (SubE.tail (SubE.tail (hKf)))))) (SubE.cons2 (i := 1) rfl (SubE.nil)))) hw1)) rfl ?_) ?_
            rotate_left; exact P_stop
            rintro _ _ hlo ⟨rfl, rfl, -⟩
            refine T_app0 ?_
            obtain ⟨r166, h167, hx168⟩ := bnd_some hx165
            refine P_xG rfl rfl rfl rfl (Wx_callL rfl (fun w1 hw1 => mesh_builder_p_ok (⟨s111.1, s111.2.1, s111.2.2.1⟩ : S_mesh_builder) x140 (Has.len' (Has.up (L := (K ++ [.m g0_0 69 [.slice (y111.1) ((s111.1).length) (y111.2.1), .map (some gm0_0), .map (some gm0_1)]])) hs112 (SubE.app2 SubE.nil))) (Pt.m0 (List.mem_append_right _ (List.mem_cons_self))) h167 w1 (okAll (K := (K ++ [.m g0_0 69 [.slice (y111.1) ((s111.1).length) (y111.2.1), .map (some gm0_0), .map (some gm0_1)]])) (by exact (SubE.appC (SubE.tail (SubE.tail (SubE.tail (SubE.tail (SubE.tail (hKf)))))) (SubE.cons2 (i := 1) rfl (SubE.nil)))) hw1)) rfl ?_) ?_
            rotate_left; exact P_stop
            rintro _ _ hlo ⟨rfl, rfl, -⟩
            refine T_app0 ?_
            obtain ⟨r169, h170, hx171⟩ := bnd_some hx168
            refine P_xG rfl rfl rfl rfl (Wx_callL rfl (fun w1 hw1 => mesh_legal_ok r157 r160 r163 r166  h170 w1) rfl ?_) ?_
            rotate_left; exact P_stop
            rintro _ _ hlo ⟨rfl, rfl, -⟩
            refine T_app0 ?_
            refine P_p rfl rfl (Ev_pickF rfl rfl) rfl ?_
            refine P_done ?_
            refine T_trunc (q := Int.toNat (w64 (((((s111.2.2.2).length : Nat) : Int)) - 1))) (.there (.there (.there (.there (.here))))) (by have := Has.len hs130; simp [subl] at this; omega) (by decide) (fun _ => rfl) ?_
            have hn183 : Int.toNat (w64 (((((s111.2.2.2).length : Nat) : Int)) - 1)) = (List.take (Int.toNat (w64 (((((s111.2.2.2).length : Nat) : Int)) - 1))) s111.2.2.2).length := by simp [setI_len, cpy_len, List.length_append] <;> omega
            refine T_ent (.there (.there (.there (.there (.here))))) (e' := .r (y111.2.2.1) ((List.take (Int.toNat (w64 (((((s111.2.2.2).length : Nat) : Int)) - 1))) s111.2.2.2).length) (y111.2.2.2) 48 2 ((List.take (Int.toNat (w64 (((((s111.2.2.2).length : Nat) : Int)) - 1))) s111.2.2.2).flatMap e_arr2_int)) (by first | (rw [← hn183]; done) | rfl) ?_
            refine T_slot (s := 2) (v' := .slice (y111.2.2.1) ((List.take (Int.toNat (w64 (((((s111.2.2.2).length : Nat) : Int)) - 1))) s111.2.2.2).length) (y111.2.2.2)) rfl (by have hn184 : (Int.toNat (w64 (((((s111.2.2.2).length : Nat) : Int)) - 1))) = (List.take (Int.toNat (w64 (((((s111.2.2.2).length : Nat) : Int)) - 1))) s111.2.2.2).length := (by simp [setI_len, cpy_len, List.length_append] <;> omega); first | (rw [← hn184]; done) | rfl) ?_
            exact T_metP (List.take (Int.toNat (w64 (((((s111.2.2.2).length : Nat) : Int)) - 1))) s111.2.2.2, r169) (y111.2.2.1, y111.2.2.2) hx171 trivial (by exact .cons rfl (.cons rfl (.cons rfl (.cons rfl (.cons rfl (.cons rfl (.nil))))))) (by exact .pick 4 rfl (.pick 0 rfl (.pick 0 rfl (.pick 0 rfl (.pick 0 rfl (.refl))))))
  · have hx115 := ite_f h113 hx111
    refine T_condF rfl ?_
    refine T_exit ?_
    refine T_outX ?_
    obtain rfl := exit_eq ht111 hx115
    refine T_outX ?_
    refine T_here ?_
    obtain rfl := Option.some.inj ho111
    exact T_endK (rs := []) Tryz.results35 (.nil) (Ln := [.m g0_0 69 [.slice (y111.1) ((s111.1).length) (y111.2.1), .map (some gm0_0), .map (some gm0_1)], mapE2 Tryz.prog 48 v_arr2_int v_i64 gm0_0 (s111.2.1), mapE2 Tryz.prog 48 v_arr2_int v_bool gm0_1 (s111.2.2.1)]) ⟨y111.1, y111.2.1, rfl, rfl, Has.len' hs112, trivial⟩ (by exact .pick 0 rfl (.pick 0 rfl (.pick 0 rfl (.drop 0 rfl (.refl)))))
set_option maxRecDepth 100000 in
theorem mesh_Build_ok (p0 : List S_api_Vertex) (p1 : List S_arr2_int) {K : List Ent} {A0_0 : Option Addr} {c0_0 : Nat} {A0_1 : Option Addr} {c0_1 : Nat} (ha0 : Has K A0_0 (p0).length c0_0 4 e_api_Vertex (p0)) (ha1 : Has K A0_1 (p1).length c0_1 2 e_arr2_int (p1)) {r : S_api_Mesh × Int} (hx : mesh_Build p0 p1 = some r) (w : World) (hK : ∀ e ∈ K, Ent.ok w e) : CtL Tryz.prog 11 [.slice (A0_0) ((p0).length) (c0_0), .slice (A0_1) ((p1).length) (c0_1)] w fun v Ln => ∃ (A0 : Option Addr) (c0 : Nat) (A2 : Option Addr) (c2 : Nat) (A4 : Option Addr) (c4 : Nat), v = .tuple #[.agg #[.slice (A0) ((r.1.V).length) (c0), .slice (A2) ((r.1.T).length) (c2), .slice (A4) ((r.1.Lines).length) (c4)], .int .i64 (r.2)] ∧ Ln = [.r A0 (r.1.V).length c0 43 4 ((r.1.V).flatMap e_api_Vertex), .r A2 (r.1.T).length c2 35 3 ((r.1.T).flatMap e_arr3_int), .r A4 (r.1.Lines).length c4 48 2 ((r.1.Lines).flatMap e_arr2_int)] ∧ True := by
  have ha0' := Has.up0 ha0
  have ha1' := Has.up0 ha1
  refine CtL.mk 60 Tryz.func11 rfl Tryz.ntmps11 (by kernel_rfl) rfl ?_
  show T 60 _ [(0, .slice (A0_0) ((p0).length) (c0_0)), (1, .slice (A0_1) ((p1).length) (c0_1))] _
  unfold mesh_Build at hx
  refine T_seq ?_
  refine T_reg ?_
  refine T_x (Wx_alloc zer32 rfl (fun g1 => ?_))
  refine T_val (Ev_assign rfl) rfl ?_
  refine T_nil ?_
  refine T_next ?_
  refine T_seq ?_
  refine T_seq ?_
  refine T_reg ?_
  refine T_val (Ev_move rfl) rfl ?_
  obtain ⟨r2, h3, hx4⟩ := bnd_some hx
  refine T_x (Wx_callL rfl (fun w1 hw1 => mesh_vertices_ok p0 (Has.len' ha0') h3 w1 (okApp (K := K) (K2 := []) hK (by exact (SubE.cons2 (i := 1) rfl (SubE.nil))) (by exact (SubE.nil)) hw1)) rfl ?_)
  rintro _ _ hlo ⟨rfl, rfl, -⟩
  refine T_app0 ?_
  refine T_val (Ev_assign rfl) rfl ?_
  refine T_nil ?_
  refine T_next ?_
  refine T_seq ?_
  refine T_reg ?_
  refine T_val (Ev_move rfl) rfl ?_
  refine T_val (Ev_neq rfl rfl) rfl ?_
  refine T_nil ?_
  refine T_next ?_
  refine T_caseNP (s := 15) rfl (fun h5 => ?_) (fun h5 => ?_)
  · have hx6 := ite_f h5 hx4
    refine T_condT rfl ?_
    refine T_seq ?_
    refine T_reg ?_
    refine T_val (Ev_build rfl (bld32_)) rfl ?_
    refine T_val (Ev_move rfl) rfl ?_
    refine T_h (Wh_store rfl rfl rfl (.here) (.put (.put (.put (.done)))) rfl (List.cons_ne_nil _ _) agg32.2 ?_)
    refine T_val (Ev_assign rfl) rfl ?_
    refine T_nil ?_
    refine T_next ?_
    refine T_retc ?_
    refine T_outR ?_
    refine T_none 43 4 ?_
    refine T_none 35 3 ?_
    refine T_none 48 2 ?_
    obtain rfl := Option.some.inj hx6
    exact T_retP (rs := [.cell 4 32, .tmp 5]) Tryz.results11 (.cell rfl (i := 3) rfl rfl agg32 (.tmp rfl (.nil))) (Ln := [.r (none) (0) (0) 43 4 ((([] : List S_api_Vertex)).flatMap e_api_Vertex), .r (none) (0) (0) 35 3 ((([] : List S_arr3_int)).flatMap e_arr3_int), .r (none) (0) (0) 48 2 ((([] : List S_arr2_int)).flatMap e_arr2_int)]) ⟨none, 0, none, 0, none, 0, rfl, rfl, trivial⟩ (loCons rfl (loCons rfl (loCons rfl (loNil)))) (by exact .pick 2 rfl (.pick 1 rfl (.pick 0 rfl (.drop 0 rfl (.refl)))))
  · have hx7 := ite_t h5 hx4
    refine T_condF rfl ?_
    refine T_skip ?_
    refine T_next ?_
    refine T_seq ?_
    refine T_seq ?_
    refine T_reg ?_
    refine T_val (Ev_move rfl) rfl ?_
    refine T_val (Ev_move rfl) rfl ?_
    obtain ⟨r8, h9, hx10⟩ := bnd_some hx7
    refine T_x (Wx_callL rfl (fun w1 hw1 => mesh_lineErrors_ok p0 p1 (Has.len' ha0') (Has.len' ha1') h9 w1 (okApp (K := K) (K2 := []) hK (by exact (SubE.cons2 (i := 1) rfl (SubE.nil))) (by exact (SubE.nil)) hw1)) rfl ?_)
    rintro _ _ hlo ⟨rfl, rfl, -⟩
    refine T_app0 ?_
    refine T_val (Ev_assign rfl) rfl ?_
    refine T_nil ?_
    refine T_next ?_
    refine T_seq ?_
    refine T_reg ?_
    refine T_val (Ev_move rfl) rfl ?_
    refine T_val (Ev_neq rfl rfl) rfl ?_
    refine T_nil ?_
    refine T_next ?_
    refine T_caseNP (s := 22) rfl (fun h11 => ?_) (fun h11 => ?_)
    · have hx12 := ite_f h11 hx10
      refine T_condT rfl ?_
      refine T_seq ?_
      refine T_reg ?_
      refine T_val (Ev_build rfl (bld32_)) rfl ?_
      refine T_val (Ev_move rfl) rfl ?_
      refine T_h (Wh_store rfl rfl rfl (.here) (.put (.put (.put (.done)))) rfl (List.cons_ne_nil _ _) agg32.2 ?_)
      refine T_val (Ev_assign rfl) rfl ?_
      refine T_nil ?_
      refine T_next ?_
      refine T_retc ?_
      refine T_outR ?_
      refine T_none 43 4 ?_
      refine T_none 35 3 ?_
      refine T_none 48 2 ?_
      obtain rfl := Option.some.inj hx12
      exact T_retP (rs := [.cell 4 32, .tmp 5]) Tryz.results11 (.cell rfl (i := 3) rfl rfl agg32 (.tmp rfl (.nil))) (Ln := [.r (none) (0) (0) 43 4 ((([] : List S_api_Vertex)).flatMap e_api_Vertex), .r (none) (0) (0) 35 3 ((([] : List S_arr3_int)).flatMap e_arr3_int), .r (none) (0) (0) 48 2 ((([] : List S_arr2_int)).flatMap e_arr2_int)]) ⟨none, 0, none, 0, none, 0, rfl, rfl, trivial⟩ (loCons rfl (loCons rfl (loCons rfl (loNil)))) (by exact .pick 2 rfl (.pick 1 rfl (.pick 0 rfl (.drop 0 rfl (.refl)))))
    · have hx13 := ite_t h11 hx10
      refine T_condF rfl ?_
      refine T_skip ?_
      refine T_next ?_
      refine T_seq ?_
      refine T_reg ?_
      refine T_val (Ev_move rfl) rfl ?_
      refine T_x (Wx_makeMap2 Tryz.prog 48 v_arr2_int v_i64 rfl (fun g14 => ?_))
      refine T_x (Wx_makeMap2 Tryz.prog 48 v_arr2_int v_bool rfl (fun g15 => ?_))
      refine T_val (Ev_build rfl (bld69_0s1m2m _ _ _ _ _)) rfl ?_
      refine T_x (Wx_box rfl rfl rfl (fun g16 => ?_))
      refine T_val (Ev_assign rfl) rfl ?_
      refine T_nil ?_
      refine T_next ?_
      refine T_seq ?_
      refine T_reg ?_
      refine T_val (Ev_move rfl) rfl ?_
      obtain ⟨r17, h18, hx19⟩ := bnd_some hx13
      refine T_x (Wx_callL rfl (fun w1 hw1 => mesh_sorted_ok p1 (Has.len' ha1') h18 w1 (okApp (K := K) (K2 := []) hK (by exact (SubE.cons2 (i := 4) rfl (SubE.nil))) (by exact (SubE.nil)) hw1)) rfl ?_)
      rintro _ _ hlo ⟨A20, c21, rfl, rfl, -⟩
      refine T_app1 ?_
      refine T_val (Ev_assign rfl) rfl ?_
      refine T_nil ?_
      refine T_next ?_
      refine T_seq ?_
      refine T_reg ?_
      refine T_val (Ev_move rfl) rfl ?_
      refine T_val (Ev_move rfl) rfl ?_
      obtain ⟨r22, h23, hx24⟩ := bnd_some hx19
      refine T_x (Wx_callL rfl (fun w1 hw1 => mesh_ranks_ok p0 (Has.len' ha0') h23 w1 (okApp (K := K) (K2 := []) hK (by exact (SubE.cons2 (i := 5) rfl (SubE.nil))) (by exact (SubE.nil)) hw1)) rfl ?_)
      rintro _ _ hlo ⟨A25, c26, rfl, rfl, -⟩
      refine T_app1 ?_
      refine T_rowP (k := 0) rfl (by decide) (fun _ => rfl) (fun hn27 hs28 => ?_)
      obtain ⟨r29, h30, hx31⟩ := bnd_some hx24
      have hw32 := Has.low (K := K) (E := [.r (A25) ((r22).length) (c26) 3 1 ((r22).flatMap e_i64)]) (Has.up (L := (K ++ [.r (A25) ((r22).length) (c26) 3 1 ((r22).flatMap e_i64)])) ha0' (SubE.app2 SubE.nil)) hK
      have hw33 := Has.low (K := K) (E := [.r (A25) ((r22).length) (c26) 3 1 ((r22).flatMap e_i64)]) (Has.up (L := (K ++ [.r (A25) ((r22).length) (c26) 3 1 ((r22).flatMap e_i64)])) hs28 (SubE.appR2 (SubE.cons2 (i := 0) rfl (SubE.nil)))) hK
      refine T_h (Wh_callK rfl (by exact .pick 2 rfl (.pick 3 rfl (.pick 2 rfl (.refl)))) (by exact (SubE.cons2 (i := 3) rfl (SubE.cons2 (i := 0) rfl (SubE.nil)))) (mesh_builder_sweep_ok (⟨p0, ([] : List (S_arr2_int × Int)), ([] : List (S_arr2_int × Bool))⟩ : S_mesh_builder) r22 (Has.len' hw32) (Has.len' hw33) h30 (K := ([.old w, .r (A25) ((r22).length) (c26) 3 1 ((r22).flatMap e_i64)] : List Ent))) rfl ?_)
      rintro _ _ ⟨A34, c35, rfl, rfl, hs36, -⟩
      refine T_app3 ?_
      refine T_nil ?_
      refine T_next ?_
      obtain ⟨j13, hj13, hx31⟩ := jn_some hx31
      refine T_cutP (τ := (List S_api_Vertex) × (List (S_arr2_int × Int)) × (List (S_arr2_int × Bool))) (γ := (Option Addr) × Nat) (J := j13) (out := r) (fun s13 y13 => [(0, .slice (A0_0) ((p0).length) (c0_0)), (4, .pointer (some ⟨g1, 0, none⟩)), (8, .pointer (some ⟨g16, 0, none⟩)), (9, .slice (A20) ((r17).length) (c21))]) (fun s13 y13 => [.m g16 69 [.slice (y13.1) ((s13.1).length) (y13.2), .map (some g14), .map (some g15)], mapE2 Tryz.prog 48 v_arr2_int v_i64 g14 (s13.2.1), mapE2 Tryz.prog 48 v_arr2_int v_bool g15 (s13.2.2), .r (A25) ((r22).length) (c26) 3 1 ((r22).flatMap e_i64), .r (A20) ((r17).length) (c21) 48 2 ((r17).flatMap e_arr2_int), .m g1 32 [.slice (none) (0) (0), .slice (none) (0) (0), .slice (none) (0) (0)]] ++ [.old w]) (fun s13 y13 => Has ([.old w, .r (A25) ((r22).length) (c26) 3 1 ((r22).flatMap e_i64)] : List Ent) (y13.1) ((s13.1).length) (y13.2) 4 e_api_Vertex (s13.1) ∧ True) ?_ ?_
      · intro s13 y13 hx80 hG81
        obtain ⟨hs82, -⟩ := hG81
        subst hj13
        refine T_seq ?_
        refine T_reg ?_
        refine T_val (Ev_move rfl) rfl ?_
        obtain ⟨r83, h84, hx85⟩ := bnd_some hx80
        refine T_x (Wx_callL rfl (fun w1 hw1 => clone_api_Vertex_ok p0 (Has.len' ha0') h84 w1 (okApp (K := K) (K2 := []) hK (by exact (SubE.cons2 (i := 6) rfl (SubE.nil))) (by exact (SubE.nil)) hw1)) rfl ?_)
        rintro _ _ hlo ⟨A86, c87, rfl, rfl, -⟩
        refine T_app1 ?_
        refine T_val (Ev_move rfl) rfl ?_
        obtain ⟨r88, h89, hx90⟩ := bnd_some hx85
        refine T_h (Wh_callK rfl (by exact .pick 1 rfl (.pick 1 rfl (.pick 1 rfl (.refl)))) (by exact (SubE.cons2 (i := 4) rfl (SubE.cons2 (i := 1) rfl (SubE.nil)))) (mesh_builder_triangles_ok (⟨s13.1, s13.2.1, s13.2.2⟩ : S_mesh_builder) (Has.len' hs82) h89 (K := ([.old w, .r (A25) ((r22).length) (c26) 3 1 ((r22).flatMap e_i64)] : List Ent))) rfl ?_)
        rintro _ _ ⟨A91, c92, A93, c94, rfl, rfl, hs95, -⟩
        refine T_app4 ?_
        refine T_val (Ev_move rfl) rfl ?_
        refine T_val (Ev_build rfl (bld32_0s1s2s _ _ _ _ _ _ _ _ _)) rfl ?_
        refine T_h (Wh_store rfl rfl rfl (.there (.there (.there (.there (.there (.there (.there (.here)))))))) (.put (.put (.put (.done)))) rfl (List.cons_ne_nil _ _) agg32.2 ?_)
        refine T_val (Ev_assign rfl) rfl ?_
        refine T_nil ?_
        refine T_next ?_
        refine T_retc ?_
        obtain rfl := Option.some.inj hx90
        exact T_retP (rs := [.cell 4 32, .tmp 5]) Tryz.results11 (.cell rfl (i := 7) rfl rfl agg32 (.tmp rfl (.nil))) (Ln := [.r (A86) ((r83).length) (c87) 43 4 ((r83).flatMap e_api_Vertex), .r (A93) ((r88.2).length) (c94) 35 3 ((r88.2).flatMap e_arr3_int), .r (A20) ((r17).length) (c21) 48 2 ((r17).flatMap e_arr2_int)]) ⟨A86, c87, A93, c94, A20, c21, rfl, rfl, trivial⟩ (loCons rfl (loCons rfl (loCons rfl (loNil)))) (by exact .pick 4 rfl (.pick 3 rfl (.pick 4 rfl (.drop 0 rfl (.drop 0 rfl (.drop 0 rfl (.drop 0 rfl (.drop 0 rfl (.refl)))))))))
      · skip
        refine T_seq ?_
        refine T_reg ?_
        refine T_val (Ev_move rfl) rfl ?_
        refine T_val (Ev_nilCheck rfl) rfl ?_
        refine T_val (Ev_field rfl fld69_1 rfl) rfl ?_
        refine T_val (Ev_load1 rfl (i := 0) rfl rfl one66) rfl ?_
        refine T_val (Ev_lenMap2 Tryz.underlying66 rfl (i := 1) rfl holds_mapE2) rfl ?_
        refine T_val (Ev_gtr rfl rfl) rfl ?_
        refine T_nil ?_
        refine T_next ?_
        refine T_caseP (s := 41) rfl (fun h37 => ?_) (fun h37 => ?_)
        · have hx38 := ite_t h37 hx31
          refine T_condT rfl ?_
          obtain ⟨j15, hj15, hx38⟩ := jn_some hx38
          refine T_cutP (τ := Unit) (γ := Unit) (J := j15) (out := r) (fun s15 y15 => [(0, .slice (A0_0) ((p0).length) (c0_0)), (4, .pointer (some ⟨g1, 0, none⟩)), (8, .pointer (some ⟨g16, 0, none⟩)), (9, .slice (A20) ((r17).length) (c21))]) (fun s15 y15 => [.m g16 69 [.slice (A34) ((r29.v).length) (c35), .map (some g14), .map (some g15)], mapE2 Tryz.prog 48 v_arr2_int v_i64 g14 (r29.apex), mapE2 Tryz.prog 48 v_arr2_int v_bool g15 (r29.fixed), .r (A25) ((r22).length) (c26) 3 1 ((r22).flatMap e_i64), .r (A20) ((r17).length) (c21) 48 2 ((r17).flatMap e_arr2_int), .m g1 32 [.slice (none) (0) (0), .slice (none) (0) (0), .slice (none) (0) (0)]] ++ [.old w]) (fun s15 y15 => True) ?_ ?_
          · intro s15 y15 hx71 hG72
            subst hj15
            refine T_reg ?_
            refine T_val (Ev_move rfl) rfl ?_
            obtain ⟨r73, h74, hx75⟩ := bnd_some hx71
            refine T_h (Wh_callK rfl (by exact .pick 0 rfl (.pick 0 rfl (.pick 0 rfl (.refl)))) (by exact (SubE.cons2 (i := 3) rfl (SubE.cons2 (i := 0) rfl (SubE.nil)))) (mesh_builder_settle_ok r29 (Has.len' hs36) h74 (K := ([.old w, .r (A25) ((r22).length) (c26) 3 1 ((r22).flatMap e_i64)] : List Ent))) rfl ?_)
            rintro _ _ ⟨A76, c77, rfl, rfl, hs78, -⟩
            refine T_app3 ?_
            refine T_nil ?_
            exact T_metP (r73.v, r73.apex, r73.fixed) (A76, c77) hx75 ((by exact ⟨Has.len' hs78, trivial⟩)) (by exact .cons rfl (.cons rfl (.cons rfl (.cons rfl (.nil))))) (by exact .pick 0 rfl (.pick 0 rfl (.pick 0 rfl (.pick 0 rfl (.pick 0 rfl (.pick 0 rfl (.refl)))))))
          · skip
            refine T_seq ?_
            refine T_reg ?_
            refine T_val (Ev_move rfl) rfl ?_
            refine T_val (Ev_len rfl 48 Tryz.underlying23) rfl ?_
            refine T_val (Ev_move rfl) rfl ?_
            refine T_nil ?_
            refine T_next ?_
            refine T_block ?_
            obtain ⟨t55, hl55, ho55⟩ := bnd_some hx38
            refine T_loopP (σ := Unit) (γ := Unit) hl55 (fun s55 y55 => [(0, .slice (A0_0) ((p0).length) (c0_0)), (4, .pointer (some ⟨g1, 0, none⟩)), (8, .pointer (some ⟨g16, 0, none⟩)), (9, .slice (A20) ((r17).length) (c21)), (42, .slice (A20) ((r17).length) (c21)), (43, .int .i64 ((((r17).length : Nat) : Int))), (44, .int .i64 (0))]) (fun s55 y55 => [.m g16 69 [.slice (A34) ((r29.v).length) (c35), .map (some g14), .map (some g15)], mapE2 Tryz.prog 48 v_arr2_int v_i64 g14 (r29.apex), mapE2 Tryz.prog 48 v_arr2_int v_bool g15 (r29.fixed), .r (A25) ((r22).length) (c26) 3 1 ((r22).flatMap e_i64), .r (A20) ((r17).length) (c21) 48 2 ((r17).flatMap e_arr2_int), .m g1 32 [.slice (none) (0) (0), .slice (none) (0) (0), .slice (none) (0) (0)]] ++ [.old w]) (fun s55 y55 => True) () trivial (by exact .cons rfl (.cons rfl (.cons rfl (.cons rfl (.cons rfl (.cons rfl (.cons rfl (.nil)))))))) (by exact .pick 0 rfl (.pick 0 rfl (.pick 0 rfl (.pick 0 rfl (.pick 0 rfl (.pick 0 rfl (.refl))))))) ?_
            intro s55 y55 hG55 x55 hx55 ht55
            unfold mesh_Build_l12 at hx55
            refine T_seq ?_
            refine T_reg ?_
            refine T_val (Ev_lss rfl rfl) rfl ?_
            refine T_nil ?_
            refine T_next ?_
            refine T_seq ?_
            refine T_caseP (s := 45) rfl (fun h56 => ?_) (fun h56 => ?_)
            · have hx57 := ite_t h56 hx55
              refine T_condT rfl ?_
              refine T_skip ?_
              refine T_next ?_
              refine T_seq ?_
              refine T_block ?_
              refine T_seq ?_
              refine T_reg ?_
              obtain ⟨x59, h60, hx61⟩ := bnd_some hx57
              refine T_idxR (k := 4) rfl (by decide) (fun _ => rfl) h60 (fun b62 j64 hA65 hj66 hl67 hm69 hp68 => ?_)
              refine T_val (Ev_index rfl rfl hA65 (j := j64) hj66 hl67 slc23) rfl ?_
              refine T_val (Ev_loadPK0 rfl hp68 (SubE.cons2 (i := 4) rfl (SubE.nil)) rfl agg48) rfl ?_
              refine T_x (Wx_alloc zer48 rfl (fun g70 => ?_))
              refine T_h (Wh_store rfl rfl rfl (.here) (.put (.put (.done))) rfl (List.cons_ne_nil _ _) agg48.2 ?_)
              refine T_nil ?_
              refine T_next ?_
              refine T_reg ?_
              refine T_val (Ev_move rfl) rfl ?_
              refine T_val (Ev_loadK rfl (i := 0) rfl rfl agg48) rfl ?_
              exact none_no hx61
            · have hx58 := ite_f h56 hx55
              refine T_condF rfl ?_
              refine T_exit ?_
              refine T_outX ?_
              obtain rfl := exit_eq ht55 hx58
              refine T_outX ?_
              refine T_here ?_
              exact T_metP () () ho55 trivial (by exact .cons rfl (.cons rfl (.cons rfl (.cons rfl (.nil))))) (by exact .pick 0 rfl (.pick 0 rfl (.pick 0 rfl (.pick 0 rfl (.pick 0 rfl (.pick 0 rfl (.refl)))))))
        · have hx79 := ite_f h37 hx31
          refine T_condF rfl ?_
          refine T_skip ?_
          exact T_metP (r29.v, r29.apex, r29.fixed) (A34, c35) hx79 ((by exact ⟨Has.len' hs36, trivial⟩)) (by exact .cons rfl (.cons rfl (.cons rfl (.cons rfl (.nil))))) (by exact .pick 0 rfl (.pick 0 rfl (.pick 0 rfl (.pick 0 rfl (.pick 0 rfl (.pick 0 rfl (.refl)))))))
end Go.Proofs.YtlkgeeppfifeeaaGreat
