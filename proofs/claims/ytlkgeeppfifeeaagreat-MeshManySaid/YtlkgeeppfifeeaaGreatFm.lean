/- Walks of the laws: MeshMany. -/
import Derived.Test.YtlkgeeppfifeeaaGreatEs
namespace Go.Proofs.YtlkgeeppfifeeaaGreat
open Go Go.RowKit
theorem bls22_1_0ai64i64i64i64 (x0 : Int) (x1 : Int) (x2 : Int) (x3 : Int) : BuildSliceOf Tryz.prog 22 1 [(0, .agg #[.int .i64 x0, .int .i64 x1, .int .i64 x2, .int .i64 x3])] 43 [.int .i64 x0, .int .i64 x1, .int .i64 x2, .int .i64 x3] := fun w => by kernel_rfl
noncomputable def lidarlaw06_MeshMany_l3 (p1 : Int) (p0 : S_api_Vertex) : ((List S_api_Vertex) × Int) → Option (Sum ((List S_api_Vertex) × Int) (List S_api_Vertex)) := fun s13 =>
 if s13.2 ≤ (w64 (1024 + (w64 (Int.tmod p1 4)))) then (gd (((s13.1).length + 1) * 32 ≤ 140737488355328) <|
 some (.inl (s13.1 ++ [p0], w64 (s13.2 + 1))))
 else (some (.inr s13.1))
noncomputable def lidarlaw06_MeshMany (p0 : S_api_Vertex) (p1 : Int) (p2 : S_arr2_int) : Option Bool :=
 jn (fun (s3 : List S_api_Vertex) =>
 bnd (mesh_Border s3) fun r27 =>
 bnd (mesh_Build s3 ([p2])) fun r36 =>
 jn (fun (s13 : Bool) =>
 some s13)
 (fun j13 => if r27.2 = 2 then (if r36.2 = 2 then (if ((((r27.1).length : Nat) : Int)) = 0 then (bnd (lidarref06_SameMesh r36.1 (⟨([] : List S_api_Vertex), ([] : List S_arr3_int), ([] : List S_arr2_int)⟩ : S_api_Mesh)) fun r58 =>
 if r58 = true then (bnd (lidarlaw06_awake) fun r63 =>
 j13 r63)
 else (j13 false))
 else (j13 false))
 else (j13 false))
 else (j13 false)))
 (fun j3 => bnd (lfix (lidarlaw06_MeshMany_l3 p1 p0) (([] : List S_api_Vertex), 0)) fun t13 =>
 j3 t13)
set_option maxRecDepth 100000 in
theorem lidarlaw06_MeshMany_ok (p0 : S_api_Vertex) (p1 : Int) (p2 : S_arr2_int)  {r : Bool} (hx : lidarlaw06_MeshMany p0 p1 p2 = some r) (w : World) : CtL Tryz.prog 7 [.agg #[.int .i64 (p0.X), .int .i64 (p0.Y), .int .i64 (p0.Z.Lo), .int .i64 (p0.Z.Hi)], .int .u8 (p1), .agg #[.int .i64 (p2.a0), .int .i64 (p2.a1)]] w fun v Ln => v = .bool (r) ∧ Ln = [] ∧ True := by
  refine CtL.mk 56 Tryz.func7 rfl Tryz.ntmps7 (by kernel_rfl) rfl ?_
  show T 56 _ [(0, .agg #[.int .i64 (p0.X), .int .i64 (p0.Y), .int .i64 (p0.Z.Lo), .int .i64 (p0.Z.Hi)]), (1, .int .u8 (p1)), (2, .agg #[.int .i64 (p2.a0), .int .i64 (p2.a1)])] _
  unfold lidarlaw06_MeshMany at hx
  refine T_seq ?_
  refine T_reg ?_
  refine T_x (Wx_box rfl rfl rfl (fun g1 => ?_))
  refine T_x (Wx_box rfl rfl rfl (fun g2 => ?_))
  refine T_val (Ev_assign rfl) rfl ?_
  refine T_nil ?_
  refine T_next ?_
  refine T_seq ?_
  refine T_reg ?_
  refine T_val (Ev_assign rfl) rfl ?_
  refine T_nil ?_
  refine T_next ?_
  obtain ⟨j3, hj3, hx⟩ := jn_some hx
  refine T_cutP (τ := List S_api_Vertex) (γ := (Option Addr) × Nat) (J := j3) (out := r) (fun s3 y3 => [(5, .pointer (some ⟨g2, 0, none⟩)), (7, .slice (y3.1) ((s3).length) (y3.2))]) (fun s3 y3 => [.r (y3.1) ((s3).length) (y3.2) 43 4 ((s3).flatMap e_api_Vertex), .m g2 48 [.int .i64 (p2.a0), .int .i64 (p2.a1)]] ++ [.old w]) (fun s3 y3 => True) ?_ ?_
  · intro s3 y3 hx23 hG24
    subst hj3
    refine T_seq ?_
    refine T_reg ?_
    refine T_val (Ev_move rfl) rfl ?_
    refine T_rowP (k := 0) rfl (by decide) (fun _ => rfl) (fun hn25 hs26 => ?_)
    obtain ⟨r27, h28, hx29⟩ := bnd_some hx23
    refine T_x (Wx_callL rfl (fun w1 hw1 => mesh_Border_ok s3 (Has.len' hs26) h28 w1 (okAll (K := ([.r (y3.1) ((s3).length) (y3.2) 43 4 ((s3).flatMap e_api_Vertex)] : List Ent)) (by exact (SubE.cons2 (i := 0) rfl (SubE.nil))) hw1)) rfl ?_)
    rintro _ _ hlo ⟨A30, c31, rfl, rfl, -⟩
    refine T_app1 ?_
    refine T_val (Ev_move rfl) rfl ?_
    refine T_val (Ev_extract rfl rfl) rfl ?_
    refine T_val (Ev_extract rfl rfl) rfl ?_
    refine T_val (Ev_assign rfl) rfl ?_
    refine T_val (Ev_assign rfl) rfl ?_
    refine T_nil ?_
    refine T_next ?_
    refine T_seq ?_
    refine T_reg ?_
    refine T_val (Ev_move rfl) rfl ?_
    refine T_val (Ev_loadK rfl (i := 2) rfl rfl agg48) rfl ?_
    refine T_x (Wx_buildSlice rfl (bls23_1_0ai64i64 _ _) rfl (fun g32 => ?_))
    refine T_rowP (k := 2) rfl (by decide) (fun _ => rfl) (fun hn33 hs34 => ?_)
    have hs35 : Has [.m g32 48 [.int .i64 (p2.a0), .int .i64 (p2.a1)]] (some ⟨g32, 0, none⟩) 1 1 2 e_arr2_int [p2] := Has.ofM (fun _ _ => rfl) rfl (by decide) rfl
    obtain ⟨r36, h37, hx38⟩ := bnd_some hx29
    refine T_x (Wx_callL rfl (fun w1 hw1 => mesh_Build_ok s3 ([p2]) (Has.len' (Has.up (L := ([.r (y3.1) ((s3).length) (y3.2) 43 4 ((s3).flatMap e_api_Vertex), .m g32 48 [.int .i64 (p2.a0), .int .i64 (p2.a1)]] : List Ent)) hs34 (SubE.cons2 (i := 0) rfl (SubE.nil)))) (Has.len' (Has.up (L := ([.r (y3.1) ((s3).length) (y3.2) 43 4 ((s3).flatMap e_api_Vertex), .m g32 48 [.int .i64 (p2.a0), .int .i64 (p2.a1)]] : List Ent)) hs35 (SubE.cons2 (i := 1) rfl (SubE.nil)))) h37 w1 (okAll (K := ([.r (y3.1) ((s3).length) (y3.2) 43 4 ((s3).flatMap e_api_Vertex), .m g32 48 [.int .i64 (p2.a0), .int .i64 (p2.a1)]] : List Ent)) (by exact (SubE.cons2 (i := 2) rfl (SubE.cons2 (i := 0) rfl (SubE.nil)))) hw1)) rfl ?_)
    rintro _ _ hlo ⟨A39, c40, A41, c42, A43, c44, rfl, rfl, -⟩
    refine T_app3 ?_
    refine T_val (Ev_move rfl) rfl ?_
    refine T_val (Ev_extract rfl rfl) rfl ?_
    refine T_val (Ev_extract rfl rfl) rfl ?_
    refine T_x (Wx_alloc zer32 rfl (fun g45 => ?_))
    refine T_h (Wh_store rfl rfl rfl (.here) (.put (.put (.put (.done)))) rfl (List.cons_ne_nil _ _) agg32.2 ?_)
    refine T_val (Ev_assign rfl) rfl ?_
    refine T_nil ?_
    refine T_next ?_
    obtain ⟨j13, hj13, hx38⟩ := jn_some hx38
    refine T_cutP (τ := Bool) (γ := Unit) (J := j13) (out := r) (fun s13 y13 => [(6, .bool (s13))]) (fun s13 y13 => [] ++ [.old w]) (fun s13 y13 => True) ?_ ?_
    · intro s13 y13 hx70 hG71
      subst hj13
      refine T_retc ?_
      obtain rfl := Option.some.inj hx70
      exact T_retP (rs := [.tmp 6]) Tryz.results7 (.tmp rfl (.nil)) (Ln := []) ⟨rfl, rfl, trivial⟩ (loNil) (by exact .refl)
    · skip
      refine T_reg ?_
      refine T_val (Ev_move rfl) rfl ?_
      refine T_val (Ev_eql rfl rfl) rfl ?_
      refine T_val (Ev_move rfl) rfl ?_
      refine T_caseP (s := 39) rfl (fun h46 => ?_) (fun h46 => ?_)
      · have hx47 := ite_t h46 hx38
        refine T_valG rfl rfl rfl (Ev_move rfl) rfl ?_
        refine T_valG rfl rfl rfl (Ev_eql rfl rfl) rfl ?_
        refine T_val (Ev_pickT rfl rfl) rfl ?_
        refine T_val (Ev_move rfl) rfl ?_
        refine T_caseP (s := 43) rfl (fun h48 => ?_) (fun h48 => ?_)
        · have hx49 := ite_t h48 hx47
          refine T_valG rfl rfl rfl (Ev_move rfl) rfl ?_
          refine T_valG rfl rfl rfl (Ev_len rfl 3 Tryz.underlying58) rfl ?_
          refine T_valG rfl rfl rfl (Ev_eql rfl rfl) rfl ?_
          refine T_val (Ev_pickT rfl rfl) rfl ?_
          refine T_val (Ev_move rfl) rfl ?_
          refine T_caseP (s := 48) rfl (fun h50 => ?_) (fun h50 => ?_)
          · have hx51 := ite_t h50 hx49
            refine T_valG rfl rfl rfl (Ev_loadK rfl (i := 0) rfl rfl agg32) rfl ?_
            refine T_valG rfl rfl rfl (Ev_build rfl (bld32_)) rfl ?_
            refine T_rowP (k := 1) rfl (by decide) (fun _ => rfl) (fun hn52 hs53 => ?_)
            refine T_rowP (k := 2) rfl (by decide) (fun _ => rfl) (fun hn54 hs55 => ?_)
            refine T_rowP (k := 3) rfl (by decide) (fun _ => rfl) (fun hn56 hs57 => ?_)
            obtain ⟨r58, h59, hx60⟩ := bnd_some hx51
            refine T_xG rfl rfl rfl (Wx_callL rfl (fun w1 hw1 => lidarref06_SameMesh_ok r36.1 (⟨([] : List S_api_Vertex), ([] : List S_arr3_int), ([] : List S_arr2_int)⟩ : S_api_Mesh) (Has.len' (Has.up (L := ([.r (A39) ((r36.1.V).length) (c40) 43 4 ((r36.1.V).flatMap e_api_Vertex), .r (A41) ((r36.1.T).length) (c42) 35 3 ((r36.1.T).flatMap e_arr3_int), .r (A43) ((r36.1.Lines).length) (c44) 48 2 ((r36.1.Lines).flatMap e_arr2_int)] : List Ent)) hs53 (SubE.cons2 (i := 0) rfl (SubE.nil)))) (Has.len' (Has.up (L := ([.r (A39) ((r36.1.V).length) (c40) 43 4 ((r36.1.V).flatMap e_api_Vertex), .r (A41) ((r36.1.T).length) (c42) 35 3 ((r36.1.T).flatMap e_arr3_int), .r (A43) ((r36.1.Lines).length) (c44) 48 2 ((r36.1.Lines).flatMap e_arr2_int)] : List Ent)) hs55 (SubE.cons2 (i := 1) rfl (SubE.nil)))) (Has.len' (Has.up (L := ([.r (A39) ((r36.1.V).length) (c40) 43 4 ((r36.1.V).flatMap e_api_Vertex), .r (A41) ((r36.1.T).length) (c42) 35 3 ((r36.1.T).flatMap e_arr3_int), .r (A43) ((r36.1.Lines).length) (c44) 48 2 ((r36.1.Lines).flatMap e_arr2_int)] : List Ent)) hs57 (SubE.cons2 (i := 2) rfl (SubE.nil)))) (Has.nil (K := ([.r (A39) ((r36.1.V).length) (c40) 43 4 ((r36.1.V).flatMap e_api_Vertex), .r (A41) ((r36.1.T).length) (c42) 35 3 ((r36.1.T).flatMap e_arr3_int), .r (A43) ((r36.1.Lines).length) (c44) 48 2 ((r36.1.Lines).flatMap e_arr2_int)] : List Ent))) (Has.nil (K := ([.r (A39) ((r36.1.V).length) (c40) 43 4 ((r36.1.V).flatMap e_api_Vertex), .r (A41) ((r36.1.T).length) (c42) 35 3 ((r36.1.T).flatMap e_arr3_int), .r (A43) ((r36.1.Lines).length) (c44) 48 2 ((r36.1.Lines).flatMap e_arr2_int)] : List Ent))) (Has.nil (K := ([.r (A39) ((r36.1.V).length) (c40) 43 4 ((r36.1.V).flatMap e_api_Vertex), .r (A41) ((r36.1.T).length) (c42) 35 3 ((r36.1.T).flatMap e_arr3_int), .r (A43) ((r36.1.Lines).length) (c44) 48 2 ((r36.1.Lines).flatMap e_arr2_int)] : List Ent))) h59 w1 (okAll (K := ([.r (A39) ((r36.1.V).length) (c40) 43 4 ((r36.1.V).flatMap e_api_Vertex), .r (A41) ((r36.1.T).length) (c42) 35 3 ((r36.1.T).flatMap e_arr3_int), .r (A43) ((r36.1.Lines).length) (c44) 48 2 ((r36.1.Lines).flatMap e_arr2_int)] : List Ent)) (by exact (SubE.cons2 (i := 1) rfl (SubE.cons2 (i := 2) rfl (SubE.cons2 (i := 3) rfl (SubE.nil))))) hw1)) rfl ?_)
            rintro _ _ hlo ⟨rfl, rfl, -⟩
            refine T_app0 ?_
            refine T_val (Ev_pickT rfl rfl) rfl ?_
            refine T_val (Ev_move rfl) rfl ?_
            refine T_caseB (s := 53) rfl (fun h61 => ?_) (fun h61 => ?_)
            · have hx62 := ite_t h61 hx60
              obtain ⟨r63, h64, hx65⟩ := bnd_some hx62
              refine T_xG rfl rfl rfl (Wx_callL rfl (fun w1 hw1 => lidarlaw06_awake_ok  h64 w1) rfl ?_)
              rintro _ _ hlo ⟨rfl, rfl, -⟩
              refine T_app0 ?_
              refine T_val (Ev_pickT rfl rfl) rfl ?_
              refine T_val (Ev_assign rfl) rfl ?_
              refine T_nil ?_
              exact T_metP r63 () hx65 trivial (by exact .cons rfl (.nil)) (by exact .drop 0 rfl (.drop 0 rfl (.drop 0 rfl (.drop 0 rfl (.drop 0 rfl (.drop 0 rfl (.drop 0 rfl (.drop 0 rfl (.refl)))))))))
            · have hx66 := ite_bf h61 hx60
              refine T_skipG rfl rfl rfl rfl rfl ?_
              refine T_val (Ev_pickF rfl rfl) rfl ?_
              refine T_val (Ev_assign rfl) rfl ?_
              refine T_nil ?_
              exact T_metP false () hx66 trivial (by exact .cons rfl (.nil)) (by exact .drop 0 rfl (.drop 0 rfl (.drop 0 rfl (.drop 0 rfl (.drop 0 rfl (.drop 0 rfl (.drop 0 rfl (.drop 0 rfl (.refl)))))))))
          · have hx67 := ite_f h50 hx49
            refine T_skipG rfl rfl rfl rfl rfl ?_
            refine T_skipG rfl rfl rfl rfl rfl ?_
            refine T_skipG rfl rfl rfl rfl rfl ?_
            refine T_val (Ev_pickF rfl rfl) rfl ?_
            refine T_val (Ev_move rfl) rfl ?_
            refine T_skipG rfl rfl rfl rfl rfl ?_
            refine T_val (Ev_pickF rfl rfl) rfl ?_
            refine T_val (Ev_assign rfl) rfl ?_
            refine T_nil ?_
            exact T_metP false () hx67 trivial (by exact .cons rfl (.nil)) (by exact .drop 0 rfl (.drop 0 rfl (.drop 0 rfl (.drop 0 rfl (.drop 0 rfl (.drop 0 rfl (.drop 0 rfl (.drop 0 rfl (.refl)))))))))
        · have hx68 := ite_f h48 hx47
          refine T_skipG rfl rfl rfl rfl rfl ?_
          refine T_skipG rfl rfl rfl rfl rfl ?_
          refine T_skipG rfl rfl rfl rfl rfl ?_
          refine T_val (Ev_pickF rfl rfl) rfl ?_
          refine T_val (Ev_move rfl) rfl ?_
          refine T_skipG rfl rfl rfl rfl rfl ?_
          refine T_skipG rfl rfl rfl rfl rfl ?_
          refine T_skipG rfl rfl rfl rfl rfl ?_
          refine T_val (Ev_pickF rfl rfl) rfl ?_
          refine T_val (Ev_move rfl) rfl ?_
          refine T_skipG rfl rfl rfl rfl rfl ?_
          refine T_val (Ev_pickF rfl rfl) rfl ?_
          refine T_val (Ev_assign rfl) rfl ?_
          refine T_nil ?_
          exact T_metP false () hx68 trivial (by exact .cons rfl (.nil)) (by exact .drop 0 rfl (.drop 0 rfl (.drop 0 rfl (.drop 0 rfl (.drop 0 rfl (.drop 0 rfl (.drop 0 rfl (.drop 0 rfl (.refl)))))))))
      · have hx69 := ite_f h46 hx38
        refine T_skipG rfl rfl rfl rfl rfl ?_
        refine T_skipG rfl rfl rfl rfl rfl ?_
        refine T_val (Ev_pickF rfl rfl) rfl ?_
        refine T_val (Ev_move rfl) rfl ?_
        refine T_skipG rfl rfl rfl rfl rfl ?_
        refine T_skipG rfl rfl rfl rfl rfl ?_
        refine T_skipG rfl rfl rfl rfl rfl ?_
        refine T_val (Ev_pickF rfl rfl) rfl ?_
        refine T_val (Ev_move rfl) rfl ?_
        refine T_skipG rfl rfl rfl rfl rfl ?_
        refine T_skipG rfl rfl rfl rfl rfl ?_
        refine T_skipG rfl rfl rfl rfl rfl ?_
        refine T_val (Ev_pickF rfl rfl) rfl ?_
        refine T_val (Ev_move rfl) rfl ?_
        refine T_skipG rfl rfl rfl rfl rfl ?_
        refine T_val (Ev_pickF rfl rfl) rfl ?_
        refine T_val (Ev_assign rfl) rfl ?_
        refine T_nil ?_
        exact T_metP false () hx69 trivial (by exact .cons rfl (.nil)) (by exact .drop 0 rfl (.drop 0 rfl (.drop 0 rfl (.drop 0 rfl (.drop 0 rfl (.drop 0 rfl (.drop 0 rfl (.drop 0 rfl (.refl)))))))))
  · skip
    refine T_seq ?_
    refine T_reg ?_
    refine T_val (Ev_assign rfl) rfl ?_
    refine T_nil ?_
    refine T_next ?_
    refine T_block ?_
    obtain ⟨t13, hl13, ho13⟩ := bnd_some hx
    refine T_none 43 4 ?_
    have hn14 : 0 = (([] : List S_api_Vertex)).length := by simp [setI_len, cpy_len, List.length_append] <;> omega
    refine T_ent (.here) (e' := .r (none) ((([] : List S_api_Vertex)).length) (0) 43 4 ((([] : List S_api_Vertex)).flatMap e_api_Vertex)) (by first | (rw [← hn14]; done) | rfl) ?_
    refine T_loopP (σ := (List S_api_Vertex) × Int) (γ := (Option Addr) × Nat) hl13 (fun s13 y13 => [(1, .int .u8 (p1)), (3, .pointer (some ⟨g1, 0, none⟩)), (5, .pointer (some ⟨g2, 0, none⟩)), (7, .slice (y13.1) ((s13.1).length) (y13.2)), (8, .int .i64 (s13.2))]) (fun s13 y13 => [.r (y13.1) ((s13.1).length) (y13.2) 43 4 ((s13.1).flatMap e_api_Vertex), .m g2 48 [.int .i64 (p2.a0), .int .i64 (p2.a1)], .m g1 43 [.int .i64 (p0.X), .int .i64 (p0.Y), .int .i64 (p0.Z.Lo), .int .i64 (p0.Z.Hi)]] ++ [.old w]) (fun s13 y13 => True) (none, 0) trivial (by exact .cons rfl (.cons rfl (.cons rfl (.cons rfl (.cons rfl (.nil)))))) (by exact .pick 0 rfl (.pick 0 rfl (.pick 0 rfl (.refl)))) ?_
    intro s13 y13 hG13 x13 hx13 ht13
    unfold lidarlaw06_MeshMany_l3 at hx13
    refine T_seq ?_
    refine T_seq ?_
    refine T_reg ?_
    refine T_val (Ev_move rfl) rfl ?_
    refine T_val (Ev_move rfl) rfl ?_
    refine T_val (Ev_rem rfl rfl (by decide)) rfl ?_
    refine T_val (Ev_conv_w64 rfl (by kernel_rfl) Tryz.underlying3) rfl ?_
    refine T_val (Ev_add_w64 rfl rfl) rfl ?_
    refine T_val (Ev_leq rfl rfl) rfl ?_
    refine T_nil ?_
    refine T_next ?_
    refine T_caseP (s := 18) rfl (fun h15 => ?_) (fun h15 => ?_)
    · have hx16 := ite_t h15 hx13
      refine T_condT rfl ?_
      refine T_skip ?_
      refine T_next ?_
      refine T_seq ?_
      refine T_block ?_
      refine T_reg ?_
      refine T_val (Ev_move rfl) rfl ?_
      refine T_val (Ev_loadK rfl (i := 2) rfl rfl agg43) rfl ?_
      refine T_x (Wx_buildSlice rfl (bls22_1_0ai64i64i64i64 _ _ _ _) rfl (fun g18 => ?_))
      obtain ⟨h19, hx20⟩ := gd_some hx16
      refine T_h (Wh_appendP e_api_Vertex (s13.1) [p0] rfl rfl rfl elm22 (fun _ => rfl) (i' := 0) rfl rfl rfl rfl h19 rfl (fun _ _ => .there (.here)) (fun _ _ => .drop .refl) (by decide) (fun A21 c22 => ?_))
      refine T_val (Ev_assign rfl) rfl ?_
      refine T_nil ?_
      refine T_inN ?_
      refine T_next ?_
      refine T_reg ?_
      refine T_val (Ev_move rfl) rfl ?_
      refine T_val (Ev_add_w64 rfl rfl) rfl ?_
      refine T_val (Ev_assign rfl) rfl ?_
      refine T_nil ?_
      exact T_roundP (s13.1 ++ [p0], w64 (s13.2 + 1)) (A21, c22) hx20 trivial (by exact .cons rfl (.cons rfl (.cons rfl (.cons rfl (.cons rfl (.nil)))))) (by exact .pick 0 rfl (.pick 0 rfl (.pick 0 rfl (.refl))))
    · have hx17 := ite_f h15 hx13
      refine T_condF rfl ?_
      refine T_exit ?_
      refine T_outX ?_
      obtain rfl := exit_eq ht13 hx17
      refine T_outX ?_
      refine T_here ?_
      exact T_metP s13.1 (y13.1, y13.2) ho13 trivial (by exact .cons rfl (.cons rfl (.nil))) (by exact .pick 0 rfl (.pick 0 rfl (.drop 0 rfl (.refl))))
end Go.Proofs.YtlkgeeppfifeeaaGreat
