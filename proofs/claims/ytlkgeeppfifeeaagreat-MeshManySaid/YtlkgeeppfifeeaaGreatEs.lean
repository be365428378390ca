/- Walks of the program, with their plain functions: the same mesh. -/
import Derived.Test.YtlkgeeppfifeeaaGreatE1
namespace Go.Proofs.YtlkgeeppfifeeaaGreat
open Go Go.RowKit
theorem fld32_0 : FieldOf Tryz.prog 32 0 0 := .mk Tryz.underlying32 rfl rfl (show Tryz.prog.info? 22 = some Tryz.t22 from by kernel_rfl) (show Tryz.t22.size = 1 from by kernel_rfl) rfl
theorem fld32_2 : FieldOf Tryz.prog 32 2 2 := .mk Tryz.underlying32 rfl rfl (show Tryz.prog.info? 23 = some Tryz.t23 from by kernel_rfl) (show Tryz.t23.size = 1 from by kernel_rfl) rfl
theorem one23 : OneOf Tryz.prog 23 := .mk Tryz.underlying23 rfl (show Tryz.prog.info? 23 = some Tryz.t23 from by kernel_rfl) (by kernel_rfl)
theorem seq43 (a0 : Int) (a1 : Int) (a2 : Int) (a3 : Int) (b0 : Int) (b1 : Int) (b2 : Int) (b3 : Int) : ∀ w, (Op.equalIn 10000 43 (.agg #[.int .i64 (a0), .int .i64 (a1), .int .i64 (a2), .int .i64 (a3)]) (.agg #[.int .i64 (b0), .int .i64 (b1), .int .i64 (b2), .int .i64 (b3)])).run Tryz.prog w = .ok ((((a0) == (b0)) && (((a1) == (b1)) && ((((a2) == (b2)) && (((a3) == (b3)) && true)) && true)))) w :=
  EqF.struct Tryz.underlying43 (by kernel_rfl) (.cons rfl (fun w => by kernel_rfl) (fun w => by kernel_rfl) (fun w => run_equalIn_int w 9998 3 .i64 .i64 _ _ Tryz.underlying3) (.cons rfl (fun w => by kernel_rfl) (fun w => by kernel_rfl) (fun w => run_equalIn_int w 9998 3 .i64 .i64 _ _ Tryz.underlying3) (.cons (a := .agg #[.int .i64 (a2), .int .i64 (a3)]) (b := .agg #[.int .i64 (b2), .int .i64 (b3)]) rfl (fun w => by kernel_rfl) (fun w => by kernel_rfl) (EqF.struct Tryz.underlying41 (by kernel_rfl) (.cons rfl (fun w => by kernel_rfl) (fun w => by kernel_rfl) (fun w => run_equalIn_int w 9997 3 .i64 .i64 _ _ Tryz.underlying3) (.cons rfl (fun w => by kernel_rfl) (fun w => by kernel_rfl) (fun w => run_equalIn_int w 9997 3 .i64 .i64 _ _ Tryz.underlying3) (EqF.nil)))) (EqF.nil))))
theorem seq48 (a0 : Int) (a1 : Int) (b0 : Int) (b1 : Int) : ∀ w, (Op.equalIn 10000 48 (.agg #[.int .i64 (a0), .int .i64 (a1)]) (.agg #[.int .i64 (b0), .int .i64 (b1)])).run Tryz.prog w = .ok ((((a0) == (b0)) && (((a1) == (b1)) && true))) w :=
  EqI.array (c := 1) Tryz.underlying48 (show Tryz.prog.info? 3 = some Tryz.t3 from by kernel_rfl) (by kernel_rfl) (.cons (fun w => by kernel_rfl) (fun w => by kernel_rfl) (fun w => run_equalIn_int w 9998 3 .i64 .i64 _ _ Tryz.underlying3) (.cons (fun w => by kernel_rfl) (fun w => by kernel_rfl) (fun w => run_equalIn_int w 9998 3 .i64 .i64 _ _ Tryz.underlying3) (EqI.nil)))
noncomputable def lidarref06_SameMesh_l4 (p0 : S_api_Mesh) (p1 : S_api_Mesh) : Int → Option (Sum Int (Sum Unit Bool)) := fun s43 =>
 if s43 < ((((p0.V).length : Nat) : Int)) then (bnd (idx p0.V s43) fun x47 =>
 bnd (idx p1.V s43) fun x58 =>
 if ((((x47.X) == (x58.X)) && (((x47.Y) == (x58.Y)) && ((((x47.Z.Lo) == (x58.Z.Lo)) && (((x47.Z.Hi) == (x58.Z.Hi)) && true)) && true)))) = true then (some (.inl (w64 (s43 + 1))))
 else (some (.inr (.inr (false)))))
 else (some (.inr (.inl ())))
noncomputable def lidarref06_SameMesh_l10 (p0 : S_api_Mesh) (p1 : S_api_Mesh) : Int → Option (Sum Int (Sum Unit Bool)) := fun s103 =>
 if s103 < ((((p0.T).length : Nat) : Int)) then (bnd (idx p0.T s103) fun x107 =>
 bnd (idx p1.T s103) fun x118 =>
 if ((((x107.a0) == (x118.a0)) && (((x107.a1) == (x118.a1)) && (((x107.a2) == (x118.a2)) && true)))) = true then (some (.inl (w64 (s103 + 1))))
 else (some (.inr (.inr (false)))))
 else (some (.inr (.inl ())))
noncomputable def lidarref06_SameMesh_l16 (p0 : S_api_Mesh) (p1 : S_api_Mesh) : Int → Option (Sum Int (Sum Unit Bool)) := fun s163 =>
 if s163 < ((((p0.Lines).length : Nat) : Int)) then (bnd (idx p0.Lines s163) fun x167 =>
 bnd (idx p1.Lines s163) fun x178 =>
 if ((((x167.a0) == (x178.a0)) && (((x167.a1) == (x178.a1)) && true))) = true then (some (.inl (w64 (s163 + 1))))
 else (some (.inr (.inr (false)))))
 else (some (.inr (.inl ())))
noncomputable def lidarref06_SameMesh (p0 : S_api_Mesh) (p1 : S_api_Mesh) : Option Bool :=
 jn (fun (s3 : Bool) =>
 if s3 = true then (some false)
 else (jn (fun (s5 : Unit) =>
 jn (fun (s19 : Unit) =>
 jn (fun (s33 : Unit) =>
 some true)
 (fun j33 => bnd (lfix (lidarref06_SameMesh_l16 p0 p1) 0) fun t163 =>
 (match t163 with
 | (.inl z163) => j33 z163
 | (.inr (z163)) => some z163
 )))
 (fun j19 => bnd (lfix (lidarref06_SameMesh_l10 p0 p1) 0) fun t103 =>
 (match t103 with
 | (.inl z103) => j19 z103
 | (.inr (z103)) => some z103
 )))
 (fun j5 => bnd (lfix (lidarref06_SameMesh_l4 p0 p1) 0) fun t43 =>
 (match t43 with
 | (.inl z43) => j5 z43
 | (.inr (z43)) => some z43
 ))))
 (fun j3 => if ((((p0.V).length : Nat) : Int)) = ((((p1.V).length : Nat) : Int)) then (if ((((p0.T).length : Nat) : Int)) = ((((p1.T).length : Nat) : Int)) then (j3 (!(decide (((((p0.Lines).length : Nat) : Int)) = ((((p1.Lines).length : Nat) : Int))))))
 else (j3 true))
 else (j3 true))
set_option maxRecDepth 100000 in
theorem lidarref06_SameMesh_ok (p0 : S_api_Mesh) (p1 : S_api_Mesh) {K : List Ent} {A0_0 : Option Addr} {c0_0 : Nat} {A0_1 : Option Addr} {c0_1 : Nat} {A0_2 : Option Addr} {c0_2 : Nat} {A0_3 : Option Addr} {c0_3 : Nat} {A0_4 : Option Addr} {c0_4 : Nat} {A0_5 : Option Addr} {c0_5 : Nat} (ha0 : Has K A0_0 (p0.V).length c0_0 4 e_api_Vertex (p0.V)) (ha1 : Has K A0_1 (p0.T).length c0_1 3 e_arr3_int (p0.T)) (ha2 : Has K A0_2 (p0.Lines).length c0_2 2 e_arr2_int (p0.Lines)) (ha3 : Has K A0_3 (p1.V).length c0_3 4 e_api_Vertex (p1.V)) (ha4 : Has K A0_4 (p1.T).length c0_4 3 e_arr3_int (p1.T)) (ha5 : Has K A0_5 (p1.Lines).length c0_5 2 e_arr2_int (p1.Lines)) {r : Bool} (hx : lidarref06_SameMesh p0 p1 = some r) (w : World) (hK : ∀ e ∈ K, Ent.ok w e) : CtL Tryz.prog 22 [.agg #[.slice (A0_0) ((p0.V).length) (c0_0), .slice (A0_1) ((p0.T).length) (c0_1), .slice (A0_2) ((p0.Lines).length) (c0_2)], .agg #[.slice (A0_3) ((p1.V).length) (c0_3), .slice (A0_4) ((p1.T).length) (c0_4), .slice (A0_5) ((p1.Lines).length) (c0_5)]] w fun v Ln => v = .bool (r) ∧ Ln = [] ∧ True := by
  have ha0' := Has.up0 ha0
  have ha1' := Has.up0 ha1
  have ha2' := Has.up0 ha2
  have ha3' := Has.up0 ha3
  have ha4' := Has.up0 ha4
  have ha5' := Has.up0 ha5
  refine CtL.mk 87 Tryz.func22 rfl Tryz.ntmps22 (by kernel_rfl) rfl ?_
  show T 87 _ [(0, .agg #[.slice (A0_0) ((p0.V).length) (c0_0), .slice (A0_1) ((p0.T).length) (c0_1), .slice (A0_2) ((p0.Lines).length) (c0_2)]), (1, .agg #[.slice (A0_3) ((p1.V).length) (c0_3), .slice (A0_4) ((p1.T).length) (c0_4), .slice (A0_5) ((p1.Lines).length) (c0_5)])] _
  unfold lidarref06_SameMesh at hx
  refine T_seq ?_
  refine T_reg ?_
  refine T_x (Wx_box rfl rfl rfl (fun g1 => ?_))
  refine T_x (Wx_box rfl rfl rfl (fun g2 => ?_))
  refine T_val (Ev_assign rfl) rfl ?_
  refine T_nil ?_
  refine T_next ?_
  refine T_seq ?_
  obtain ⟨j3, hj3, hx⟩ := jn_some hx
  refine T_cutP (τ := Bool) (γ := Unit) (J := j3) (out := r) (fun s3 y3 => [(2, .pointer (some ⟨g1, 0, none⟩)), (3, .pointer (some ⟨g2, 0, none⟩)), (32, .bool (s3))]) (fun s3 y3 => [.m g2 32 [.slice (A0_3) ((p1.V).length) (c0_3), .slice (A0_4) ((p1.T).length) (c0_4), .slice (A0_5) ((p1.Lines).length) (c0_5)], .m g1 32 [.slice (A0_0) ((p0.V).length) (c0_0), .slice (A0_1) ((p0.T).length) (c0_1), .slice (A0_2) ((p0.Lines).length) (c0_2)]] ++ [.old w]) (fun s3 y3 => True) ?_ ?_
  · intro s3 y3 hx9 hG10
    subst hj3
    refine T_caseB (s := 32) rfl (fun h11 => ?_) (fun h11 => ?_)
    · have hx12 := ite_t h11 hx9
      refine T_condT rfl ?_
      refine T_seq ?_
      refine T_reg ?_
      refine T_val (Ev_assign rfl) rfl ?_
      refine T_nil ?_
      refine T_next ?_
      refine T_retc ?_
      refine T_outR ?_
      obtain rfl := Option.some.inj hx12
      exact T_retP (rs := [.tmp 4]) Tryz.results22 (.tmp rfl (.nil)) (Ln := []) ⟨rfl, rfl, trivial⟩ (loNil) (by exact .drop 0 rfl (.drop 0 rfl (.refl)))
    · have hx13 := ite_bf h11 hx9
      refine T_condF rfl ?_
      refine T_skip ?_
      refine T_next ?_
      obtain ⟨j5, hj5, hx13⟩ := jn_some hx13
      refine T_cutP (τ := Unit) (γ := Unit) (J := j5) (out := r) (fun s5 y5 => [(2, .pointer (some ⟨g1, 0, none⟩)), (3, .pointer (some ⟨g2, 0, none⟩))]) (fun s5 y5 => [.m g2 32 [.slice (A0_3) ((p1.V).length) (c0_3), .slice (A0_4) ((p1.T).length) (c0_4), .slice (A0_5) ((p1.Lines).length) (c0_5)], .m g1 32 [.slice (A0_0) ((p0.V).length) (c0_0), .slice (A0_1) ((p0.T).length) (c0_1), .slice (A0_2) ((p0.Lines).length) (c0_2)]] ++ [.old w]) (fun s5 y5 => True) ?_ ?_
      · intro s5 y5 hx72 hG73
        subst hj5
        obtain ⟨j19, hj19, hx72⟩ := jn_some hx72
        refine T_cutP (τ := Unit) (γ := Unit) (J := j19) (out := r) (fun s19 y19 => [(2, .pointer (some ⟨g1, 0, none⟩)), (3, .pointer (some ⟨g2, 0, none⟩))]) (fun s19 y19 => [.m g2 32 [.slice (A0_3) ((p1.V).length) (c0_3), .slice (A0_4) ((p1.T).length) (c0_4), .slice (A0_5) ((p1.Lines).length) (c0_5)], .m g1 32 [.slice (A0_0) ((p0.V).length) (c0_0), .slice (A0_1) ((p0.T).length) (c0_1), .slice (A0_2) ((p0.Lines).length) (c0_2)]] ++ [.old w]) (fun s19 y19 => True) ?_ ?_
        · intro s19 y19 hx132 hG133
          subst hj19
          obtain ⟨j33, hj33, hx132⟩ := jn_some hx132
          refine T_cutP (τ := Unit) (γ := Unit) (J := j33) (out := r) (fun s33 y33 => []) (fun s33 y33 => [] ++ [.old w]) (fun s33 y33 => True) ?_ ?_
          · intro s33 y33 hx192 hG193
            subst hj33
            refine T_seq ?_
            refine T_reg ?_
            refine T_val (Ev_assign rfl) rfl ?_
            refine T_nil ?_
            refine T_next ?_
            refine T_retc ?_
            obtain rfl := Option.some.inj hx192
            exact T_retP (rs := [.tmp 4]) Tryz.results22 (.tmp rfl (.nil)) (Ln := []) ⟨rfl, rfl, trivial⟩ (loNil) (by exact .refl)
          · skip
            refine T_seq ?_
            refine T_reg ?_
            refine T_val (Ev_field rfl fld32_2 rfl) rfl ?_
            refine T_val (Ev_load1 rfl (i := 1) rfl rfl one23) rfl ?_
            refine T_val (Ev_len rfl 48 Tryz.underlying23) rfl ?_
            refine T_val (Ev_move rfl) rfl ?_
            refine T_nil ?_
            refine T_next ?_
            refine T_block ?_
            obtain ⟨t163, hl163, ho163⟩ := bnd_some hx132
            refine T_loopP (σ := Int) (γ := Unit) hl163 (fun s163 y163 => [(2, .pointer (some ⟨g1, 0, none⟩)), (3, .pointer (some ⟨g2, 0, none⟩)), (71, .int .i64 ((((p0.Lines).length : Nat) : Int))), (72, .int .i64 (s163))]) (fun s163 y163 => [.m g2 32 [.slice (A0_3) ((p1.V).length) (c0_3), .slice (A0_4) ((p1.T).length) (c0_4), .slice (A0_5) ((p1.Lines).length) (c0_5)], .m g1 32 [.slice (A0_0) ((p0.V).length) (c0_0), .slice (A0_1) ((p0.T).length) (c0_1), .slice (A0_2) ((p0.Lines).length) (c0_2)]] ++ [.old w]) (fun s163 y163 => True) () trivial (by exact .cons rfl (.cons rfl (.cons rfl (.cons rfl (.nil))))) (by exact .pick 0 rfl (.pick 0 rfl (.refl))) ?_
            intro s163 y163 hG163 x163 hx163 ht163
            unfold lidarref06_SameMesh_l16 at hx163
            refine T_seq ?_
            refine T_reg ?_
            refine T_val (Ev_lss rfl rfl) rfl ?_
            refine T_nil ?_
            refine T_next ?_
            refine T_seq ?_
            refine T_caseP (s := 73) rfl (fun h164 => ?_) (fun h164 => ?_)
            · have hx165 := ite_t h164 hx163
              refine T_condT rfl ?_
              refine T_skip ?_
              refine T_next ?_
              refine T_seq ?_
              refine T_block ?_
              refine T_seq ?_
              refine T_reg ?_
              refine T_val (Ev_move rfl) rfl ?_
              refine T_val (Ev_assign rfl) rfl ?_
              refine T_nil ?_
              refine T_next ?_
              refine T_seq ?_
              refine T_draw [0, 1, 0, 0, 1, 0, 1, 0, 0, 1, 0] [[], [0], [], [0, 1, 2], [0, 1, 2, 3], [], [5], [], [5, 6, 7], [5, 6, 7, 8], [0, 1, 2, 3, 4, 5, 6, 7, 8, 9]] (.q 0 (.q 1 (.q 2 (.q 3 (.q 4 (.q 5 (.q 6 (.q 7 (.q 8 (.q 9 (.q 10 (.done)))))))))))) mixed (by kernel_rfl) (by kernel_rfl) ?_
              refine P_p rfl rfl (Ev_field rfl fld32_2 rfl) rfl ?_
              refine P_q rfl rfl (Ev_load1 rfl (i := 1) rfl rfl one23) rfl ?_
              refine P_p rfl rfl (Ev_move rfl) rfl ?_
              obtain ⟨x167, h168, hx169⟩ := bnd_some hx165
              have hw177 := Has.low (E := []) ha2' hK
              obtain ⟨b170, o171, j172, hA173, hj174, hl175, hp176⟩ := Has.at_idx hw177 h168
              refine P_p rfl rfl (Ev_index rfl rfl hA173 (j := j172) hj174 hl175 slc23) rfl ?_
              refine P_q rfl rfl (Ev_loadPK0 rfl hp176 (SubE.cons2 (i := 2) rfl (SubE.nil)) rfl agg48) rfl ?_
              refine P_p rfl rfl (Ev_field rfl fld32_2 rfl) rfl ?_
              refine P_q rfl rfl (Ev_load1 rfl (i := 0) rfl rfl one23) rfl ?_
              refine P_p rfl rfl (Ev_move rfl) rfl ?_
              obtain ⟨x178, h179, hx180⟩ := bnd_some hx169
              have hw188 := Has.low (E := []) ha5' hK
              obtain ⟨b181, o182, j183, hA184, hj185, hl186, hp187⟩ := Has.at_idx hw188 h179
              refine P_p rfl rfl (Ev_index rfl rfl hA184 (j := j183) hj185 hl186 slc23) rfl ?_
              refine P_q rfl rfl (Ev_loadPK0 rfl hp187 (SubE.cons2 (i := 2) rfl (SubE.nil)) rfl agg48) rfl ?_
              refine P_p rfl rfl (Ev_neqS rfl rfl (by kernel_rfl) (seq48 _ _ _ _)) rfl ?_
              refine P_done ?_
              refine T_next ?_
              refine T_caseNB (s := 85) rfl (fun h189 => ?_) (fun h189 => ?_)
              · have hx190 := ite_bf h189 hx180
                refine T_condT rfl ?_
                refine T_seq ?_
                refine T_reg ?_
                refine T_val (Ev_assign rfl) rfl ?_
                refine T_nil ?_
                refine T_next ?_
                refine T_retc ?_
                refine T_inR ?_
                refine T_outR ?_
                obtain rfl := exit_eq ht163 hx190
                refine T_outR ?_
                refine T_inR ?_
                refine T_outR ?_
                obtain rfl := Option.some.inj ho163
                exact T_retP (rs := [.tmp 4]) Tryz.results22 (.tmp rfl (.nil)) (Ln := []) ⟨rfl, rfl, trivial⟩ (loNil) (by exact .drop 0 rfl (.drop 0 rfl (.refl)))
              · have hx191 := ite_t h189 hx180
                refine T_condF rfl ?_
                refine T_skip ?_
                refine T_inN ?_
                refine T_next ?_
                refine T_reg ?_
                refine T_val (Ev_add_w64 rfl rfl) rfl ?_
                refine T_val (Ev_move rfl) rfl ?_
                refine T_nil ?_
                exact T_roundP (w64 (s163 + 1)) () hx191 trivial (by exact .cons rfl (.cons rfl (.cons rfl (.cons rfl (.nil))))) (by exact .pick 0 rfl (.pick 0 rfl (.refl)))
            · have hx166 := ite_f h164 hx163
              refine T_condF rfl ?_
              refine T_exit ?_
              refine T_outX ?_
              obtain rfl := exit_eq ht163 hx166
              refine T_outX ?_
              refine T_here ?_
              exact T_metP () () ho163 trivial (by exact .nil) (by exact .drop 0 rfl (.drop 0 rfl (.refl)))
        · skip
          refine T_seq ?_
          refine T_reg ?_
          refine T_val (Ev_field rfl fld32_1 rfl) rfl ?_
          refine T_val (Ev_load1 rfl (i := 1) rfl rfl one30) rfl ?_
          refine T_val (Ev_len rfl 35 Tryz.underlying30) rfl ?_
          refine T_val (Ev_move rfl) rfl ?_
          refine T_nil ?_
          refine T_next ?_
          refine T_block ?_
          obtain ⟨t103, hl103, ho103⟩ := bnd_some hx72
          refine T_loopP (σ := Int) (γ := Unit) hl103 (fun s103 y103 => [(2, .pointer (some ⟨g1, 0, none⟩)), (3, .pointer (some ⟨g2, 0, none⟩)), (53, .int .i64 ((((p0.T).length : Nat) : Int))), (54, .int .i64 (s103))]) (fun s103 y103 => [.m g2 32 [.slice (A0_3) ((p1.V).length) (c0_3), .slice (A0_4) ((p1.T).length) (c0_4), .slice (A0_5) ((p1.Lines).length) (c0_5)], .m g1 32 [.slice (A0_0) ((p0.V).length) (c0_0), .slice (A0_1) ((p0.T).length) (c0_1), .slice (A0_2) ((p0.Lines).length) (c0_2)]] ++ [.old w]) (fun s103 y103 => True) () trivial (by exact .cons rfl (.cons rfl (.cons rfl (.cons rfl (.nil))))) (by exact .pick 0 rfl (.pick 0 rfl (.refl))) ?_
          intro s103 y103 hG103 x103 hx103 ht103
          unfold lidarref06_SameMesh_l10 at hx103
          refine T_seq ?_
          refine T_reg ?_
          refine T_val (Ev_lss rfl rfl) rfl ?_
          refine T_nil ?_
          refine T_next ?_
          refine T_seq ?_
          refine T_caseP (s := 55) rfl (fun h104 => ?_) (fun h104 => ?_)
          · have hx105 := ite_t h104 hx103
            refine T_condT rfl ?_
            refine T_skip ?_
            refine T_next ?_
            refine T_seq ?_
            refine T_block ?_
            refine T_seq ?_
            refine T_reg ?_
            refine T_val (Ev_move rfl) rfl ?_
            refine T_val (Ev_assign rfl) rfl ?_
            refine T_nil ?_
            refine T_next ?_
            refine T_seq ?_
            refine T_draw [0, 1, 0, 0, 1, 0, 1, 0, 0, 1, 0] [[], [0], [], [0, 1, 2], [0, 1, 2, 3], [], [5], [], [5, 6, 7], [5, 6, 7, 8], [0, 1, 2, 3, 4, 5, 6, 7, 8, 9]] (.q 0 (.q 1 (.q 2 (.q 3 (.q 4 (.q 5 (.q 6 (.q 7 (.q 8 (.q 9 (.q 10 (.done)))))))))))) mixed (by kernel_rfl) (by kernel_rfl) ?_
            refine P_p rfl rfl (Ev_field rfl fld32_1 rfl) rfl ?_
            refine P_q rfl rfl (Ev_load1 rfl (i := 1) rfl rfl one30) rfl ?_
            refine P_p rfl rfl (Ev_move rfl) rfl ?_
            obtain ⟨x107, h108, hx109⟩ := bnd_some hx105
            have hw117 := Has.low (E := []) ha1' hK
            obtain ⟨b110, o111, j112, hA113, hj114, hl115, hp116⟩ := Has.at_idx hw117 h108
            refine P_p rfl rfl (Ev_index rfl rfl hA113 (j := j112) hj114 hl115 slc30) rfl ?_
            refine P_q rfl rfl (Ev_loadPK0 rfl hp116 (SubE.cons2 (i := 2) rfl (SubE.nil)) rfl agg35) rfl ?_
            refine P_p rfl rfl (Ev_field rfl fld32_1 rfl) rfl ?_
            refine P_q rfl rfl (Ev_load1 rfl (i := 0) rfl rfl one30) rfl ?_
            refine P_p rfl rfl (Ev_move rfl) rfl ?_
            obtain ⟨x118, h119, hx120⟩ := bnd_some hx109
            have hw128 := Has.low (E := []) ha4' hK
            obtain ⟨b121, o122, j123, hA124, hj125, hl126, hp127⟩ := Has.at_idx hw128 h119
            refine P_p rfl rfl (Ev_index rfl rfl hA124 (j := j123) hj125 hl126 slc30) rfl ?_
            refine P_q rfl rfl (Ev_loadPK0 rfl hp127 (SubE.cons2 (i := 2) rfl (SubE.nil)) rfl agg35) rfl ?_
            refine P_p rfl rfl (Ev_neqS rfl rfl (by kernel_rfl) (seq35 _ _ _ _ _ _)) rfl ?_
            refine P_done ?_
            refine T_next ?_
            refine T_caseNB (s := 67) rfl (fun h129 => ?_) (fun h129 => ?_)
            · have hx130 := ite_bf h129 hx120
              refine T_condT rfl ?_
              refine T_seq ?_
              refine T_reg ?_
              refine T_val (Ev_assign rfl) rfl ?_
              refine T_nil ?_
              refine T_next ?_
              refine T_retc ?_
              refine T_inR ?_
              refine T_outR ?_
              obtain rfl := exit_eq ht103 hx130
              refine T_outR ?_
              refine T_inR ?_
              refine T_outR ?_
              obtain rfl := Option.some.inj ho103
              exact T_retP (rs := [.tmp 4]) Tryz.results22 (.tmp rfl (.nil)) (Ln := []) ⟨rfl, rfl, trivial⟩ (loNil) (by exact .drop 0 rfl (.drop 0 rfl (.refl)))
            · have hx131 := ite_t h129 hx120
              refine T_condF rfl ?_
              refine T_skip ?_
              refine T_inN ?_
              refine T_next ?_
              refine T_reg ?_
              refine T_val (Ev_add_w64 rfl rfl) rfl ?_
              refine T_val (Ev_move rfl) rfl ?_
              refine T_nil ?_
              exact T_roundP (w64 (s103 + 1)) () hx131 trivial (by exact .cons rfl (.cons rfl (.cons rfl (.cons rfl (.nil))))) (by exact .pick 0 rfl (.pick 0 rfl (.refl)))
          · have hx106 := ite_f h104 hx103
            refine T_condF rfl ?_
            refine T_exit ?_
            refine T_outX ?_
            obtain rfl := exit_eq ht103 hx106
            refine T_outX ?_
            refine T_here ?_
            exact T_metP () () ho103 trivial (by exact .cons rfl (.cons rfl (.nil))) (by exact .pick 0 rfl (.pick 0 rfl (.refl)))
      · skip
        refine T_seq ?_
        refine T_reg ?_
        refine T_val (Ev_field rfl fld32_0 rfl) rfl ?_
        refine T_val (Ev_load1 rfl (i := 1) rfl rfl one22) rfl ?_
        refine T_val (Ev_len rfl 43 Tryz.underlying22) rfl ?_
        refine T_val (Ev_move rfl) rfl ?_
        refine T_nil ?_
        refine T_next ?_
        refine T_block ?_
        obtain ⟨t43, hl43, ho43⟩ := bnd_some hx13
        refine T_loopP (σ := Int) (γ := Unit) hl43 (fun s43 y43 => [(2, .pointer (some ⟨g1, 0, none⟩)), (3, .pointer (some ⟨g2, 0, none⟩)), (35, .int .i64 ((((p0.V).length : Nat) : Int))), (36, .int .i64 (s43))]) (fun s43 y43 => [.m g2 32 [.slice (A0_3) ((p1.V).length) (c0_3), .slice (A0_4) ((p1.T).length) (c0_4), .slice (A0_5) ((p1.Lines).length) (c0_5)], .m g1 32 [.slice (A0_0) ((p0.V).length) (c0_0), .slice (A0_1) ((p0.T).length) (c0_1), .slice (A0_2) ((p0.Lines).length) (c0_2)]] ++ [.old w]) (fun s43 y43 => True) () trivial (by exact .cons rfl (.cons rfl (.cons rfl (.cons rfl (.nil))))) (by exact .pick 0 rfl (.pick 0 rfl (.refl))) ?_
        intro s43 y43 hG43 x43 hx43 ht43
        unfold lidarref06_SameMesh_l4 at hx43
        refine T_seq ?_
        refine T_reg ?_
        refine T_val (Ev_lss rfl rfl) rfl ?_
        refine T_nil ?_
        refine T_next ?_
        refine T_seq ?_
        refine T_caseP (s := 37) rfl (fun h44 => ?_) (fun h44 => ?_)
        · have hx45 := ite_t h44 hx43
          refine T_condT rfl ?_
          refine T_skip ?_
          refine T_next ?_
          refine T_seq ?_
          refine T_block ?_
          refine T_seq ?_
          refine T_reg ?_
          refine T_val (Ev_move rfl) rfl ?_
          refine T_val (Ev_assign rfl) rfl ?_
          refine T_nil ?_
          refine T_next ?_
          refine T_seq ?_
          refine T_draw [0, 1, 0, 0, 1, 0, 1, 0, 0, 1, 0] [[], [0], [], [0, 1, 2], [0, 1, 2, 3], [], [5], [], [5, 6, 7], [5, 6, 7, 8], [0, 1, 2, 3, 4, 5, 6, 7, 8, 9]] (.q 0 (.q 1 (.q 2 (.q 3 (.q 4 (.q 5 (.q 6 (.q 7 (.q 8 (.q 9 (.q 10 (.done)))))))))))) mixed (by kernel_rfl) (by kernel_rfl) ?_
          refine P_p rfl rfl (Ev_field rfl fld32_0 rfl) rfl ?_
          refine P_q rfl rfl (Ev_load1 rfl (i := 1) rfl rfl one22) rfl ?_
          refine P_p rfl rfl (Ev_move rfl) rfl ?_
          obtain ⟨x47, h48, hx49⟩ := bnd_some hx45
          have hw57 := Has.low (E := []) ha0' hK
          obtain ⟨b50, o51, j52, hA53, hj54, hl55, hp56⟩ := Has.at_idx hw57 h48
          refine P_p rfl rfl (Ev_index rfl rfl hA53 (j := j52) hj54 hl55 slc22) rfl ?_
          refine P_q rfl rfl (Ev_loadPK0 rfl hp56 (SubE.cons2 (i := 2) rfl (SubE.nil)) rfl agg43) rfl ?_
          refine P_p rfl rfl (Ev_field rfl fld32_0 rfl) rfl ?_
          refine P_q rfl rfl (Ev_load1 rfl (i := 0) rfl rfl one22) rfl ?_
          refine P_p rfl rfl (Ev_move rfl) rfl ?_
          obtain ⟨x58, h59, hx60⟩ := bnd_some hx49
          have hw68 := Has.low (E := []) ha3' hK
          obtain ⟨b61, o62, j63, hA64, hj65, hl66, hp67⟩ := Has.at_idx hw68 h59
          refine P_p rfl rfl (Ev_index rfl rfl hA64 (j := j63) hj65 hl66 slc22) rfl ?_
          refine P_q rfl rfl (Ev_loadPK0 rfl hp67 (SubE.cons2 (i := 2) rfl (SubE.nil)) rfl agg43) rfl ?_
          refine P_p rfl rfl (Ev_neqS rfl rfl (by kernel_rfl) (seq43 _ _ _ _ _ _ _ _)) rfl ?_
          refine P_done ?_
          refine T_next ?_
          refine T_caseNB (s := 49) rfl (fun h69 => ?_) (fun h69 => ?_)
          · have hx70 := ite_bf h69 hx60
            refine T_condT rfl ?_
            refine T_seq ?_
            refine T_reg ?_
            refine T_val (Ev_assign rfl) rfl ?_
            refine T_nil ?_
            refine T_next ?_
            refine T_retc ?_
            refine T_inR ?_
            refine T_outR ?_
            obtain rfl := exit_eq ht43 hx70
            refine T_outR ?_
            refine T_inR ?_
            refine T_outR ?_
            obtain rfl := Option.some.inj ho43
            exact T_retP (rs := [.tmp 4]) Tryz.results22 (.tmp rfl (.nil)) (Ln := []) ⟨rfl, rfl, trivial⟩ (loNil) (by exact .drop 0 rfl (.drop 0 rfl (.refl)))
          · have hx71 := ite_t h69 hx60
            refine T_condF rfl ?_
            refine T_skip ?_
            refine T_inN ?_
            refine T_next ?_
            refine T_reg ?_
            refine T_val (Ev_add_w64 rfl rfl) rfl ?_
            refine T_val (Ev_move rfl) rfl ?_
            refine T_nil ?_
            exact T_roundP (w64 (s43 + 1)) () hx71 trivial (by exact .cons rfl (.cons rfl (.cons rfl (.cons rfl (.nil))))) (by exact .pick 0 rfl (.pick 0 rfl (.refl)))
        · have hx46 := ite_f h44 hx43
          refine T_condF rfl ?_
          refine T_exit ?_
          refine T_outX ?_
          obtain rfl := exit_eq ht43 hx46
          refine T_outX ?_
          refine T_here ?_
          exact T_metP () () ho43 trivial (by exact .cons rfl (.cons rfl (.nil))) (by exact .pick 0 rfl (.pick 0 rfl (.refl)))
  · skip
    refine T_reg ?_
    refine T_val (Ev_field rfl fld32_0 rfl) rfl ?_
    refine T_val (Ev_load1 rfl (i := 1) rfl rfl one22) rfl ?_
    refine T_val (Ev_len rfl 43 Tryz.underlying22) rfl ?_
    refine T_val (Ev_field rfl fld32_0 rfl) rfl ?_
    refine T_val (Ev_load1 rfl (i := 0) rfl rfl one22) rfl ?_
    refine T_val (Ev_len rfl 43 Tryz.underlying22) rfl ?_
    refine T_val (Ev_neq rfl rfl) rfl ?_
    refine T_val (Ev_move rfl) rfl ?_
    refine T_caseNP (s := 15) rfl (fun h3 => ?_) (fun h3 => ?_)
    · have hx4 := ite_f h3 hx
      refine T_skipG rfl rfl rfl rfl rfl ?_
      refine T_skipG rfl rfl rfl rfl rfl ?_
      refine T_skipG rfl rfl rfl rfl rfl ?_
      refine T_skipG rfl rfl rfl rfl rfl ?_
      refine T_skipG rfl rfl rfl rfl rfl ?_
      refine T_skipG rfl rfl rfl rfl rfl ?_
      refine T_skipG rfl rfl rfl rfl rfl ?_
      refine T_val (Ev_pickT rfl rfl) rfl ?_
      refine T_val (Ev_move rfl) rfl ?_
      refine T_skipG rfl rfl rfl rfl rfl ?_
      refine T_skipG rfl rfl rfl rfl rfl ?_
      refine T_skipG rfl rfl rfl rfl rfl ?_
      refine T_skipG rfl rfl rfl rfl rfl ?_
      refine T_skipG rfl rfl rfl rfl rfl ?_
      refine T_skipG rfl rfl rfl rfl rfl ?_
      refine T_skipG rfl rfl rfl rfl rfl ?_
      refine T_val (Ev_pickT rfl rfl) rfl ?_
      refine T_nil ?_
      exact T_metP true () hx4 trivial (by exact .cons rfl (.cons rfl (.cons rfl (.nil)))) (by exact .pick 0 rfl (.pick 0 rfl (.refl)))
    · have hx5 := ite_t h3 hx
      refine T_valG rfl rfl rfl (Ev_field rfl fld32_1 rfl) rfl ?_
      refine T_valG rfl rfl rfl (Ev_load1 rfl (i := 1) rfl rfl one30) rfl ?_
      refine T_valG rfl rfl rfl (Ev_len rfl 35 Tryz.underlying30) rfl ?_
      refine T_valG rfl rfl rfl (Ev_field rfl fld32_1 rfl) rfl ?_
      refine T_valG rfl rfl rfl (Ev_load1 rfl (i := 0) rfl rfl one30) rfl ?_
      refine T_valG rfl rfl rfl (Ev_len rfl 35 Tryz.underlying30) rfl ?_
      refine T_valG rfl rfl rfl (Ev_neq rfl rfl) rfl ?_
      refine T_val (Ev_pickF rfl rfl) rfl ?_
      refine T_val (Ev_move rfl) rfl ?_
      refine T_caseNP (s := 24) rfl (fun h6 => ?_) (fun h6 => ?_)
      · have hx7 := ite_f h6 hx5
        refine T_skipG rfl rfl rfl rfl rfl ?_
        refine T_skipG rfl rfl rfl rfl rfl ?_
        refine T_skipG rfl rfl rfl rfl rfl ?_
        refine T_skipG rfl rfl rfl rfl rfl ?_
        refine T_skipG rfl rfl rfl rfl rfl ?_
        refine T_skipG rfl rfl rfl rfl rfl ?_
        refine T_skipG rfl rfl rfl rfl rfl ?_
        refine T_val (Ev_pickT rfl rfl) rfl ?_
        refine T_nil ?_
        exact T_metP true () hx7 trivial (by exact .cons rfl (.cons rfl (.cons rfl (.nil)))) (by exact .pick 0 rfl (.pick 0 rfl (.refl)))
      · have hx8 := ite_t h6 hx5
        refine T_valG rfl rfl rfl (Ev_field rfl fld32_2 rfl) rfl ?_
        refine T_valG rfl rfl rfl (Ev_load1 rfl (i := 1) rfl rfl one23) rfl ?_
        refine T_valG rfl rfl rfl (Ev_len rfl 48 Tryz.underlying23) rfl ?_
        refine T_valG rfl rfl rfl (Ev_field rfl fld32_2 rfl) rfl ?_
        refine T_valG rfl rfl rfl (Ev_load1 rfl (i := 0) rfl rfl one23) rfl ?_
        refine T_valG rfl rfl rfl (Ev_len rfl 48 Tryz.underlying23) rfl ?_
        refine T_valG rfl rfl rfl (Ev_neq rfl rfl) rfl ?_
        refine T_val (Ev_pickF rfl rfl) rfl ?_
        refine T_nil ?_
        exact T_metP (!(decide (((((p0.Lines).length : Nat) : Int)) = ((((p1.Lines).length : Nat) : Int))))) () hx8 trivial (by exact .cons rfl (.cons rfl (.cons rfl (.nil)))) (by exact .pick 0 rfl (.pick 0 rfl (.refl)))
end Go.Proofs.YtlkgeeppfifeeaaGreat
