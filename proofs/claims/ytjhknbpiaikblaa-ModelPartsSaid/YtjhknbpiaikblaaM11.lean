/- Walks of the program, with their plain functions: groups of nodes. -/
import Derived.Test.YtjhknbpiaikblaaM7
import Derived.Test.YtjhknbpiaikblaaFlow7
namespace Go.Proofs.Ytjhknbpiaikblaa
open Go Go.RowKit
theorem bls91_1_0s (x0 : Option Addr) (x1 : Nat) (x2 : Nat) : BuildSliceOf Try.prog 91 1 [(0, .slice x0 x1 x2)] 27 [.slice x0 x1 x2] := fun w => by kernel_rfl
theorem elm91 : ElemOf Try.prog 91 27 1 24 := ⟨Try.underlying91, ⟨Try.t27, .slice (none) (0) (0), by kernel_rfl, by kernel_rfl, by kernel_rfl, by kernel_rfl, rfl⟩, by decide⟩
noncomputable def model_neighbours (p0 : S_api_Raster) (p1 : Int) : Option (List Int) :=
 gd (p0.NX ≠ 0) <|
 gd (p0.NX ≠ 0) <|
 jn (fun (s4 : List Int) =>
 jn (fun (s6 : List Int) =>
 jn (fun (s8 : List Int) =>
 jn (fun (s10 : List Int) =>
 some s10)
 (fun j10 => if (w64 ((w64 (Int.tdiv p1 p0.NX)) + 1)) < p0.NY then (gd (((s8).length + 1) * 8 ≤ 140737488355328) <|
 j10 (s8 ++ [w64 (p1 + p0.NX)]))
 else (j10 s8)))
 (fun j8 => if (w64 ((Int.tmod p1 p0.NX) + 1)) < p0.NX then (gd (((s6).length + 1) * 8 ≤ 140737488355328) <|
 j8 (s6 ++ [w64 (p1 + 1)]))
 else (j8 s6)))
 (fun j6 => if 0 < (Int.tmod p1 p0.NX) then (gd (((s4).length + 1) * 8 ≤ 140737488355328) <|
 j6 (s4 ++ [w64 (p1 - 1)]))
 else (j6 s4)))
 (fun j4 => if 0 < (w64 (Int.tdiv p1 p0.NX)) then (gd (((([] : List Int)).length + 1) * 8 ≤ 140737488355328) <|
 j4 ((([] : List Int)) ++ [w64 (p1 - p0.NX)]))
 else (j4 ([] : List Int)))
def n_List_Int (K : List Ent) (x : List Int) (ys : List Value) : Prop := ∃ (A0 : Option Addr) (c0 : Nat), ys = [.slice (A0) ((x).length) (c0)] ∧ Has K A0 (x).length c0 1 e_i64 (x)
theorem n_List_Int_mono {K L : List Ent} {x : List Int} {ys : List Value} (hK : SubE K L) (h : n_List_Int K x ys) : n_List_Int L x ys := by
  obtain ⟨A0, c0, h0, h1⟩ := h
  exact ⟨A0, c0, h0, Has.up h1 hK⟩
noncomputable def model_groups_l15 (r656 : List Int) (p1 : List Int) (x415 : Int) (s626 : (List Bool) × (List Int) × (List Int)) (x635 : Int) : ((List Bool) × (List Int) × Int) → Option (Sum ((List Bool) × (List Int) × Int) ((List Bool) × (List Int) × (List Int))) := fun s728 =>
 if s728.2.2 < ((((r656).length : Nat) : Int)) then (jn (fun (s95 : (List Bool) × (List Int)) =>
 some (.inl (s95.1, s95.2, w64 (s728.2.2 + 1))))
 (fun j95 => bnd (idx r656 s728.2.2) fun x734 =>
 jn (fun (s97 : Bool) =>
 if s97 = true then (bnd (idx s728.1 x734) fun x774 =>
 gd (((s728.2.1).length + 1) * 8 ≤ 140737488355328) <|
 j95 (setI s728.1 x734 true, s728.2.1 ++ [x734]))
 else (j95 (s728.1, s728.2.1)))
 (fun j97 => bnd (idx p1 x734) fun x745 =>
 if x745 = x415 then (bnd (idx s728.1 x734) fun x758 =>
 j97 (!(x758)))
 else (j97 false))))
 else (some (.inr (s728.1, s728.2.1, s626.2.2 ++ [x635])))
noncomputable def model_groups_l10 (p0 : S_api_Raster) (p1 : List Int) (x415 : Int) : ((List Bool) × (List Int) × (List Int)) → Option (Sum ((List Bool) × (List Int) × (List Int)) ((List Bool) × (List Int))) := fun s626 =>
 if 0 < ((((s626.2.1).length : Nat) : Int)) then (bnd (idx s626.2.1 (w64 (((((s626.2.1).length : Nat) : Int)) - 1))) fun x635 =>
 gd (0 ≤ (w64 (((((s626.2.1).length : Nat) : Int)) - 1)) ∧ (w64 (((((s626.2.1).length : Nat) : Int)) - 1)) ≤ (((s626.2.1).length : Nat) : Int)) <|
 gd (((s626.2.2).length + 1) * 8 ≤ 140737488355328) <|
 bnd (model_neighbours p0 x635) fun r656 =>
 bnd (lfix (model_groups_l15 r656 p1 x415 s626 x635) (s626.1, List.take (Int.toNat (w64 (((((s626.2.1).length : Nat) : Int)) - 1))) s626.2.1, 0)) fun t728 =>
 some (.inl t728))
 else (some (.inr (s626.1, s626.2.2)))
noncomputable def model_groups_l4 (p1 : List Int) (p0 : S_api_Raster) : ((List Bool) × (List (List Int)) × Int) → Option (Sum ((List Bool) × (List (List Int)) × Int) (List (List Int))) := fun s409 =>
 if s409.2.2 < ((((p1).length : Nat) : Int)) then (jn (fun (s55 : (List Bool) × (List (List Int))) =>
 some (.inl (s55.1, s55.2, w64 (s409.2.2 + 1))))
 (fun j55 => bnd (idx p1 s409.2.2) fun x415 =>
 jn (fun (s58 : Bool) =>
 if s58 = true then (j55 (s409.1, s409.2.1))
 else (bnd (idx s409.1 s409.2.2) fun x445 =>
 jn (fun (s62 : (List Bool) × (List Int)) =>
 gd ((s62.2).length ≤ 1000000) <|
 gd (((s409.2.1).length + 1) * 24 ≤ 140737488355328) <|
 j55 (s62.1, s409.2.1 ++ [sortI s62.2]))
 (fun j62 => bnd (lfix (model_groups_l10 p0 p1 x415) (setI s409.1 s409.2.2 true, [s409.2.2], ([] : List Int))) fun t626 =>
 j62 t626)))
 (fun j58 => if x415 = 0 then (j58 true)
 else (bnd (idx s409.1 s409.2.2) fun x429 =>
 j58 x429))))
 else (some (.inr s409.2.1))
noncomputable def model_groups (p0 : S_api_Raster) (p1 : List Int) : Option (List (List Int)) :=
 gd ((0 : Int) ≤ ((((p1).length : Nat) : Int)) ∧ 1 * Int.toNat ((((p1).length : Nat) : Int)) ≤ 140737488355328) <|
 jn (fun (s4 : List (List Int)) =>
 some s4)
 (fun j4 => bnd (lfix (model_groups_l4 p1 p0) (List.replicate (Int.toNat ((((p1).length : Nat) : Int))) (false : Bool), ([] : List (List Int)), 0)) fun t409 =>
 j4 t409)
noncomputable def lidarlaw09_good (p0 : S_api_Grid) : Option Bool :=
 jn (fun (s2 : Bool) =>
 some s2)
 (fun j2 => if ((((p0.Cells).length : Nat) : Int)) ≤ 100 then (bnd (lidarref09_Valid p0) fun r4 =>
 j2 r4)
 else (j2 false))
noncomputable def lidarlaw09_sameInts_l4 (p0 : List Int) (p1 : List Int) : Int → Option (Sum Int (Sum Unit Bool)) := fun s33 =>
 if s33 < ((((p0).length : Nat) : Int)) then (bnd (idx p0 s33) fun x37 =>
 bnd (idx p1 s33) fun x48 =>
 if x37 = x48 then (some (.inl (w64 (s33 + 1))))
 else (some (.inr (.inr (false)))))
 else (some (.inr (.inl ())))
noncomputable def lidarlaw09_sameInts (p0 : List Int) (p1 : List Int) : Option Bool :=
 if ((((p0).length : Nat) : Int)) = ((((p1).length : Nat) : Int)) then (jn (fun (s5 : Unit) =>
 some true)
 (fun j5 => bnd (lfix (lidarlaw09_sameInts_l4 p0 p1) 0) fun t33 =>
 (match t33 with
 | (.inl z33) => j5 z33
 | (.inr (z33)) => some z33
 )))
 else (some false)
set_option maxRecDepth 100000 in
theorem model_neighbours_ok (p0 : S_api_Raster) (p1 : Int)  {r : List Int} (hx : model_neighbours p0 p1 = some r) (w : World) : CtL Try.prog 123 [.agg #[.int .i64 (p0.X0), .int .i64 (p0.Y0), .int .i64 (p0.Step), .int .i64 (p0.NX), .int .i64 (p0.NY)], .int .i64 (p1)] w fun v Ln => ∃ (A0 : Option Addr) (c0 : Nat), v = .slice (A0) ((r).length) (c0) ∧ Ln = [.r A0 (r).length c0 3 1 ((r).flatMap e_i64)] ∧ True := by
  refine CtL.mk 55 Try.func123 rfl Try.ntmps123 (by kernel_rfl) rfl ?_
  show T 55 _ [(0, .agg #[.int .i64 (p0.X0), .int .i64 (p0.Y0), .int .i64 (p0.Step), .int .i64 (p0.NX), .int .i64 (p0.NY)]), (1, .int .i64 (p1))] _
  unfold model_neighbours at hx
  refine T_seq ?_
  refine T_reg ?_
  refine T_x (Wx_box rfl rfl rfl (fun g1 => ?_))
  refine T_val (Ev_assign rfl) rfl ?_
  refine T_nil ?_
  refine T_next ?_
  refine T_seq ?_
  refine T_reg ?_
  refine T_val (Ev_assign rfl) rfl ?_
  refine T_nil ?_
  refine T_next ?_
  refine T_seq ?_
  refine T_draw [0, 0, 1, 0, 0, 0, 1, 0, 2, 2] [[], [], [1], [0, 1, 2], [], [], [5], [4, 5, 6], [0, 1, 2, 3], [0, 1, 2, 3, 4, 5, 6, 7, 8]] (.q 0 (.q 1 (.q 2 (.q 3 (.q 4 (.q 5 (.q 6 (.q 7 (.e 8 (.e 9 (.done) (.stop)) (.stop)))))))))) mixed (by kernel_rfl) (by kernel_rfl) ?_
  refine P_p rfl rfl (Ev_move rfl) rfl ?_
  refine P_p rfl rfl (Ev_field rfl fld23_3 rfl) rfl ?_
  refine P_q rfl rfl (Ev_load1 rfl (i := 0) rfl rfl one3) rfl ?_
  obtain ⟨h2, hx3⟩ := gd_some hx
  refine P_p rfl rfl (Ev_rem rfl rfl h2) rfl ?_
  refine P_p rfl rfl (Ev_move rfl) rfl ?_
  refine P_p rfl rfl (Ev_field rfl fld23_3 rfl) rfl ?_
  refine P_q rfl rfl (Ev_load1 rfl (i := 0) rfl rfl one3) rfl ?_
  obtain ⟨h4, hx5⟩ := gd_some hx3
  refine P_p rfl rfl (Ev_quo_w64 rfl rfl h4) rfl ?_
  refine P_x rfl (Wx_val (Ev_assign rfl) rfl ?_) ?_
  rotate_left; exact P_stop
  refine P_x rfl (Wx_val (Ev_assign rfl) rfl ?_) ?_
  rotate_left; exact P_stop
  refine P_done ?_
  refine T_next ?_
  obtain ⟨j4, hj4, hx5⟩ := jn_some hx5
  refine T_cutP (τ := List Int) (γ := (Option Addr) × Nat) (J := j4) (out := r) (fun s4 y4 => [(1, .int .i64 (p1)), (2, .pointer (some ⟨g1, 0, none⟩)), (5, .slice (y4.1) ((s4).length) (y4.2)), (6, .int .i64 (Int.tmod p1 p0.NX)), (7, .int .i64 (w64 (Int.tdiv p1 p0.NX)))]) (fun s4 y4 => [.r (y4.1) ((s4).length) (y4.2) 3 1 ((s4).flatMap e_i64), .m g1 23 [.int .i64 (p0.X0), .int .i64 (p0.Y0), .int .i64 (p0.Step), .int .i64 (p0.NX), .int .i64 (p0.NY)]] ++ [.old w]) (fun s4 y4 => True) ?_ ?_
  · intro s4 y4 hx14 hG15
    subst hj4
    obtain ⟨j6, hj6, hx14⟩ := jn_some hx14
    refine T_cutP (τ := List Int) (γ := (Option Addr) × Nat) (J := j6) (out := r) (fun s6 y6 => [(1, .int .i64 (p1)), (2, .pointer (some ⟨g1, 0, none⟩)), (5, .slice (y6.1) ((s6).length) (y6.2)), (6, .int .i64 (Int.tmod p1 p0.NX)), (7, .int .i64 (w64 (Int.tdiv p1 p0.NX)))]) (fun s6 y6 => [.r (y6.1) ((s6).length) (y6.2) 3 1 ((s6).flatMap e_i64), .m g1 23 [.int .i64 (p0.X0), .int .i64 (p0.Y0), .int .i64 (p0.Step), .int .i64 (p0.NX), .int .i64 (p0.NY)]] ++ [.old w]) (fun s6 y6 => True) ?_ ?_
    · intro s6 y6 hx24 hG25
      subst hj6
      obtain ⟨j8, hj8, hx24⟩ := jn_some hx24
      refine T_cutP (τ := List Int) (γ := (Option Addr) × Nat) (J := j8) (out := r) (fun s8 y8 => [(1, .int .i64 (p1)), (2, .pointer (some ⟨g1, 0, none⟩)), (5, .slice (y8.1) ((s8).length) (y8.2)), (7, .int .i64 (w64 (Int.tdiv p1 p0.NX)))]) (fun s8 y8 => [.r (y8.1) ((s8).length) (y8.2) 3 1 ((s8).flatMap e_i64), .m g1 23 [.int .i64 (p0.X0), .int .i64 (p0.Y0), .int .i64 (p0.Step), .int .i64 (p0.NX), .int .i64 (p0.NY)]] ++ [.old w]) (fun s8 y8 => True) ?_ ?_
      · intro s8 y8 hx34 hG35
        subst hj8
        obtain ⟨j10, hj10, hx34⟩ := jn_some hx34
        refine T_cutP (τ := List Int) (γ := (Option Addr) × Nat) (J := j10) (out := r) (fun s10 y10 => [(5, .slice (y10.1) ((s10).length) (y10.2))]) (fun s10 y10 => [.r (y10.1) ((s10).length) (y10.2) 3 1 ((s10).flatMap e_i64)] ++ [.old w]) (fun s10 y10 => True) ?_ ?_
        · intro s10 y10 hx44 hG45
          subst hj10
          refine T_seq ?_
          refine T_reg ?_
          refine T_val (Ev_move rfl) rfl ?_
          refine T_val (Ev_assign rfl) rfl ?_
          refine T_nil ?_
          refine T_next ?_
          refine T_retc ?_
          obtain rfl := Option.some.inj hx44
          exact T_retP (rs := [.tmp 4]) Try.results123 (.tmp rfl (.nil)) (Ln := [.r (y10.1) ((s10).length) (y10.2) 3 1 ((s10).flatMap e_i64)]) ⟨y10.1, y10.2, rfl, rfl, trivial⟩ (loCons rfl (loNil)) (by exact .pick 0 rfl (.refl))
        · skip
          refine T_seq ?_
          refine T_reg ?_
          refine T_val (Ev_move rfl) rfl ?_
          refine T_val (Ev_add_w64 rfl rfl) rfl ?_
          refine T_val (Ev_field rfl fld23_4 rfl) rfl ?_
          refine T_val (Ev_load1 rfl (i := 1) rfl rfl one3) rfl ?_
          refine T_val (Ev_lss rfl rfl) rfl ?_
          refine T_nil ?_
          refine T_next ?_
          refine T_caseP (s := 46) rfl (fun h36 => ?_) (fun h36 => ?_)
          · have hx37 := ite_t h36 hx34
            refine T_condT rfl ?_
            refine T_reg ?_
            refine T_val (Ev_move rfl) rfl ?_
            refine T_val (Ev_move rfl) rfl ?_
            refine T_val (Ev_field rfl fld23_3 rfl) rfl ?_
            refine T_val (Ev_load1 rfl (i := 1) rfl rfl one3) rfl ?_
            refine T_val (Ev_add_w64 rfl rfl) rfl ?_
            refine T_x (Wx_buildSlice rfl (bls27_1_0i64 _) rfl (fun g38 => ?_))
            obtain ⟨h39, hx40⟩ := gd_some hx37
            refine T_h (Wh_appendP e_i64 (s8) [w64 (p1 + p0.NX)] rfl rfl rfl elm27 (fun _ => rfl) (i' := 0) rfl rfl rfl rfl h39 rfl (fun _ _ => .there (.here)) (fun _ _ => .drop .refl) (by decide) (fun A41 c42 => ?_))
            refine T_val (Ev_assign rfl) rfl ?_
            refine T_nil ?_
            exact T_metP (s8 ++ [w64 (p1 + p0.NX)]) (A41, c42) hx40 trivial (by exact .cons rfl (.nil)) (by exact .pick 0 rfl (.drop 0 rfl (.refl)))
          · have hx43 := ite_f h36 hx34
            refine T_condF rfl ?_
            refine T_skip ?_
            exact T_metP s8 (y8.1, y8.2) hx43 trivial (by exact .cons rfl (.nil)) (by exact .pick 0 rfl (.drop 0 rfl (.refl)))
      · skip
        refine T_seq ?_
        refine T_reg ?_
        refine T_val (Ev_move rfl) rfl ?_
        refine T_val (Ev_add_w64 rfl rfl) rfl ?_
        refine T_val (Ev_field rfl fld23_3 rfl) rfl ?_
        refine T_val (Ev_load1 rfl (i := 1) rfl rfl one3) rfl ?_
        refine T_val (Ev_lss rfl rfl) rfl ?_
        refine T_nil ?_
        refine T_next ?_
        refine T_caseP (s := 36) rfl (fun h26 => ?_) (fun h26 => ?_)
        · have hx27 := ite_t h26 hx24
          refine T_condT rfl ?_
          refine T_reg ?_
          refine T_val (Ev_move rfl) rfl ?_
          refine T_val (Ev_move rfl) rfl ?_
          refine T_val (Ev_add_w64 rfl rfl) rfl ?_
          refine T_x (Wx_buildSlice rfl (bls27_1_0i64 _) rfl (fun g28 => ?_))
          obtain ⟨h29, hx30⟩ := gd_some hx27
          refine T_h (Wh_appendP e_i64 (s6) [w64 (p1 + 1)] rfl rfl rfl elm27 (fun _ => rfl) (i' := 0) rfl rfl rfl rfl h29 rfl (fun _ _ => .there (.here)) (fun _ _ => .drop .refl) (by decide) (fun A31 c32 => ?_))
          refine T_val (Ev_assign rfl) rfl ?_
          refine T_nil ?_
          exact T_metP (s6 ++ [w64 (p1 + 1)]) (A31, c32) hx30 trivial (by exact .cons rfl (.cons rfl (.cons rfl (.cons rfl (.nil))))) (by exact .pick 0 rfl (.pick 0 rfl (.refl)))
        · have hx33 := ite_f h26 hx24
          refine T_condF rfl ?_
          refine T_skip ?_
          exact T_metP s6 (y6.1, y6.2) hx33 trivial (by exact .cons rfl (.cons rfl (.cons rfl (.cons rfl (.nil))))) (by exact .pick 0 rfl (.pick 0 rfl (.refl)))
    · skip
      refine T_seq ?_
      refine T_reg ?_
      refine T_val (Ev_move rfl) rfl ?_
      refine T_val (Ev_gtr rfl rfl) rfl ?_
      refine T_nil ?_
      refine T_next ?_
      refine T_caseP (s := 26) rfl (fun h16 => ?_) (fun h16 => ?_)
      · have hx17 := ite_t h16 hx14
        refine T_condT rfl ?_
        refine T_reg ?_
        refine T_val (Ev_move rfl) rfl ?_
        refine T_val (Ev_move rfl) rfl ?_
        refine T_val (Ev_sub_w64 rfl rfl) rfl ?_
        refine T_x (Wx_buildSlice rfl (bls27_1_0i64 _) rfl (fun g18 => ?_))
        obtain ⟨h19, hx20⟩ := gd_some hx17
        refine T_h (Wh_appendP e_i64 (s4) [w64 (p1 - 1)] rfl rfl rfl elm27 (fun _ => rfl) (i' := 0) rfl rfl rfl rfl h19 rfl (fun _ _ => .there (.here)) (fun _ _ => .drop .refl) (by decide) (fun A21 c22 => ?_))
        refine T_val (Ev_assign rfl) rfl ?_
        refine T_nil ?_
        exact T_metP (s4 ++ [w64 (p1 - 1)]) (A21, c22) hx20 trivial (by exact .cons rfl (.cons rfl (.cons rfl (.cons rfl (.cons rfl (.nil)))))) (by exact .pick 0 rfl (.pick 0 rfl (.refl)))
      · have hx23 := ite_f h16 hx14
        refine T_condF rfl ?_
        refine T_skip ?_
        exact T_metP s4 (y4.1, y4.2) hx23 trivial (by exact .cons rfl (.cons rfl (.cons rfl (.cons rfl (.cons rfl (.nil)))))) (by exact .pick 0 rfl (.pick 0 rfl (.refl)))
  · skip
    refine T_seq ?_
    refine T_reg ?_
    refine T_val (Ev_move rfl) rfl ?_
    refine T_val (Ev_gtr rfl rfl) rfl ?_
    refine T_nil ?_
    refine T_next ?_
    refine T_caseP (s := 17) rfl (fun h6 => ?_) (fun h6 => ?_)
    · have hx7 := ite_t h6 hx5
      refine T_condT rfl ?_
      refine T_reg ?_
      refine T_val (Ev_move rfl) rfl ?_
      refine T_val (Ev_move rfl) rfl ?_
      refine T_val (Ev_field rfl fld23_3 rfl) rfl ?_
      refine T_val (Ev_load1 rfl (i := 0) rfl rfl one3) rfl ?_
      refine T_val (Ev_sub_w64 rfl rfl) rfl ?_
      refine T_x (Wx_buildSlice rfl (bls27_1_0i64 _) rfl (fun g8 => ?_))
      refine T_none 3 1 ?_
      obtain ⟨h9, hx10⟩ := gd_some hx7
      refine T_h (Wh_appendP e_i64 (([] : List Int)) [w64 (p1 - p0.NX)] rfl rfl rfl elm27 (fun _ => rfl) (i' := 1) rfl rfl rfl rfl h9 rfl (fun _ _ => .here) (fun _ _ => .keep (.drop .refl)) (by decide) (fun A11 c12 => ?_))
      refine T_val (Ev_assign rfl) rfl ?_
      refine T_nil ?_
      exact T_metP ((([] : List Int)) ++ [w64 (p1 - p0.NX)]) (A11, c12) hx10 trivial (by exact .cons rfl (.cons rfl (.cons rfl (.cons rfl (.cons rfl (.nil)))))) (by exact .pick 0 rfl (.pick 0 rfl (.refl)))
    · have hx13 := ite_f h6 hx5
      refine T_condF rfl ?_
      refine T_skip ?_
      refine T_none 3 1 ?_
      have hn46 : 0 = (([] : List Int)).length := by simp [setI_len, cpy_len, List.length_append] <;> omega
      refine T_ent (.here) (e' := .r (none) ((([] : List Int)).length) (0) 3 1 ((([] : List Int)).flatMap e_i64)) (by first | (rw [← hn46]; done) | rfl) ?_
      exact T_metP ([] : List Int) (none, 0) hx13 trivial (by exact .cons rfl (.cons rfl (.cons rfl (.cons rfl (.cons rfl (.nil)))))) (by exact .pick 0 rfl (.pick 0 rfl (.refl)))
set_option maxRecDepth 100000 in
theorem model_groups_ok (p0 : S_api_Raster) (p1 : List Int) {K : List Ent} {A0_0 : Option Addr} {c0_0 : Nat} (ha0 : Has K A0_0 (p1).length c0_0 1 e_i64 (p1)) {r : List (List Int)} (hx : model_groups p0 p1 = some r) (w : World) (hK : ∀ e ∈ K, Ent.ok w e) : CtL Try.prog 90 [.agg #[.int .i64 (p0.X0), .int .i64 (p0.Y0), .int .i64 (p0.Step), .int .i64 (p0.NX), .int .i64 (p0.NY)], .slice (A0_0) ((p1).length) (c0_0)] w fun v Ln => ∃ (A0 : Option Addr) (c0 : Nat) (e0 : Ent) (e1 : Ent), v = .slice (A0) ((r).length) (c0) ∧ Ln = [e0, e1] ∧ HasN (K ++ [e0, e1]) A0 (r).length c0 1 n_List_Int (r) ∧ True := by
  have ha0' := Has.up0 ha0
  refine CtL.mk 92 Try.func90 rfl Try.ntmps90 (by kernel_rfl) rfl ?_
  show T 92 _ [(0, .agg #[.int .i64 (p0.X0), .int .i64 (p0.Y0), .int .i64 (p0.Step), .int .i64 (p0.NX), .int .i64 (p0.NY)]), (1, .slice (A0_0) ((p1).length) (c0_0))] _
  unfold model_groups at hx
  refine T_seq ?_
  refine T_reg ?_
  refine T_x (Wx_box rfl rfl rfl (fun g1 => ?_))
  refine T_val (Ev_assign rfl) rfl ?_
  refine T_nil ?_
  refine T_next ?_
  refine T_seq ?_
  refine T_reg ?_
  refine T_val (Ev_move rfl) rfl ?_
  refine T_val (Ev_len rfl 3 Try.underlying27) rfl ?_
  obtain ⟨h3, hx4⟩ := gd_some hx
  refine T_x (Wx_makeP e_bool (false) (z := .bool (false)) rfl rfl rfl h3.1 Try.underlying37 (show Try.prog.info? 4 = some Try.t4 from by kernel_rfl) (by kernel_rfl) rfl rfl (by kernel_rfl) (show 1 * _ ≤ _ from h3.2) (by decide) rfl (fun A2 => ?_))
  refine T_val (Ev_assign rfl) rfl ?_
  refine T_nil ?_
  refine T_next ?_
  refine T_seq ?_
  refine T_reg ?_
  refine T_val (Ev_assign rfl) rfl ?_
  refine T_nil ?_
  refine T_next ?_
  obtain ⟨j4, hj4, hx4⟩ := jn_some hx4
  refine T_cutP (τ := List (List Int)) (γ := (List (Vec 1)) × (Option Addr) × Nat × Ent) (J := j4) (out := r) (fun s4 y4 => [(6, .slice (y4.2.1) ((s4).length) (y4.2.2.1))]) (fun s4 y4 => [y4.2.2.2, .r (y4.2.1) ((s4).length) (y4.2.2.1) 27 1 ((y4.1).flatMap cellsV)] ++ [.old w]) (fun s4 y4 => y4.2.2.2.low = 0 ∧ RowN ([y4.2.2.2] : List Ent) n_List_Int (y4.1) (s4) ∧ True) ?_ ?_
  · intro s4 y4 hx813 hG814
    obtain ⟨lo815, hr816, -⟩ := hG814
    subst hj4
    refine T_seq ?_
    refine T_reg ?_
    refine T_val (Ev_move rfl) rfl ?_
    refine T_val (Ev_assign rfl) rfl ?_
    refine T_nil ?_
    refine T_next ?_
    refine T_retc ?_
    refine T_rowP (k := 1) rfl (by decide) (fun x => x.2) (fun hn817 hs818 => ?_)
    have hs819 : HasN ([.r (y4.2.1) ((s4).length) (y4.2.2.1) 27 1 ((y4.1).flatMap cellsV), y4.2.2.2] : List Ent) _ _ _ _ _ _ := HasN.ofRowN (Has.up (L := ([.r (y4.2.1) ((s4).length) (y4.2.2.1) 27 1 ((y4.1).flatMap cellsV), y4.2.2.2] : List Ent)) hs818 (SubE.cons2 (i := 0) rfl (SubE.nil))) (RowN.up (R := n_List_Int) (L := ([.r (y4.2.1) ((s4).length) (y4.2.2.1) 27 1 ((y4.1).flatMap cellsV), y4.2.2.2] : List Ent)) n_List_Int_mono hr816 (SubE.cons2 (i := 1) rfl (SubE.nil)))
    obtain rfl := Option.some.inj hx813
    exact T_retP (rs := [.tmp 4]) Try.results90 (.tmp rfl (.nil)) (Ln := [.r (y4.2.1) ((s4).length) (y4.2.2.1) 27 1 ((y4.1).flatMap cellsV), y4.2.2.2]) ⟨y4.2.1, y4.2.2.1, (.r (y4.2.1) ((s4).length) (y4.2.2.1) 27 1 ((y4.1).flatMap cellsV)), y4.2.2.2, rfl, rfl, HasN.len' (HasN.up (L := (K ++ [.r (y4.2.1) ((s4).length) (y4.2.2.1) 27 1 ((y4.1).flatMap cellsV), y4.2.2.2])) n_List_Int_mono hs819 (SubE.appR2 (SubE.cons2 (i := 0) rfl (SubE.cons2 (i := 1) rfl (SubE.nil))))), trivial⟩ (loCons rfl (loCons lo815 (loNil))) (by exact .pick 1 rfl (.pick 0 rfl (.refl)))
  · skip
    refine T_seq ?_
    refine T_reg ?_
    refine T_val (Ev_move rfl) rfl ?_
    refine T_val (Ev_len rfl 3 Try.underlying27) rfl ?_
    refine T_val (Ev_move rfl) rfl ?_
    refine T_nil ?_
    refine T_next ?_
    refine T_block ?_
    obtain ⟨t409, hl409, ho409⟩ := bnd_some hx4
    refine T_none 0 1 ?_
    refine T_none 27 1 ?_
    refine T_loopP (σ := (List Bool) × (List (List Int)) × Int) (γ := (Option Addr) × Nat × (List (Vec 1)) × (Option Addr) × Nat × Ent) hl409 (fun s409 y409 => [(1, .slice (A0_0) ((p1).length) (c0_0)), (2, .pointer (some ⟨g1, 0, none⟩)), (5, .slice (y409.1) ((s409.1).length) (y409.2.1)), (6, .slice (y409.2.2.2.1) ((s409.2.1).length) (y409.2.2.2.2.1)), (17, .slice (A0_0) ((p1).length) (c0_0)), (18, .int .i64 ((((p1).length : Nat) : Int))), (19, .int .i64 (s409.2.2))]) (fun s409 y409 => [y409.2.2.2.2.2, .r (y409.2.2.2.1) ((s409.2.1).length) (y409.2.2.2.2.1) 27 1 ((y409.2.2.1).flatMap cellsV), .r (y409.1) ((s409.1).length) (y409.2.1) 4 1 ((s409.1).flatMap e_bool), .m g1 23 [.int .i64 (p0.X0), .int .i64 (p0.Y0), .int .i64 (p0.Step), .int .i64 (p0.NX), .int .i64 (p0.NY)]] ++ [.old w]) (fun s409 y409 => y409.2.2.2.2.2.low = 0 ∧ RowN ([y409.2.2.2.2.2] : List Ent) n_List_Int (y409.2.2.1) (s409.2.1) ∧ True) (A2, (List.replicate (Int.toNat ((((p1).length : Nat) : Int))) (false : Bool)).length, ([] : List (Vec 1)), none, 0, .r none 0 0 0 1 []) ((by exact ⟨rfl, RowN.nil, trivial⟩)) (by exact .cons rfl (.cons rfl (.cons rfl (.cons rfl (.cons rfl (.cons rfl (.cons rfl (.nil)))))))) (by exact .pick 1 rfl (.pick 0 rfl (.pick 0 rfl (.pick 0 rfl (.refl))))) ?_
    intro s409 y409 hG409 x409 hx409 ht409
    unfold model_groups_l4 at hx409
    obtain ⟨lo410, hr411, -⟩ := hG409
    refine T_seq ?_
    refine T_reg ?_
    refine T_val (Ev_lss rfl rfl) rfl ?_
    refine T_nil ?_
    refine T_next ?_
    refine T_seq ?_
    refine T_caseP (s := 20) rfl (fun h412 => ?_) (fun h412 => ?_)
    · have hx413 := ite_t h412 hx409
      refine T_condT rfl ?_
      refine T_skip ?_
      refine T_next ?_
      obtain ⟨j55, hj55, hx413⟩ := jn_some hx413
      refine T_cutP (τ := (List Bool) × (List (List Int))) (γ := (Option Addr) × Nat × (List (Vec 1)) × (Option Addr) × Nat × Ent) (J := j55) (out := x409) (fun s55 y55 => [(1, .slice (A0_0) ((p1).length) (c0_0)), (2, .pointer (some ⟨g1, 0, none⟩)), (5, .slice (y55.1) ((s55.1).length) (y55.2.1)), (6, .slice (y55.2.2.2.1) ((s55.2).length) (y55.2.2.2.2.1)), (17, .slice (A0_0) ((p1).length) (c0_0)), (18, .int .i64 ((((p1).length : Nat) : Int))), (19, .int .i64 (s409.2.2))]) (fun s55 y55 => [y55.2.2.2.2.2, y409.2.2.2.2.2, .r (y55.2.2.2.1) ((s55.2).length) (y55.2.2.2.2.1) 27 1 ((y55.2.2.1).flatMap cellsV), .r (y55.1) ((s55.1).length) (y55.2.1) 4 1 ((s55.1).flatMap e_bool), .m g1 23 [.int .i64 (p0.X0), .int .i64 (p0.Y0), .int .i64 (p0.Step), .int .i64 (p0.NX), .int .i64 (p0.NY)]] ++ [.old w]) (fun s55 y55 => y55.2.2.2.2.2.low = 0 ∧ RowN ([y409.2.2.2.2.2, y55.2.2.2.2.2] : List Ent) n_List_Int (y55.2.2.1) (s55.2) ∧ True) ?_ ?_
      · intro s55 y55 hx807 hG808
        obtain ⟨lo809, hr810, -⟩ := hG808
        subst hj55
        refine T_reg ?_
        refine T_val (Ev_add_w64 rfl rfl) rfl ?_
        refine T_val (Ev_move rfl) rfl ?_
        refine T_nil ?_
        refine T_bundle (es := [y409.2.2.2.2.2, y55.2.2.2.2.2]) (by exact .pick 1 rfl (.pick 0 rfl (.refl))) (loCons lo410 (loCons lo809 (loNil))) ?_
        exact T_roundP (s55.1, s55.2, w64 (s409.2.2 + 1)) (y55.1, y55.2.1, y55.2.2.1, y55.2.2.2.1, y55.2.2.2.2.1, bun [y409.2.2.2.2.2, y55.2.2.2.2.2]) hx807 ((by exact ⟨rfl, (RowN.up (R := n_List_Int) (L := ([(bun [y409.2.2.2.2.2, y55.2.2.2.2.2])] : List Ent)) n_List_Int_mono hr810 (SubE.consB (i := 0) (j := 0) rfl rfl (SubE.consB (i := 0) (j := 1) rfl rfl (SubE.nil)))), trivial⟩)) (by exact .cons rfl (.cons rfl (.cons rfl (.cons rfl (.cons rfl (.cons rfl (.cons rfl (.nil)))))))) (by exact .pick 0 rfl (.pick 0 rfl (.pick 0 rfl (.pick 0 rfl (.refl)))))
      · skip
        refine T_block ?_
        refine T_seq ?_
        refine T_reg ?_
        refine T_val (Ev_move rfl) rfl ?_
        obtain ⟨x415, h416, hx417⟩ := bnd_some hx413
        have hw425 := Has.low (E := []) ha0' hK
        obtain ⟨b418, o419, j420, hA421, hj422, hl423, hp424⟩ := Has.at_idx hw425 h416
        refine T_val (Ev_index rfl rfl hA421 (j := j420) hj422 hl423 slc27) rfl ?_
        refine T_val (Ev_loadP0 rfl hp424 (SubE.cons2 (i := 4) rfl (SubE.nil)) rfl one3) rfl ?_
        refine T_val (Ev_assign rfl) rfl ?_
        refine T_val (Ev_assign rfl) rfl ?_
        refine T_nil ?_
        refine T_next ?_
        refine T_seq ?_
        obtain ⟨j58, hj58, hx417⟩ := jn_some hx417
        refine T_cutP (τ := Bool) (γ := Unit) (J := j58) (out := x409) (fun s58 y58 => [(1, .slice (A0_0) ((p1).length) (c0_0)), (2, .pointer (some ⟨g1, 0, none⟩)), (5, .slice (y409.1) ((s409.1).length) (y409.2.1)), (6, .slice (y409.2.2.2.1) ((s409.2.1).length) (y409.2.2.2.2.1)), (7, .int .i64 (s409.2.2)), (8, .int .i64 (x415)), (17, .slice (A0_0) ((p1).length) (c0_0)), (18, .int .i64 ((((p1).length : Nat) : Int))), (19, .int .i64 (s409.2.2)), (31, .bool (s58))]) (fun s58 y58 => [y409.2.2.2.2.2, .r (y409.2.2.2.1) ((s409.2.1).length) (y409.2.2.2.2.1) 27 1 ((y409.2.2.1).flatMap cellsV), .r (y409.1) ((s409.1).length) (y409.2.1) 4 1 ((s409.1).flatMap e_bool), .m g1 23 [.int .i64 (p0.X0), .int .i64 (p0.Y0), .int .i64 (p0.Step), .int .i64 (p0.NX), .int .i64 (p0.NY)]] ++ [.old w]) (fun s58 y58 => True) ?_ ?_
        · intro s58 y58 hx440 hG441
          subst hj58
          refine T_caseB (s := 31) rfl (fun h442 => ?_) (fun h442 => ?_)
          · have hx443 := ite_t h442 hx440
            refine T_condT rfl ?_
            refine T_exit ?_
            refine T_outX ?_
            refine T_here ?_
            refine T_none 0 1 ?_
            exact T_metP (s409.1, s409.2.1) (y409.1, y409.2.1, y409.2.2.1, y409.2.2.2.1, y409.2.2.2.2.1, .r none 0 0 0 1 []) hx443 ((by exact ⟨rfl, (RowN.up (R := n_List_Int) (L := ([y409.2.2.2.2.2, .r none 0 0 0 1 []] : List Ent)) n_List_Int_mono hr411 (SubE.cons2 (i := 0) rfl (SubE.nil))), trivial⟩)) (by exact .cons rfl (.cons rfl (.cons rfl (.cons rfl (.cons rfl (.cons rfl (.cons rfl (.nil)))))))) (by exact .pick 0 rfl (.pick 0 rfl (.pick 0 rfl (.pick 0 rfl (.pick 0 rfl (.refl))))))
          · have hx444 := ite_bf h442 hx440
            refine T_condF rfl ?_
            refine T_skip ?_
            refine T_next ?_
            refine T_seq ?_
            refine T_reg ?_
            refine T_val (Ev_move rfl) rfl ?_
            refine T_val (Ev_move rfl) rfl ?_
            obtain ⟨x445, h446, hx447⟩ := bnd_some hx444
            refine T_idxR (k := 2) rfl (by decide) (fun _ => rfl) h446 (fun b448 j450 hA451 hj452 hl453 hm455 hp454 => ?_)
            refine T_val (Ev_index rfl rfl hA451 (j := j450) hj452 hl453 slc37) rfl ?_
            refine T_h (Wh_storeP e_bool (s409.1) (s409.2.2) (true) rfl rfl rfl (.there (.there (.here))) hA451 rfl hj452 hl453 (fun _ => rfl) (by decide) rfl one4.2 ?_)
            refine T_nil ?_
            refine T_next ?_
            refine T_seq ?_
            refine T_reg ?_
            refine T_val (Ev_move rfl) rfl ?_
            refine T_x (Wx_buildSlice rfl (bls27_1_0i64 _) rfl (fun g456 => ?_))
            refine T_val (Ev_assign rfl) rfl ?_
            refine T_nil ?_
            refine T_next ?_
            refine T_seq ?_
            refine T_reg ?_
            refine T_val (Ev_assign rfl) rfl ?_
            refine T_nil ?_
            refine T_next ?_
            obtain ⟨j62, hj62, hx447⟩ := jn_some hx447
            refine T_cutP (τ := (List Bool) × (List Int)) (γ := (Option Addr) × Nat × (Option Addr) × Nat) (J := j62) (out := x409) (fun s62 y62 => [(1, .slice (A0_0) ((p1).length) (c0_0)), (2, .pointer (some ⟨g1, 0, none⟩)), (5, .slice (y62.1) ((s62.1).length) (y62.2.1)), (6, .slice (y409.2.2.2.1) ((s409.2.1).length) (y409.2.2.2.2.1)), (10, .slice (y62.2.2.1) ((s62.2).length) (y62.2.2.2)), (17, .slice (A0_0) ((p1).length) (c0_0)), (18, .int .i64 ((((p1).length : Nat) : Int))), (19, .int .i64 (s409.2.2))]) (fun s62 y62 => [.r (y62.2.2.1) ((s62.2).length) (y62.2.2.2) 3 1 ((s62.2).flatMap e_i64), y409.2.2.2.2.2, .r (y409.2.2.2.1) ((s409.2.1).length) (y409.2.2.2.2.1) 27 1 ((y409.2.2.1).flatMap cellsV), .r (y62.1) ((s62.1).length) (y62.2.1) 4 1 ((s62.1).flatMap e_bool), .m g1 23 [.int .i64 (p0.X0), .int .i64 (p0.Y0), .int .i64 (p0.Step), .int .i64 (p0.NX), .int .i64 (p0.NY)]] ++ [.old w]) (fun s62 y62 => True) ?_ ?_
            · intro s62 y62 hx795 hG796
              subst hj62
              refine T_seq ?_
              refine T_reg ?_
              refine T_val (Ev_move rfl) rfl ?_
              obtain ⟨h797, hx798⟩ := gd_some hx795
              refine T_h (Wh_sort (s62.2) rfl h797 (.here) rfl ?_)
              refine T_nil ?_
              refine T_next ?_
              refine T_reg ?_
              refine T_val (Ev_move rfl) rfl ?_
              refine T_val (Ev_move rfl) rfl ?_
              refine T_x (Wx_buildSlice rfl (bls91_1_0s _ _ _) rfl (fun g799 => ?_))
              refine T_rowP (k := 1) rfl (by decide) (fun _ => rfl) (fun hn800 hs801 => ?_)
              have hr802 : RowN ([y409.2.2.2.2.2, .r (y62.2.2.1) ((s62.2).length) (y62.2.2.2) 3 1 ((sortI s62.2).flatMap e_i64)] : List Ent) n_List_Int (y409.2.2.1 ++ [(⟨[.slice (y62.2.2.1) ((s62.2).length) (y62.2.2.2)], rfl⟩ : Vec 1)]) (s409.2.1 ++ [sortI s62.2]) := RowN.snoc (RowN.up (R := n_List_Int) (L := ([y409.2.2.2.2.2, .r (y62.2.2.1) ((s62.2).length) (y62.2.2.2) 3 1 ((sortI s62.2).flatMap e_i64)] : List Ent)) n_List_Int_mono hr411 (SubE.cons2 (i := 0) rfl (SubE.nil))) ⟨y62.2.2.1, y62.2.2.2, by first | rfl | (rw [show ((s62.2).length) = (sortI s62.2).length from (Has.len hs801).symm]; done) | (rw [show ((s62.2).length) = (sortI s62.2).length from (Has.len hs801).symm]; rfl), Has.len' (Has.up (L := ([y409.2.2.2.2.2, .r (y62.2.2.1) ((s62.2).length) (y62.2.2.2) 3 1 ((sortI s62.2).flatMap e_i64)] : List Ent)) hs801 (SubE.cons2 (i := 1) rfl (SubE.nil)))⟩
              obtain ⟨h803, hx804⟩ := gd_some hx798
              refine T_h (Wh_appendP cellsV (y409.2.2.1) [(⟨[.slice (y62.2.2.1) ((s62.2).length) (y62.2.2.2)], rfl⟩ : Vec 1)] rfl rfl rfl elm91 (fun x => x.2) (i' := 0) rfl rfl rfl rfl (by have := RowN.len (hr411); have := h803; simp only [List.length_singleton, List.length_nil] at *; omega) rfl (fun _ _ => .there (.there (.there (.here)))) (fun _ _ => .drop .refl) (by decide) (fun A805 c806 => ?_))
              refine T_val (Ev_assign rfl) rfl ?_
              refine T_nil ?_
              refine T_inN ?_
              have hn811 : (y409.2.2.1 ++ [(⟨[.slice (y62.2.2.1) ((s62.2).length) (y62.2.2.2)], rfl⟩ : Vec 1)]).length = (s409.2.1 ++ [sortI s62.2]).length := RowN.len hr802
              refine T_ent (.there (.there (.here))) (e' := .r (A805) ((s409.2.1 ++ [sortI s62.2]).length) (c806) 27 1 ((y409.2.2.1 ++ [(⟨[.slice (y62.2.2.1) ((s62.2).length) (y62.2.2.2)], rfl⟩ : Vec 1)]).flatMap cellsV)) (by first | (rw [← hn811]; done) | rfl) ?_
              refine T_slot (s := 6) (v' := .slice (A805) ((s409.2.1 ++ [sortI s62.2]).length) (c806)) rfl (by have hn812 : ((y409.2.2.1 ++ [(⟨[.slice (y62.2.2.1) ((s62.2).length) (y62.2.2.2)], rfl⟩ : Vec 1)]).length) = (s409.2.1 ++ [sortI s62.2]).length := (RowN.len hr802); first | (rw [← hn812]; done) | rfl) ?_
              exact T_metP (s62.1, s409.2.1 ++ [sortI s62.2]) (y62.1, y62.2.1, y409.2.2.1 ++ [(⟨[.slice (y62.2.2.1) ((s62.2).length) (y62.2.2.2)], rfl⟩ : Vec 1)], A805, c806, .r (y62.2.2.1) ((s62.2).length) (y62.2.2.2) 3 1 ((sortI s62.2).flatMap e_i64)) hx804 ((by exact ⟨rfl, (RowN.up (R := n_List_Int) (L := ([y409.2.2.2.2.2, .r (y62.2.2.1) ((s62.2).length) (y62.2.2.2) 3 1 ((sortI s62.2).flatMap e_i64)] : List Ent)) n_List_Int_mono hr802 (SubE.cons2 (i := 0) rfl (SubE.cons2 (i := 1) rfl (SubE.nil)))), trivial⟩)) (by exact .cons rfl (.cons rfl (.cons rfl (.cons rfl (.cons rfl (.cons rfl (.cons rfl (.nil)))))))) (by exact .pick 0 rfl (.pick 0 rfl (.pick 0 rfl (.pick 0 rfl (.pick 0 rfl (.refl))))))
            · skip
              refine T_block ?_
              refine T_mr (enc := e_i64) (sz := 1) ([s409.2.2]) (.here) rfl rfl (fun _ => rfl) (by show 1 ≤ maxLen; decide) ?_
              obtain ⟨t626, hl626, ho626⟩ := bnd_some hx447
              refine T_none 3 1 ?_
              have hn627 : 0 = (([] : List Int)).length := by simp [setI_len, cpy_len, List.length_append] <;> omega
              refine T_ent (.here) (e' := .r (none) ((([] : List Int)).length) (0) 3 1 ((([] : List Int)).flatMap e_i64)) (by first | (rw [← hn627]; done) | rfl) ?_
              have hn628 : 1 = ([s409.2.2]).length := by simp [setI_len, cpy_len, List.length_append] <;> omega
              refine T_ent (.there (.here)) (e' := .r (some ⟨g456, 0, none⟩) (([s409.2.2]).length) (1) 3 1 (([s409.2.2]).flatMap e_i64)) (by first | (rw [← hn628]; done) | rfl) ?_
              have hn629 : (s409.1).length = (setI s409.1 s409.2.2 true).length := by simp [setI_len, cpy_len, List.length_append] <;> omega
              refine T_ent (.there (.there (.there (.there (.here))))) (e' := .r (y409.1) ((setI s409.1 s409.2.2 true).length) (y409.2.1) 4 1 ((setI s409.1 s409.2.2 true).flatMap e_bool)) (by first | (rw [← hn629]; done) | rfl) ?_
              refine T_slot (s := 5) (v' := .slice (y409.1) ((setI s409.1 s409.2.2 true).length) (y409.2.1)) rfl (by have hn630 : ((s409.1).length) = (setI s409.1 s409.2.2 true).length := (by simp [setI_len, cpy_len, List.length_append] <;> omega); first | (rw [← hn630]; done) | rfl) ?_
              refine T_slot (s := 9) (v' := .slice (some ⟨g456, 0, none⟩) (([s409.2.2]).length) (1)) rfl (by have hn631 : (1) = ([s409.2.2]).length := (by simp [setI_len, cpy_len, List.length_append] <;> omega); first | (rw [← hn631]; done) | rfl) ?_
              refine T_loopP (σ := (List Bool) × (List Int) × (List Int)) (γ := (Option Addr) × Nat × (Option Addr) × Nat × (Option Addr) × Nat) hl626 (fun s626 y626 => [(1, .slice (A0_0) ((p1).length) (c0_0)), (2, .pointer (some ⟨g1, 0, none⟩)), (5, .slice (y626.1) ((s626.1).length) (y626.2.1)), (6, .slice (y409.2.2.2.1) ((s409.2.1).length) (y409.2.2.2.2.1)), (8, .int .i64 (x415)), (9, .slice (y626.2.2.1) ((s626.2.1).length) (y626.2.2.2.1)), (10, .slice (y626.2.2.2.2.1) ((s626.2.2).length) (y626.2.2.2.2.2)), (17, .slice (A0_0) ((p1).length) (c0_0)), (18, .int .i64 ((((p1).length : Nat) : Int))), (19, .int .i64 (s409.2.2))]) (fun s626 y626 => [.r (y626.2.2.2.2.1) ((s626.2.2).length) (y626.2.2.2.2.2) 3 1 ((s626.2.2).flatMap e_i64), .r (y626.2.2.1) ((s626.2.1).length) (y626.2.2.2.1) 3 1 ((s626.2.1).flatMap e_i64), y409.2.2.2.2.2, .r (y409.2.2.2.1) ((s409.2.1).length) (y409.2.2.2.2.1) 27 1 ((y409.2.2.1).flatMap cellsV), .r (y626.1) ((s626.1).length) (y626.2.1) 4 1 ((s626.1).flatMap e_bool), .m g1 23 [.int .i64 (p0.X0), .int .i64 (p0.Y0), .int .i64 (p0.Step), .int .i64 (p0.NX), .int .i64 (p0.NY)]] ++ [.old w]) (fun s626 y626 => True) (y409.1, y409.2.1, some ⟨g456, 0, none⟩, 1, none, 0) trivial (by exact .cons rfl (.cons rfl (.cons rfl (.cons rfl (.cons rfl (.cons rfl (.cons rfl (.cons rfl (.cons rfl (.cons rfl (.nil))))))))))) (by exact .pick 0 rfl (.pick 0 rfl (.pick 0 rfl (.pick 0 rfl (.pick 0 rfl (.pick 0 rfl (.refl))))))) ?_
              intro s626 y626 hG626 x626 hx626 ht626
              unfold model_groups_l10 at hx626
              refine T_seq ?_
              refine T_seq ?_
              refine T_reg ?_
              refine T_val (Ev_move rfl) rfl ?_
              refine T_val (Ev_len rfl 3 Try.underlying27) rfl ?_
              refine T_val (Ev_gtr rfl rfl) rfl ?_
              refine T_nil ?_
              refine T_next ?_
              refine T_caseP (s := 39) rfl (fun h632 => ?_) (fun h632 => ?_)
              · have hx633 := ite_t h632 hx626
                refine T_condT rfl ?_
                refine T_skip ?_
                refine T_next ?_
                refine T_block ?_
                refine T_seq ?_
                refine T_reg ?_
                refine T_val (Ev_move rfl) rfl ?_
                refine T_val (Ev_move rfl) rfl ?_
                refine T_val (Ev_len rfl 3 Try.underlying27) rfl ?_
                refine T_val (Ev_sub_w64 rfl rfl) rfl ?_
                obtain ⟨x635, h636, hx637⟩ := bnd_some hx633
                refine T_idxR (k := 1) rfl (by decide) (fun _ => rfl) h636 (fun b638 j640 hA641 hj642 hl643 hm645 hp644 => ?_)
                refine T_val (Ev_index rfl rfl hA641 (j := j640) hj642 hl643 slc27) rfl ?_
                refine T_val (Ev_loadP0 rfl hp644 (SubE.cons2 (i := 1) rfl (SubE.nil)) rfl one3) rfl ?_
                refine T_val (Ev_assign rfl) rfl ?_
                refine T_nil ?_
                refine T_next ?_
                refine T_seq ?_
                refine T_reg ?_
                refine T_val (Ev_move rfl) rfl ?_
                refine T_val (Ev_move rfl) rfl ?_
                refine T_val (Ev_len rfl 3 Try.underlying27) rfl ?_
                refine T_val (Ev_sub_w64 rfl rfl) rfl ?_
                refine T_rowP (k := 1) rfl (by decide) (fun _ => rfl) (fun hn646 hs647 => ?_)
                obtain ⟨h649, hx650⟩ := gd_some hx637
                have hs648 := Has.subH hs647 h649.1 h649.2
                refine T_val (Ev_subH rfl rfl slc27 h649.1 (by have := Has.nc hs647; omega)) rfl ?_
                refine T_val (Ev_assign rfl) rfl ?_
                refine T_nil ?_
                refine T_next ?_
                refine T_seq ?_
                refine T_reg ?_
                refine T_val (Ev_move rfl) rfl ?_
                refine T_val (Ev_move rfl) rfl ?_
                refine T_x (Wx_buildSlice rfl (bls27_1_0i64 _) rfl (fun g651 => ?_))
                obtain ⟨h652, hx653⟩ := gd_some hx650
                refine T_h (Wh_appendP e_i64 (s626.2.2) [x635] rfl rfl rfl elm27 (fun _ => rfl) (i' := 0) rfl rfl rfl rfl h652 rfl (fun _ _ => .there (.here)) (fun _ _ => .drop .refl) (by decide) (fun A654 c655 => ?_))
                refine T_val (Ev_assign rfl) rfl ?_
                refine T_nil ?_
                refine T_next ?_
                refine T_seq ?_
                refine T_reg ?_
                refine T_val (Ev_loadK rfl (i := 5) rfl rfl agg23) rfl ?_
                refine T_val (Ev_move rfl) rfl ?_
                obtain ⟨r656, h657, hx658⟩ := bnd_some hx653
                refine T_x (Wx_callL rfl (fun w1 hw1 => model_neighbours_ok p0 x635  h657 w1) rfl ?_)
                rintro _ _ hlo ⟨A659, c660, rfl, rfl, -⟩
                refine T_app1 ?_
                refine T_val (Ev_len rfl 3 Try.underlying27) rfl ?_
                refine T_val (Ev_move rfl) rfl ?_
                refine T_nil ?_
                refine T_next ?_
                refine T_block ?_
                obtain ⟨t728, hl728, ho728⟩ := bnd_some hx658
                refine T_trunc (q := Int.toNat (w64 (((((s626.2.1).length : Nat) : Int)) - 1))) (.there (.there (.here))) (by have := Has.len hs648; simp [subl] at this; omega) (by decide) (fun _ => rfl) ?_
                have hn729 : Int.toNat (w64 (((((s626.2.1).length : Nat) : Int)) - 1)) = (List.take (Int.toNat (w64 (((((s626.2.1).length : Nat) : Int)) - 1))) s626.2.1).length := by simp [setI_len, cpy_len, List.length_append] <;> omega
                refine T_ent (.there (.there (.here))) (e' := .r (y626.2.2.1) ((List.take (Int.toNat (w64 (((((s626.2.1).length : Nat) : Int)) - 1))) s626.2.1).length) (y626.2.2.2.1) 3 1 ((List.take (Int.toNat (w64 (((((s626.2.1).length : Nat) : Int)) - 1))) s626.2.1).flatMap e_i64)) (by first | (rw [← hn729]; done) | rfl) ?_
                refine T_slot (s := 9) (v' := .slice (y626.2.2.1) ((List.take (Int.toNat (w64 (((((s626.2.1).length : Nat) : Int)) - 1))) s626.2.1).length) (y626.2.2.2.1)) rfl (by have hn730 : (Int.toNat (w64 (((((s626.2.1).length : Nat) : Int)) - 1))) = (List.take (Int.toNat (w64 (((((s626.2.1).length : Nat) : Int)) - 1))) s626.2.1).length := (by simp [setI_len, cpy_len, List.length_append] <;> omega); first | (rw [← hn730]; done) | rfl) ?_
                refine T_loopP (σ := (List Bool) × (List Int) × Int) (γ := (Option Addr) × Nat × (Option Addr) × Nat) hl728 (fun s728 y728 => [(1, .slice (A0_0) ((p1).length) (c0_0)), (2, .pointer (some ⟨g1, 0, none⟩)), (5, .slice (y728.1) ((s728.1).length) (y728.2.1)), (6, .slice (y409.2.2.2.1) ((s409.2.1).length) (y409.2.2.2.2.1)), (8, .int .i64 (x415)), (9, .slice (y728.2.2.1) ((s728.2.1).length) (y728.2.2.2)), (10, .slice (A654) ((s626.2.2 ++ [x635]).length) (c655)), (17, .slice (A0_0) ((p1).length) (c0_0)), (18, .int .i64 ((((p1).length : Nat) : Int))), (19, .int .i64 (s409.2.2)), (57, .slice (A659) ((r656).length) (c660)), (58, .int .i64 ((((r656).length : Nat) : Int))), (59, .int .i64 (s728.2.2))]) (fun s728 y728 => [.r (y728.2.2.1) ((s728.2.1).length) (y728.2.2.2) 3 1 ((s728.2.1).flatMap e_i64), .r (A659) ((r656).length) (c660) 3 1 ((r656).flatMap e_i64), .r (A654) ((s626.2.2 ++ [x635]).length) (c655) 3 1 ((s626.2.2 ++ [x635]).flatMap e_i64), y409.2.2.2.2.2, .r (y409.2.2.2.1) ((s409.2.1).length) (y409.2.2.2.2.1) 27 1 ((y409.2.2.1).flatMap cellsV), .r (y728.1) ((s728.1).length) (y728.2.1) 4 1 ((s728.1).flatMap e_bool), .m g1 23 [.int .i64 (p0.X0), .int .i64 (p0.Y0), .int .i64 (p0.Step), .int .i64 (p0.NX), .int .i64 (p0.NY)]] ++ [.old w]) (fun s728 y728 => True) (y626.1, y626.2.1, y626.2.2.1, y626.2.2.2.1) trivial (by exact .cons rfl (.cons rfl (.cons rfl (.cons rfl (.cons rfl (.cons rfl (.cons rfl (.cons rfl (.cons rfl (.cons rfl (.cons rfl (.cons rfl (.cons rfl (.nil)))))))))))))) (by exact .pick 2 rfl (.pick 0 rfl (.pick 0 rfl (.pick 0 rfl (.pick 0 rfl (.pick 0 rfl (.pick 0 rfl (.refl)))))))) ?_
                intro s728 y728 hG728 x728 hx728 ht728
                unfold model_groups_l15 at hx728
                refine T_seq ?_
                refine T_reg ?_
                refine T_val (Ev_lss rfl rfl) rfl ?_
                refine T_nil ?_
                refine T_next ?_
                refine T_seq ?_
                refine T_caseP (s := 60) rfl (fun h731 => ?_) (fun h731 => ?_)
                · have hx732 := ite_t h731 hx728
                  refine T_condT rfl ?_
                  refine T_skip ?_
                  refine T_next ?_
                  obtain ⟨j95, hj95, hx732⟩ := jn_some hx732
                  refine T_cutP (τ := (List Bool) × (List Int)) (γ := (Option Addr) × Nat × (Option Addr) × Nat) (J := j95) (out := x728) (fun s95 y95 => [(1, .slice (A0_0) ((p1).length) (c0_0)), (2, .pointer (some ⟨g1, 0, none⟩)), (5, .slice (y95.1) ((s95.1).length) (y95.2.1)), (6, .slice (y409.2.2.2.1) ((s409.2.1).length) (y409.2.2.2.2.1)), (8, .int .i64 (x415)), (9, .slice (y95.2.2.1) ((s95.2).length) (y95.2.2.2)), (10, .slice (A654) ((s626.2.2 ++ [x635]).length) (c655)), (17, .slice (A0_0) ((p1).length) (c0_0)), (18, .int .i64 ((((p1).length : Nat) : Int))), (19, .int .i64 (s409.2.2)), (57, .slice (A659) ((r656).length) (c660)), (58, .int .i64 ((((r656).length : Nat) : Int))), (59, .int .i64 (s728.2.2))]) (fun s95 y95 => [.r (y95.2.2.1) ((s95.2).length) (y95.2.2.2) 3 1 ((s95.2).flatMap e_i64), .r (A659) ((r656).length) (c660) 3 1 ((r656).flatMap e_i64), .r (A654) ((s626.2.2 ++ [x635]).length) (c655) 3 1 ((s626.2.2 ++ [x635]).flatMap e_i64), y409.2.2.2.2.2, .r (y409.2.2.2.1) ((s409.2.1).length) (y409.2.2.2.2.1) 27 1 ((y409.2.2.1).flatMap cellsV), .r (y95.1) ((s95.1).length) (y95.2.1) 4 1 ((s95.1).flatMap e_bool), .m g1 23 [.int .i64 (p0.X0), .int .i64 (p0.Y0), .int .i64 (p0.Step), .int .i64 (p0.NX), .int .i64 (p0.NY)]] ++ [.old w]) (fun s95 y95 => True) ?_ ?_
                  · intro s95 y95 hx791 hG792
                    subst hj95
                    refine T_reg ?_
                    refine T_val (Ev_add_w64 rfl rfl) rfl ?_
                    refine T_val (Ev_move rfl) rfl ?_
                    refine T_nil ?_
                    exact T_roundP (s95.1, s95.2, w64 (s728.2.2 + 1)) (y95.1, y95.2.1, y95.2.2.1, y95.2.2.2) hx791 trivial (by exact .cons rfl (.cons rfl (.cons rfl (.cons rfl (.cons rfl (.cons rfl (.cons rfl (.cons rfl (.cons rfl (.cons rfl (.cons rfl (.cons rfl (.cons rfl (.nil)))))))))))))) (by exact .pick 0 rfl (.pick 0 rfl (.pick 0 rfl (.pick 0 rfl (.pick 0 rfl (.pick 0 rfl (.pick 0 rfl (.refl))))))))
                  · skip
                    refine T_block ?_
                    refine T_seq ?_
                    refine T_reg ?_
                    obtain ⟨x734, h735, hx736⟩ := bnd_some hx732
                    refine T_idxR (k := 1) rfl (by decide) (fun _ => rfl) h735 (fun b737 j739 hA740 hj741 hl742 hm744 hp743 => ?_)
                    refine T_val (Ev_index rfl rfl hA740 (j := j739) hj741 hl742 slc27) rfl ?_
                    refine T_val (Ev_loadP0 rfl hp743 (SubE.cons2 (i := 1) rfl (SubE.nil)) rfl one3) rfl ?_
                    refine T_val (Ev_assign rfl) rfl ?_
                    refine T_nil ?_
                    refine T_next ?_
                    obtain ⟨j97, hj97, hx736⟩ := jn_some hx736
                    refine T_cutP (τ := Bool) (γ := Unit) (J := j97) (out := x728) (fun s97 y97 => [(1, .slice (A0_0) ((p1).length) (c0_0)), (2, .pointer (some ⟨g1, 0, none⟩)), (5, .slice (y728.1) ((s728.1).length) (y728.2.1)), (6, .slice (y409.2.2.2.1) ((s409.2.1).length) (y409.2.2.2.2.1)), (8, .int .i64 (x415)), (9, .slice (y728.2.2.1) ((s728.2.1).length) (y728.2.2.2)), (10, .slice (A654) ((s626.2.2 ++ [x635]).length) (c655)), (13, .int .i64 (x734)), (17, .slice (A0_0) ((p1).length) (c0_0)), (18, .int .i64 ((((p1).length : Nat) : Int))), (19, .int .i64 (s409.2.2)), (57, .slice (A659) ((r656).length) (c660)), (58, .int .i64 ((((r656).length : Nat) : Int))), (59, .int .i64 (s728.2.2)), (75, .bool (s97))]) (fun s97 y97 => [.r (y728.2.2.1) ((s728.2.1).length) (y728.2.2.2) 3 1 ((s728.2.1).flatMap e_i64), .r (A659) ((r656).length) (c660) 3 1 ((r656).flatMap e_i64), .r (A654) ((s626.2.2 ++ [x635]).length) (c655) 3 1 ((s626.2.2 ++ [x635]).flatMap e_i64), y409.2.2.2.2.2, .r (y409.2.2.2.1) ((s409.2.1).length) (y409.2.2.2.2.1) 27 1 ((y409.2.2.1).flatMap cellsV), .r (y728.1) ((s728.1).length) (y728.2.1) 4 1 ((s728.1).flatMap e_bool), .m g1 23 [.int .i64 (p0.X0), .int .i64 (p0.Y0), .int .i64 (p0.Step), .int .i64 (p0.NX), .int .i64 (p0.NY)]] ++ [.old w]) (fun s97 y97 => True) ?_ ?_
                    · intro s97 y97 hx770 hG771
                      subst hj97
                      refine T_caseB (s := 75) rfl (fun h772 => ?_) (fun h772 => ?_)
                      · have hx773 := ite_t h772 hx770
                        refine T_condT rfl ?_
                        refine T_seq ?_
                        refine T_reg ?_
                        refine T_val (Ev_move rfl) rfl ?_
                        refine T_val (Ev_move rfl) rfl ?_
                        obtain ⟨x774, h775, hx776⟩ := bnd_some hx773
                        refine T_idxR (k := 5) rfl (by decide) (fun _ => rfl) h775 (fun b777 j779 hA780 hj781 hl782 hm784 hp783 => ?_)
                        refine T_val (Ev_index rfl rfl hA780 (j := j779) hj781 hl782 slc37) rfl ?_
                        refine T_h (Wh_storeP e_bool (s728.1) (x734) (true) rfl rfl rfl (.there (.there (.there (.there (.there (.here)))))) hA780 rfl hj781 hl782 (fun _ => rfl) (by decide) rfl one4.2 ?_)
                        refine T_nil ?_
                        refine T_next ?_
                        refine T_reg ?_
                        refine T_val (Ev_move rfl) rfl ?_
                        refine T_val (Ev_move rfl) rfl ?_
                        refine T_x (Wx_buildSlice rfl (bls27_1_0i64 _) rfl (fun g785 => ?_))
                        obtain ⟨h786, hx787⟩ := gd_some hx776
                        refine T_h (Wh_appendP e_i64 (s728.2.1) [x734] rfl rfl rfl elm27 (fun _ => rfl) (i' := 0) rfl rfl rfl rfl h786 rfl (fun _ _ => .there (.here)) (fun _ _ => .drop .refl) (by decide) (fun A788 c789 => ?_))
                        refine T_val (Ev_assign rfl) rfl ?_
                        refine T_nil ?_
                        refine T_inN ?_
                        have hn793 : (s728.1).length = (setI s728.1 x734 true).length := by simp [setI_len, cpy_len, List.length_append] <;> omega
                        refine T_ent (.there (.there (.there (.there (.there (.here)))))) (e' := .r (y728.1) ((setI s728.1 x734 true).length) (y728.2.1) 4 1 ((setI s728.1 x734 true).flatMap e_bool)) (by first | (rw [← hn793]; done) | rfl) ?_
                        refine T_slot (s := 5) (v' := .slice (y728.1) ((setI s728.1 x734 true).length) (y728.2.1)) rfl (by have hn794 : ((s728.1).length) = (setI s728.1 x734 true).length := (by simp [setI_len, cpy_len, List.length_append] <;> omega); first | (rw [← hn794]; done) | rfl) ?_
                        exact T_metP (setI s728.1 x734 true, s728.2.1 ++ [x734]) (y728.1, y728.2.1, A788, c789) hx787 trivial (by exact .cons rfl (.cons rfl (.cons rfl (.cons rfl (.cons rfl (.cons rfl (.cons rfl (.cons rfl (.cons rfl (.cons rfl (.cons rfl (.cons rfl (.cons rfl (.nil)))))))))))))) (by exact .pick 0 rfl (.pick 0 rfl (.pick 0 rfl (.pick 0 rfl (.pick 0 rfl (.pick 0 rfl (.pick 0 rfl (.refl))))))))
                      · have hx790 := ite_bf h772 hx770
                        refine T_condF rfl ?_
                        refine T_skip ?_
                        refine T_inN ?_
                        exact T_metP (s728.1, s728.2.1) (y728.1, y728.2.1, y728.2.2.1, y728.2.2.2) hx790 trivial (by exact .cons rfl (.cons rfl (.cons rfl (.cons rfl (.cons rfl (.cons rfl (.cons rfl (.cons rfl (.cons rfl (.cons rfl (.cons rfl (.cons rfl (.cons rfl (.nil)))))))))))))) (by exact .pick 0 rfl (.pick 0 rfl (.pick 0 rfl (.pick 0 rfl (.pick 0 rfl (.pick 0 rfl (.pick 0 rfl (.refl))))))))
                    · skip
                      refine T_reg ?_
                      refine T_val (Ev_move rfl) rfl ?_
                      refine T_val (Ev_move rfl) rfl ?_
                      obtain ⟨x745, h746, hx747⟩ := bnd_some hx736
                      have hw755 := Has.low (E := []) ha0' hK
                      obtain ⟨b748, o749, j750, hA751, hj752, hl753, hp754⟩ := Has.at_idx hw755 h746
                      refine T_val (Ev_index rfl rfl hA751 (j := j750) hj752 hl753 slc27) rfl ?_
                      refine T_val (Ev_loadP0 rfl hp754 (SubE.cons2 (i := 7) rfl (SubE.nil)) rfl one3) rfl ?_
                      refine T_val (Ev_move rfl) rfl ?_
                      refine T_val (Ev_eql rfl rfl) rfl ?_
                      refine T_val (Ev_move rfl) rfl ?_
                      refine T_caseP (s := 69) rfl (fun h756 => ?_) (fun h756 => ?_)
                      · have hx757 := ite_t h756 hx747
                        refine T_valG rfl rfl rfl (Ev_move rfl) rfl ?_
                        refine T_valG rfl rfl rfl (Ev_move rfl) rfl ?_
                        obtain ⟨x758, h759, hx760⟩ := bnd_some hx757
                        refine T_idxR (k := 5) rfl (by decide) (fun _ => rfl) h759 (fun b761 j763 hA764 hj765 hl766 hm768 hp767 => ?_)
                        refine T_valG rfl rfl rfl (Ev_index rfl rfl hA764 (j := j763) hj765 hl766 slc37) rfl ?_
                        refine T_valG rfl rfl rfl (Ev_loadP0 rfl hp767 (SubE.cons2 (i := 5) rfl (SubE.nil)) rfl one4) rfl ?_
                        refine T_valG rfl rfl rfl (Ev_not rfl) rfl ?_
                        refine T_val (Ev_pickT rfl rfl) rfl ?_
                        refine T_nil ?_
                        exact T_metP (!(x758)) () hx760 trivial (by exact .cons rfl (.cons rfl (.cons rfl (.cons rfl (.cons rfl (.cons rfl (.cons rfl (.cons rfl (.cons rfl (.cons rfl (.cons rfl (.cons rfl (.cons rfl (.cons rfl (.cons rfl (.nil)))))))))))))))) (by exact .pick 0 rfl (.pick 0 rfl (.pick 0 rfl (.pick 0 rfl (.pick 0 rfl (.pick 0 rfl (.pick 0 rfl (.refl))))))))
                      · have hx769 := ite_f h756 hx747
                        refine T_skipG rfl rfl rfl rfl rfl ?_
                        refine T_skipG rfl rfl rfl rfl rfl ?_
                        refine T_skipG rfl rfl rfl rfl rfl ?_
                        refine T_skipG rfl rfl rfl rfl rfl ?_
                        refine T_skipG rfl rfl rfl rfl rfl ?_
                        refine T_val (Ev_pickF rfl rfl) rfl ?_
                        refine T_nil ?_
                        exact T_metP false () hx769 trivial (by exact .cons rfl (.cons rfl (.cons rfl (.cons rfl (.cons rfl (.cons rfl (.cons rfl (.cons rfl (.cons rfl (.cons rfl (.cons rfl (.cons rfl (.cons rfl (.cons rfl (.cons rfl (.nil)))))))))))))))) (by exact .pick 0 rfl (.pick 0 rfl (.pick 0 rfl (.pick 0 rfl (.pick 0 rfl (.pick 0 rfl (.pick 0 rfl (.refl))))))))
                · have hx733 := ite_f h731 hx728
                  refine T_condF rfl ?_
                  refine T_exit ?_
                  refine T_outX ?_
                  obtain rfl := exit_eq ht728 hx733
                  refine T_outX ?_
                  refine T_here ?_
                  refine T_inN ?_
                  exact T_roundP (s728.1, s728.2.1, s626.2.2 ++ [x635]) (y728.1, y728.2.1, y728.2.2.1, y728.2.2.2, A654, c655) ho728 trivial (by exact .cons rfl (.cons rfl (.cons rfl (.cons rfl (.cons rfl (.cons rfl (.cons rfl (.cons rfl (.cons rfl (.cons rfl (.nil))))))))))) (by exact .pick 2 rfl (.pick 0 rfl (.pick 1 rfl (.pick 1 rfl (.pick 1 rfl (.pick 1 rfl (.drop 0 rfl (.refl))))))))
              · have hx634 := ite_f h632 hx626
                refine T_condF rfl ?_
                refine T_exit ?_
                refine T_outX ?_
                obtain rfl := exit_eq ht626 hx634
                refine T_outX ?_
                refine T_here ?_
                exact T_metP (s626.1, s626.2.2) (y626.1, y626.2.1, y626.2.2.2.2.1, y626.2.2.2.2.2) ho626 trivial (by exact .cons rfl (.cons rfl (.cons rfl (.cons rfl (.cons rfl (.cons rfl (.cons rfl (.cons rfl (.nil))))))))) (by exact .pick 0 rfl (.pick 1 rfl (.pick 1 rfl (.pick 1 rfl (.pick 1 rfl (.drop 0 rfl (.refl)))))))
        · skip
          refine T_reg ?_
          refine T_val (Ev_move rfl) rfl ?_
          refine T_val (Ev_eql rfl rfl) rfl ?_
          refine T_val (Ev_move rfl) rfl ?_
          refine T_caseP (s := 26) rfl (fun h426 => ?_) (fun h426 => ?_)
          · have hx427 := ite_t h426 hx417
            refine T_skipG rfl rfl rfl rfl rfl ?_
            refine T_skipG rfl rfl rfl rfl rfl ?_
            refine T_skipG rfl rfl rfl rfl rfl ?_
            refine T_skipG rfl rfl rfl rfl rfl ?_
            refine T_val (Ev_pickT rfl rfl) rfl ?_
            refine T_nil ?_
            exact T_metP true () hx427 trivial (by exact .cons rfl (.cons rfl (.cons rfl (.cons rfl (.cons rfl (.cons rfl (.cons rfl (.cons rfl (.cons rfl (.cons rfl (.nil))))))))))) (by exact .pick 0 rfl (.pick 0 rfl (.pick 0 rfl (.pick 0 rfl (.refl)))))
          · have hx428 := ite_f h426 hx417
            refine T_valG rfl rfl rfl (Ev_move rfl) rfl ?_
            refine T_valG rfl rfl rfl (Ev_move rfl) rfl ?_
            obtain ⟨x429, h430, hx431⟩ := bnd_some hx428
            refine T_idxR (k := 2) rfl (by decide) (fun _ => rfl) h430 (fun b432 j434 hA435 hj436 hl437 hm439 hp438 => ?_)
            refine T_valG rfl rfl rfl (Ev_index rfl rfl hA435 (j := j434) hj436 hl437 slc37) rfl ?_
            refine T_valG rfl rfl rfl (Ev_loadP0 rfl hp438 (SubE.cons2 (i := 2) rfl (SubE.nil)) rfl one4) rfl ?_
            refine T_val (Ev_pickF rfl rfl) rfl ?_
            refine T_nil ?_
            exact T_metP x429 () hx431 trivial (by exact .cons rfl (.cons rfl (.cons rfl (.cons rfl (.cons rfl (.cons rfl (.cons rfl (.cons rfl (.cons rfl (.cons rfl (.nil))))))))))) (by exact .pick 0 rfl (.pick 0 rfl (.pick 0 rfl (.pick 0 rfl (.refl)))))
    · have hx414 := ite_f h412 hx409
      refine T_condF rfl ?_
      refine T_exit ?_
      refine T_outX ?_
      obtain rfl := exit_eq ht409 hx414
      refine T_outX ?_
      refine T_here ?_
      exact T_metP s409.2.1 (y409.2.2.1, y409.2.2.2.1, y409.2.2.2.2.1, y409.2.2.2.2.2) ho409 ((by exact ⟨lo410, (RowN.up (R := n_List_Int) (L := ([y409.2.2.2.2.2] : List Ent)) n_List_Int_mono hr411 (SubE.cons2 (i := 0) rfl (SubE.nil))), trivial⟩)) (by exact .cons rfl (.nil)) (by exact .pick 0 rfl (.pick 0 rfl (.drop 0 rfl (.drop 0 rfl (.refl)))))
set_option maxRecDepth 100000 in
theorem lidarlaw09_good_ok (p0 : S_api_Grid) {K : List Ent} {A0_0 : Option Addr} {c0_0 : Nat} (ha0 : Has K A0_0 (p0.Cells).length c0_0 3 e_api_Cell (p0.Cells)) {r : Bool} (hx : lidarlaw09_good p0 = some r) (w : World) (hK : ∀ e ∈ K, Ent.ok w e) : CtL Try.prog 36 [.agg #[.int .i64 (p0.Raster.X0), .int .i64 (p0.Raster.Y0), .int .i64 (p0.Raster.Step), .int .i64 (p0.Raster.NX), .int .i64 (p0.Raster.NY), .slice (A0_0) ((p0.Cells).length) (c0_0)]] w fun v Ln => v = .bool (r) ∧ Ln = [] ∧ True := by
  have ha0' := Has.up0 ha0
  refine CtL.mk 11 Try.func36 rfl Try.ntmps36 (by kernel_rfl) rfl ?_
  show T 11 _ [(0, .agg #[.int .i64 (p0.Raster.X0), .int .i64 (p0.Raster.Y0), .int .i64 (p0.Raster.Step), .int .i64 (p0.Raster.NX), .int .i64 (p0.Raster.NY), .slice (A0_0) ((p0.Cells).length) (c0_0)])] _
  unfold lidarlaw09_good at hx
  refine T_seq ?_
  refine T_reg ?_
  refine T_x (Wx_box rfl rfl rfl (fun g1 => ?_))
  refine T_val (Ev_assign rfl) rfl ?_
  refine T_nil ?_
  refine T_next ?_
  obtain ⟨j2, hj2, hx⟩ := jn_some hx
  refine T_cutP (τ := Bool) (γ := Unit) (J := j2) (out := r) (fun s2 y2 => [(2, .bool (s2))]) (fun s2 y2 => [] ++ [.old w]) (fun s2 y2 => True) ?_ ?_
  · intro s2 y2 hx8 hG9
    subst hj2
    refine T_retc ?_
    obtain rfl := Option.some.inj hx8
    exact T_retP (rs := [.tmp 2]) Try.results36 (.tmp rfl (.nil)) (Ln := []) ⟨rfl, rfl, trivial⟩ (loNil) (by exact .refl)
  · skip
    refine T_reg ?_
    refine T_val (Ev_field rfl fld26_1 rfl) rfl ?_
    refine T_val (Ev_load1 rfl (i := 0) rfl rfl one24) rfl ?_
    refine T_val (Ev_len rfl 41 Try.underlying24) rfl ?_
    refine T_val (Ev_leq rfl rfl) rfl ?_
    refine T_val (Ev_move rfl) rfl ?_
    refine T_caseP (s := 7) rfl (fun h2 => ?_) (fun h2 => ?_)
    · have hx3 := ite_t h2 hx
      refine T_valG rfl rfl rfl (Ev_loadK rfl (i := 0) rfl rfl agg26) rfl ?_
      obtain ⟨r4, h5, hx6⟩ := bnd_some hx3
      refine T_xG rfl rfl rfl (Wx_callL rfl (fun w1 hw1 => lidarref09_Valid_ok p0 (Has.len' ha0') h5 w1 (okApp (K := K) (K2 := []) hK (by exact (SubE.cons2 (i := 1) rfl (SubE.nil))) (by exact (SubE.nil)) hw1)) rfl ?_)
      rintro _ _ hlo ⟨rfl, rfl, -⟩
      refine T_app0 ?_
      refine T_val (Ev_pickT rfl rfl) rfl ?_
      refine T_val (Ev_assign rfl) rfl ?_
      refine T_nil ?_
      exact T_metP r4 () hx6 trivial (by exact .cons rfl (.nil)) (by exact .drop 0 rfl (.refl))
    · have hx7 := ite_f h2 hx
      refine T_skipG rfl rfl rfl rfl rfl ?_
      refine T_skipG rfl rfl rfl rfl rfl ?_
      refine T_val (Ev_pickF rfl rfl) rfl ?_
      refine T_val (Ev_assign rfl) rfl ?_
      refine T_nil ?_
      exact T_metP false () hx7 trivial (by exact .cons rfl (.nil)) (by exact .drop 0 rfl (.refl))
set_option maxRecDepth 100000 in
theorem lidarlaw09_sameInts_ok (p0 : List Int) (p1 : List Int) {K : List Ent} {A0_0 : Option Addr} {c0_0 : Nat} {A0_1 : Option Addr} {c0_1 : Nat} (ha0 : Has K A0_0 (p0).length c0_0 1 e_i64 (p0)) (ha1 : Has K A0_1 (p1).length c0_1 1 e_i64 (p1)) {r : Bool} (hx : lidarlaw09_sameInts p0 p1 = some r) (w : World) (hK : ∀ e ∈ K, Ent.ok w e) : CtL Try.prog 51 [.slice (A0_0) ((p0).length) (c0_0), .slice (A0_1) ((p1).length) (c0_1)] w fun v Ln => v = .bool (r) ∧ Ln = [] ∧ True := by
  have ha0' := Has.up0 ha0
  have ha1' := Has.up0 ha1
  refine CtL.mk 26 Try.func51 rfl Try.ntmps51 (by kernel_rfl) rfl ?_
  show T 26 _ [(0, .slice (A0_0) ((p0).length) (c0_0)), (1, .slice (A0_1) ((p1).length) (c0_1))] _
  unfold lidarlaw09_sameInts at hx
  refine T_seq ?_
  refine T_reg ?_
  refine T_val (Ev_assign rfl) rfl ?_
  refine T_nil ?_
  refine T_next ?_
  refine T_seq ?_
  refine T_seq ?_
  refine T_reg ?_
  refine T_val (Ev_move rfl) rfl ?_
  refine T_val (Ev_len rfl 3 Try.underlying27) rfl ?_
  refine T_val (Ev_move rfl) rfl ?_
  refine T_val (Ev_len rfl 3 Try.underlying27) rfl ?_
  refine T_val (Ev_neq rfl rfl) rfl ?_
  refine T_nil ?_
  refine T_next ?_
  refine T_caseNP (s := 10) rfl (fun h1 => ?_) (fun h1 => ?_)
  · have hx2 := ite_f h1 hx
    refine T_condT rfl ?_
    refine T_seq ?_
    refine T_reg ?_
    refine T_val (Ev_assign rfl) rfl ?_
    refine T_nil ?_
    refine T_next ?_
    refine T_retc ?_
    refine T_outR ?_
    obtain rfl := Option.some.inj hx2
    exact T_retP (rs := [.tmp 4]) Try.results51 (.tmp rfl (.nil)) (Ln := []) ⟨rfl, rfl, trivial⟩ (loNil) (by exact .refl)
  · have hx3 := ite_t h1 hx
    refine T_condF rfl ?_
    refine T_skip ?_
    refine T_next ?_
    obtain ⟨j5, hj5, hx3⟩ := jn_some hx3
    refine T_cutP (τ := Unit) (γ := Unit) (J := j5) (out := r) (fun s5 y5 => []) (fun s5 y5 => [] ++ [.old w]) (fun s5 y5 => True) ?_ ?_
    · intro s5 y5 hx62 hG63
      subst hj5
      refine T_seq ?_
      refine T_reg ?_
      refine T_val (Ev_assign rfl) rfl ?_
      refine T_nil ?_
      refine T_next ?_
      refine T_retc ?_
      obtain rfl := Option.some.inj hx62
      exact T_retP (rs := [.tmp 4]) Try.results51 (.tmp rfl (.nil)) (Ln := []) ⟨rfl, rfl, trivial⟩ (loNil) (by exact .refl)
    · skip
      refine T_seq ?_
      refine T_reg ?_
      refine T_val (Ev_assign rfl) rfl ?_
      refine T_nil ?_
      refine T_next ?_
      refine T_block ?_
      obtain ⟨t33, hl33, ho33⟩ := bnd_some hx3
      refine T_loopP (σ := Int) (γ := Unit) hl33 (fun s33 y33 => [(0, .slice (A0_0) ((p0).length) (c0_0)), (1, .slice (A0_1) ((p1).length) (c0_1)), (5, .int .i64 (s33))]) (fun s33 y33 => [] ++ [.old w]) (fun s33 y33 => True) () trivial (by exact .cons rfl (.cons rfl (.cons rfl (.nil)))) (by exact .refl) ?_
      intro s33 y33 hG33 x33 hx33 ht33
      unfold lidarlaw09_sameInts_l4 at hx33
      refine T_seq ?_
      refine T_seq ?_
      refine T_reg ?_
      refine T_val (Ev_move rfl) rfl ?_
      refine T_val (Ev_move rfl) rfl ?_
      refine T_val (Ev_len rfl 3 Try.underlying27) rfl ?_
      refine T_val (Ev_lss rfl rfl) rfl ?_
      refine T_nil ?_
      refine T_next ?_
      refine T_caseP (s := 14) rfl (fun h34 => ?_) (fun h34 => ?_)
      · have hx35 := ite_t h34 hx33
        refine T_condT rfl ?_
        refine T_skip ?_
        refine T_next ?_
        refine T_seq ?_
        refine T_block ?_
        refine T_seq ?_
        refine T_draw [0, 0, 0, 1, 0, 0, 0, 1, 0] [[], [], [0, 1], [0, 1, 2], [], [], [4, 5], [4, 5, 6], [0, 1, 2, 3, 4, 5, 6, 7]] (.q 0 (.q 1 (.q 2 (.q 3 (.q 4 (.q 5 (.q 6 (.q 7 (.q 8 (.done)))))))))) mixed (by kernel_rfl) (by kernel_rfl) ?_
        refine P_p rfl rfl (Ev_move rfl) rfl ?_
        refine P_p rfl rfl (Ev_move rfl) rfl ?_
        obtain ⟨x37, h38, hx39⟩ := bnd_some hx35
        have hw47 := Has.low (E := []) ha0' hK
        obtain ⟨b40, o41, j42, hA43, hj44, hl45, hp46⟩ := Has.at_idx hw47 h38
        refine P_p rfl rfl (Ev_index rfl rfl hA43 (j := j42) hj44 hl45 slc27) rfl ?_
        refine P_q rfl rfl (Ev_loadP0 rfl hp46 (SubE.cons2 (i := 0) rfl (SubE.nil)) rfl one3) rfl ?_
        refine P_p rfl rfl (Ev_move rfl) rfl ?_
        refine P_p rfl rfl (Ev_move rfl) rfl ?_
        obtain ⟨x48, h49, hx50⟩ := bnd_some hx39
        have hw58 := Has.low (E := []) ha1' hK
        obtain ⟨b51, o52, j53, hA54, hj55, hl56, hp57⟩ := Has.at_idx hw58 h49
        refine P_p rfl rfl (Ev_index rfl rfl hA54 (j := j53) hj55 hl56 slc27) rfl ?_
        refine P_q rfl rfl (Ev_loadP0 rfl hp57 (SubE.cons2 (i := 0) rfl (SubE.nil)) rfl one3) rfl ?_
        refine P_p rfl rfl (Ev_neq rfl rfl) rfl ?_
        refine P_done ?_
        refine T_next ?_
        refine T_caseNP (s := 25) rfl (fun h59 => ?_) (fun h59 => ?_)
        · have hx60 := ite_f h59 hx50
          refine T_condT rfl ?_
          refine T_seq ?_
          refine T_reg ?_
          refine T_val (Ev_assign rfl) rfl ?_
          refine T_nil ?_
          refine T_next ?_
          refine T_retc ?_
          refine T_inR ?_
          refine T_outR ?_
          obtain rfl := exit_eq ht33 hx60
          refine T_outR ?_
          refine T_inR ?_
          refine T_outR ?_
          obtain rfl := Option.some.inj ho33
          exact T_retP (rs := [.tmp 4]) Try.results51 (.tmp rfl (.nil)) (Ln := []) ⟨rfl, rfl, trivial⟩ (loNil) (by exact .refl)
        · have hx61 := ite_t h59 hx50
          refine T_condF rfl ?_
          refine T_skip ?_
          refine T_inN ?_
          refine T_next ?_
          refine T_reg ?_
          refine T_val (Ev_move rfl) rfl ?_
          refine T_val (Ev_add_w64 rfl rfl) rfl ?_
          refine T_val (Ev_assign rfl) rfl ?_
          refine T_nil ?_
          exact T_roundP (w64 (s33 + 1)) () hx61 trivial (by exact .cons rfl (.cons rfl (.cons rfl (.nil)))) (by exact .refl)
      · have hx36 := ite_f h34 hx33
        refine T_condF rfl ?_
        refine T_exit ?_
        refine T_outX ?_
        obtain rfl := exit_eq ht33 hx36
        refine T_outX ?_
        refine T_here ?_
        exact T_metP () () ho33 trivial (by exact .nil) (by exact .refl)
end Go.Proofs.Ytjhknbpiaikblaa
