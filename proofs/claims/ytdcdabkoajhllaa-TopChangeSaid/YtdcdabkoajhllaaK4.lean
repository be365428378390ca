/- Walks of the program, with their plain functions: groups of nodes, regions. -/
import Derived.Test.YtdcdabkoajhllaaK3
import Derived.Test.YtdcdabkoajhllaaFlow7
namespace Go.Proofs.Ytdcdabkoajhllaa
open Go Go.RowKit
theorem slc86 : SliceOf Try.prog 86 4 1 := .mk Try.underlying86 (show Try.prog.info? 4 = some Try.t4 from by kernel_rfl) (by kernel_rfl)
theorem bls66_1_0s (x0 : Option Addr) (x1 : Nat) (x2 : Nat) : BuildSliceOf Try.prog 66 1 [(0, .slice x0 x1 x2)] 34 [.slice x0 x1 x2] := fun w => by kernel_rfl
theorem elm66 : ElemOf Try.prog 66 34 1 24 := ⟨Try.underlying66, ⟨Try.t34, .slice (none) (0) (0), by kernel_rfl, by kernel_rfl, by kernel_rfl, by kernel_rfl, rfl⟩, by decide⟩
theorem slc66 : SliceOf Try.prog 66 34 1 := .mk Try.underlying66 (show Try.prog.info? 34 = some Try.t34 from by kernel_rfl) (by kernel_rfl)
theorem one34 : OneOf Try.prog 34 := .mk Try.underlying34 rfl (show Try.prog.info? 34 = some Try.t34 from by kernel_rfl) (by kernel_rfl)
theorem bld53_0i641s (x0 : Int) (x1 : Option Addr) (x2 : Nat) (x3 : Nat) : BuildOf Try.prog 53 [(0, .int .i64 x0), (1, .slice x1 x2 x3)] [.int .i64 x0, .slice x1 x2 x3, .bool (false), .slice (none) (0) (0), .slice (none) (0) (0), .bool (false), .slice (none) (0) (0), .slice (none) (0) (0)] := fun w => by kernel_rfl
theorem zer53 : ZeroOf Try.prog 53 [.int .i64 (0), .slice (none) (0) (0), .bool (false), .slice (none) (0) (0), .slice (none) (0) (0), .bool (false), .slice (none) (0) (0), .slice (none) (0) (0)] := ⟨_, Try.zeroValue53, rfl⟩
theorem agg53 : AggOf Try.prog 53 8 := .mk Try.underlying53 rfl (show Try.prog.info? 53 = some Try.t53 from by kernel_rfl) (by kernel_rfl)
theorem fld53_2 : FieldOf Try.prog 53 2 2 := .mk Try.underlying53 rfl rfl (show Try.prog.info? 51 = some Try.t51 from by kernel_rfl) (show Try.t51.size = 3 from by kernel_rfl) rfl
theorem fld53_3 : FieldOf Try.prog 53 3 5 := .mk Try.underlying53 rfl rfl (show Try.prog.info? 51 = some Try.t51 from by kernel_rfl) (show Try.t51.size = 3 from by kernel_rfl) rfl
theorem bls44_1_0ai64sbssbss (x0 : Int) (x1 : Option Addr) (x2 : Nat) (x3 : Nat) (x4 : Bool) (x5 : Option Addr) (x6 : Nat) (x7 : Nat) (x8 : Option Addr) (x9 : Nat) (x10 : Nat) (x11 : Bool) (x12 : Option Addr) (x13 : Nat) (x14 : Nat) (x15 : Option Addr) (x16 : Nat) (x17 : Nat) : BuildSliceOf Try.prog 44 1 [(0, .agg #[.int .i64 x0, .slice x1 x2 x3, .bool x4, .slice x5 x6 x7, .slice x8 x9 x10, .bool x11, .slice x12 x13 x14, .slice x15 x16 x17])] 53 [.int .i64 x0, .slice x1 x2 x3, .bool x4, .slice x5 x6 x7, .slice x8 x9 x10, .bool x11, .slice x12 x13 x14, .slice x15 x16 x17] := fun w => by kernel_rfl
theorem elm44 : ElemOf Try.prog 44 53 8 144 := ⟨Try.underlying44, ⟨Try.t53, .agg #[.int .i64 (0), .slice (none) (0) (0), .bool (false), .slice (none) (0) (0), .slice (none) (0) (0), .bool (false), .slice (none) (0) (0), .slice (none) (0) (0)], by kernel_rfl, by kernel_rfl, by kernel_rfl, by kernel_rfl, rfl⟩, by decide⟩
noncomputable def model_neighbours (p0 : S_api_Raster) (p1 : Int) : Option (List Int) :=
 gd (p0.NX ≠ 0) <|
 gd (p0.NX ≠ 0) <|
 jn (fun (s4 : List Int) =>
 jn (fun (s6 : List Int) =>
 jn (fun (s8 : List Int) =>
 jn (fun (s10 : List Int) =>
 some s10)
 (fun j10 => if (w64 ((w64 (Int.tdiv p1 p0.NX)) + 1)) < p0.NY then (gd (((s8).length + 1) * 8 ≤ 140737488355328) <|
 j10 (s8 ++ [w64 (p1 + p0.NX)]))
 else (j10 s8)))
 (fun j8 => if (w64 ((Int.tmod p1 p0.NX) + 1)) < p0.NX then (gd (((s6).length + 1) * 8 ≤ 140737488355328) <|
 j8 (s6 ++ [w64 (p1 + 1)]))
 else (j8 s6)))
 (fun j6 => if 0 < (Int.tmod p1 p0.NX) then (gd (((s4).length + 1) * 8 ≤ 140737488355328) <|
 j6 (s4 ++ [w64 (p1 - 1)]))
 else (j6 s4)))
 (fun j4 => if 0 < (w64 (Int.tdiv p1 p0.NX)) then (gd (((([] : List Int)).length + 1) * 8 ≤ 140737488355328) <|
 j4 ((([] : List Int)) ++ [w64 (p1 - p0.NX)]))
 else (j4 ([] : List Int)))
def e_bool (x : Bool) : List Value := [.bool (x)]
theorem e_bool_len (x : Bool) : (e_bool x).length = 1 := rfl
def n_List_Int (K : List Ent) (x : List Int) (ys : List Value) : Prop := ∃ (A0 : Option Addr) (c0 : Nat), ys = [.slice (A0) ((x).length) (c0)] ∧ Has K A0 (x).length c0 1 e_i64 (x)
theorem n_List_Int_mono {K L : List Ent} {x : List Int} {ys : List Value} (hK : SubE K L) (h : n_List_Int K x ys) : n_List_Int L x ys := by
  obtain ⟨A0, c0, h0, h1⟩ := h
  exact ⟨A0, c0, h0, Has.up h1 hK⟩
noncomputable def model_groups_l15 (r656 : List Int) (p1 : List Int) (x415 : Int) (s626 : (List Bool) × (List Int) × (List Int)) (x635 : Int) : ((List Bool) × (List Int) × Int) → Option (Sum ((List Bool) × (List Int) × Int) ((List Bool) × (List Int) × (List Int))) := fun s728 =>
 if s728.2.2 < ((((r656).length : Nat) : Int)) then (jn (fun (s95 : (List Bool) × (List Int)) =>
 some (.inl (s95.1, s95.2, w64 (s728.2.2 + 1))))
 (fun j95 => bnd (idx r656 s728.2.2) fun x734 =>
 jn (fun (s97 : Bool) =>
 if s97 = true then (bnd (idx s728.1 x734) fun x774 =>
 gd (((s728.2.1).length + 1) * 8 ≤ 140737488355328) <|
 j95 (setI s728.1 x734 true, s728.2.1 ++ [x734]))
 else (j95 (s728.1, s728.2.1)))
 (fun j97 => bnd (idx p1 x734) fun x745 =>
 if x745 = x415 then (bnd (idx s728.1 x734) fun x758 =>
 j97 (!(x758)))
 else (j97 false))))
 else (some (.inr (s728.1, s728.2.1, s626.2.2 ++ [x635])))
noncomputable def model_groups_l10 (p0 : S_api_Raster) (p1 : List Int) (x415 : Int) : ((List Bool) × (List Int) × (List Int)) → Option (Sum ((List Bool) × (List Int) × (List Int)) ((List Bool) × (List Int))) := fun s626 =>
 if 0 < ((((s626.2.1).length : Nat) : Int)) then (bnd (idx s626.2.1 (w64 (((((s626.2.1).length : Nat) : Int)) - 1))) fun x635 =>
 gd (0 ≤ (w64 (((((s626.2.1).length : Nat) : Int)) - 1)) ∧ (w64 (((((s626.2.1).length : Nat) : Int)) - 1)) ≤ (((s626.2.1).length : Nat) : Int)) <|
 gd (((s626.2.2).length + 1) * 8 ≤ 140737488355328) <|
 bnd (model_neighbours p0 x635) fun r656 =>
 bnd (lfix (model_groups_l15 r656 p1 x415 s626 x635) (s626.1, List.take (Int.toNat (w64 (((((s626.2.1).length : Nat) : Int)) - 1))) s626.2.1, 0)) fun t728 =>
 some (.inl t728))
 else (some (.inr (s626.1, s626.2.2)))
noncomputable def model_groups_l4 (p1 : List Int) (p0 : S_api_Raster) : ((List Bool) × (List (List Int)) × Int) → Option (Sum ((List Bool) × (List (List Int)) × Int) (List (List Int))) := fun s409 =>
 if s409.2.2 < ((((p1).length : Nat) : Int)) then (jn (fun (s55 : (List Bool) × (List (List Int))) =>
 some (.inl (s55.1, s55.2, w64 (s409.2.2 + 1))))
 (fun j55 => bnd (idx p1 s409.2.2) fun x415 =>
 jn (fun (s58 : Bool) =>
 if s58 = true then (j55 (s409.1, s409.2.1))
 else (bnd (idx s409.1 s409.2.2) fun x445 =>
 jn (fun (s62 : (List Bool) × (List Int)) =>
 gd ((s62.2).length ≤ 1000000) <|
 gd (((s409.2.1).length + 1) * 24 ≤ 140737488355328) <|
 j55 (s62.1, s409.2.1 ++ [sortI s62.2]))
 (fun j62 => bnd (lfix (model_groups_l10 p0 p1 x415) (setI s409.1 s409.2.2 true, [s409.2.2], ([] : List Int))) fun t626 =>
 j62 t626)))
 (fun j58 => if x415 = 0 then (j58 true)
 else (bnd (idx s409.1 s409.2.2) fun x429 =>
 j58 x429))))
 else (some (.inr s409.2.1))
noncomputable def model_groups (p0 : S_api_Raster) (p1 : List Int) : Option (List (List Int)) :=
 gd ((0 : Int) ≤ ((((p1).length : Nat) : Int)) ∧ 1 * Int.toNat ((((p1).length : Nat) : Int)) ≤ 140737488355328) <|
 jn (fun (s4 : List (List Int)) =>
 some s4)
 (fun j4 => bnd (lfix (model_groups_l4 p1 p0) (List.replicate (Int.toNat ((((p1).length : Nat) : Int))) (false : Bool), ([] : List (List Int)), 0)) fun t409 =>
 j4 t409)
structure S_api_Region where
  State : Int
  Nodes : List Int
  Lo : S_api_Rat
  Hi : S_api_Rat
def n_api_Region (K : List Ent) (x : S_api_Region) (ys : List Value) : Prop := ∃ (A0 : Option Addr) (c0 : Nat) (A1 : Option Addr) (c1 : Nat) (A2 : Option Addr) (c2 : Nat) (A3 : Option Addr) (c3 : Nat) (A4 : Option Addr) (c4 : Nat), ys = [.int .i64 (x.State), .slice (A0) ((x.Nodes).length) (c0), .bool (x.Lo.Neg), .slice (A1) ((x.Lo.Num).length) (c1), .slice (A2) ((x.Lo.Den).length) (c2), .bool (x.Hi.Neg), .slice (A3) ((x.Hi.Num).length) (c3), .slice (A4) ((x.Hi.Den).length) (c4)] ∧ Has K A0 (x.Nodes).length c0 1 e_i64 (x.Nodes) ∧ Has K A1 (x.Lo.Num).length c1 1 e_u32 (x.Lo.Num) ∧ Has K A2 (x.Lo.Den).length c2 1 e_u32 (x.Lo.Den) ∧ Has K A3 (x.Hi.Num).length c3 1 e_u32 (x.Hi.Num) ∧ Has K A4 (x.Hi.Den).length c4 1 e_u32 (x.Hi.Den)
theorem n_api_Region_mono {K L : List Ent} {x : S_api_Region} {ys : List Value} (hK : SubE K L) (h : n_api_Region K x ys) : n_api_Region L x ys := by
  obtain ⟨A0, c0, A1, c1, A2, c2, A3, c3, A4, c4, h0, h1, h2, h3, h4, h5⟩ := h
  exact ⟨A0, c0, A1, c1, A2, c2, A3, c3, A4, c4, h0, Has.up h1 hK, Has.up h2 hK, Has.up h3 hK, Has.up h4 hK, Has.up h5 hK⟩
noncomputable def model_Regions_l8 (r12 : List Int) : ((List Int) × Int) → Option (Sum ((List Int) × Int) (List Int)) := fun s51 =>
 if s51.2 < ((((r12).length : Nat) : Int)) then (jn (fun (s19 : List Int) =>
 some (.inl (s19, w64 (s51.2 + 1))))
 (fun j19 => bnd (idx s51.1 s51.2) fun x55 =>
 if x55 = 2 then (bnd (idx s51.1 s51.2) fun x68 =>
 j19 (setI s51.1 s51.2 0))
 else (j19 s51.1)))
 else (some (.inr s51.1))
noncomputable def model_Regions_l15 (r89 : List (List Int)) (p2 : Int) (s10 : List Int) (p0 : S_api_Grid) (p1 : S_api_Grid) : ((List S_api_Region) × Int) → Option (Sum ((List S_api_Region) × Int) (List S_api_Region)) := fun s254 =>
 if s254.2 < ((((r89).length : Nat) : Int)) then (jn (fun (s43 : List S_api_Region) =>
 some (.inl (s43, w64 (s254.2 + 1))))
 (fun j43 => bnd (idx r89 s254.2) fun x260 =>
 if ((((x260).length : Nat) : Int)) < p2 then (j43 s254.1)
 else (bnd (idx x260 0) fun x278 =>
 bnd (idx s10 x278) fun x288 =>
 bnd (model_amount p0 p1 x260) fun r300 =>
 gd (((s254.1).length + 1) * 144 ≤ 140737488355328) <|
 j43 (s254.1 ++ [(⟨x288, x260, r300.1, r300.2⟩ : S_api_Region)]))))
 else (some (.inr s254.1))
noncomputable def model_Regions (p0 : S_api_Grid) (p1 : S_api_Grid) (p2 : Int) : Option ((List S_api_Region) × Int) :=
 bnd (model_pair p0 p1) fun r3 =>
 if r3 = 0 then (if p2 < 1 then (some (([] : List S_api_Region), 2))
 else (bnd (model_states p0 p1) fun r12 =>
 jn (fun (s10 : List Int) =>
 jn (fun (s23 : List S_api_Region) =>
 some (s23, 0))
 (fun j23 => bnd (model_groups p0.Raster s10) fun r89 =>
 bnd (lfix (model_Regions_l15 r89 p2 s10 p0 p1) (([] : List S_api_Region), 0)) fun t254 =>
 j23 t254))
 (fun j10 => bnd (lfix (model_Regions_l8 r12) (r12, 0)) fun t51 =>
 j10 t51)))
 else (some (([] : List S_api_Region), r3))
set_option maxRecDepth 100000 in
theorem model_neighbours_ok (p0 : S_api_Raster) (p1 : Int)  {r : List Int} (hx : model_neighbours p0 p1 = some r) (w : World) : CtL Try.prog 34 [.agg #[.int .i64 (p0.X0), .int .i64 (p0.Y0), .int .i64 (p0.Step), .int .i64 (p0.NX), .int .i64 (p0.NY)], .int .i64 (p1)] w fun v Ln => ∃ (A0 : Option Addr) (c0 : Nat), v = .slice (A0) ((r).length) (c0) ∧ Ln = [.r A0 (r).length c0 3 1 ((r).flatMap e_i64)] ∧ True := by
  refine CtL.mk 55 Try.func34 rfl Try.ntmps34 (by kernel_rfl) rfl ?_
  show T 55 _ [(0, .agg #[.int .i64 (p0.X0), .int .i64 (p0.Y0), .int .i64 (p0.Step), .int .i64 (p0.NX), .int .i64 (p0.NY)]), (1, .int .i64 (p1))] _
  unfold model_neighbours at hx
  refine T_seq ?_
  refine T_reg ?_
  refine T_x (Wx_box rfl rfl rfl (fun g1 => ?_))
  refine T_val (Ev_assign rfl) rfl ?_
  refine T_nil ?_
  refine T_next ?_
  refine T_seq ?_
  refine T_reg ?_
  refine T_val (Ev_assign rfl) rfl ?_
  refine T_nil ?_
  refine T_next ?_
  refine T_seq ?_
  refine T_draw [0, 0, 1, 0, 0, 0, 1, 0, 2, 2] [[], [], [1], [0, 1, 2], [], [], [5], [4, 5, 6], [0, 1, 2, 3], [0, 1, 2, 3, 4, 5, 6, 7, 8]] (.q 0 (.q 1 (.q 2 (.q 3 (.q 4 (.q 5 (.q 6 (.q 7 (.e 8 (.e 9 (.done) (.stop)) (.stop)))))))))) mixed (by kernel_rfl) (by kernel_rfl) ?_
  refine P_p rfl rfl (Ev_move rfl) rfl ?_
  refine P_p rfl rfl (Ev_field rfl fld23_3 rfl) rfl ?_
  refine P_q rfl rfl (Ev_load1 rfl (i := 0) rfl rfl one3) rfl ?_
  obtain ⟨h2, hx3⟩ := gd_some hx
  refine P_p rfl rfl (Ev_rem rfl rfl h2) rfl ?_
  refine P_p rfl rfl (Ev_move rfl) rfl ?_
  refine P_p rfl rfl (Ev_field rfl fld23_3 rfl) rfl ?_
  refine P_q rfl rfl (Ev_load1 rfl (i := 0) rfl rfl one3) rfl ?_
  obtain ⟨h4, hx5⟩ := gd_some hx3
  refine P_p rfl rfl (Ev_quo_w64 rfl rfl h4) rfl ?_
  refine P_x rfl (Wx_val (Ev_assign rfl) rfl ?_) ?_
  rotate_left; exact P_stop
  refine P_x rfl (Wx_val (Ev_assign rfl) rfl ?_) ?_
  rotate_left; exact P_stop
  refine P_done ?_
  refine T_next ?_
  obtain ⟨j4, hj4, hx5⟩ := jn_some hx5
  refine T_cutP (τ := List Int) (γ := (Option Addr) × Nat) (J := j4) (out := r) (fun s4 y4 => [(1, .int .i64 (p1)), (2, .pointer (some ⟨g1, 0, none⟩)), (5, .slice (y4.1) ((s4).length) (y4.2)), (6, .int .i64 (Int.tmod p1 p0.NX)), (7, .int .i64 (w64 (Int.tdiv p1 p0.NX)))]) (fun s4 y4 => [.r (y4.1) ((s4).length) (y4.2) 3 1 ((s4).flatMap e_i64), .m g1 23 [.int .i64 (p0.X0), .int .i64 (p0.Y0), .int .i64 (p0.Step), .int .i64 (p0.NX), .int .i64 (p0.NY)]] ++ [.old w]) (fun s4 y4 => True) ?_ ?_
  · intro s4 y4 hx14 hG15
    subst hj4
    obtain ⟨j6, hj6, hx14⟩ := jn_some hx14
    refine T_cutP (τ := List Int) (γ := (Option Addr) × Nat) (J := j6) (out := r) (fun s6 y6 => [(1, .int .i64 (p1)), (2, .pointer (some ⟨g1, 0, none⟩)), (5, .slice (y6.1) ((s6).length) (y6.2)), (6, .int .i64 (Int.tmod p1 p0.NX)), (7, .int .i64 (w64 (Int.tdiv p1 p0.NX)))]) (fun s6 y6 => [.r (y6.1) ((s6).length) (y6.2) 3 1 ((s6).flatMap e_i64), .m g1 23 [.int .i64 (p0.X0), .int .i64 (p0.Y0), .int .i64 (p0.Step), .int .i64 (p0.NX), .int .i64 (p0.NY)]] ++ [.old w]) (fun s6 y6 => True) ?_ ?_
    · intro s6 y6 hx24 hG25
      subst hj6
      obtain ⟨j8, hj8, hx24⟩ := jn_some hx24
      refine T_cutP (τ := List Int) (γ := (Option Addr) × Nat) (J := j8) (out := r) (fun s8 y8 => [(1, .int .i64 (p1)), (2, .pointer (some ⟨g1, 0, none⟩)), (5, .slice (y8.1) ((s8).length) (y8.2)), (7, .int .i64 (w64 (Int.tdiv p1 p0.NX)))]) (fun s8 y8 => [.r (y8.1) ((s8).length) (y8.2) 3 1 ((s8).flatMap e_i64), .m g1 23 [.int .i64 (p0.X0), .int .i64 (p0.Y0), .int .i64 (p0.Step), .int .i64 (p0.NX), .int .i64 (p0.NY)]] ++ [.old w]) (fun s8 y8 => True) ?_ ?_
      · intro s8 y8 hx34 hG35
        subst hj8
        obtain ⟨j10, hj10, hx34⟩ := jn_some hx34
        refine T_cutP (τ := List Int) (γ := (Option Addr) × Nat) (J := j10) (out := r) (fun s10 y10 => [(5, .slice (y10.1) ((s10).length) (y10.2))]) (fun s10 y10 => [.r (y10.1) ((s10).length) (y10.2) 3 1 ((s10).flatMap e_i64)] ++ [.old w]) (fun s10 y10 => True) ?_ ?_
        · intro s10 y10 hx44 hG45
          subst hj10
          refine T_seq ?_
          refine T_reg ?_
          refine T_val (Ev_move rfl) rfl ?_
          refine T_val (Ev_assign rfl) rfl ?_
          refine T_nil ?_
          refine T_next ?_
          refine T_retc ?_
          obtain rfl := Option.some.inj hx44
          exact T_retP (rs := [.tmp 4]) Try.results34 (.tmp rfl (.nil)) (Ln := [.r (y10.1) ((s10).length) (y10.2) 3 1 ((s10).flatMap e_i64)]) ⟨y10.1, y10.2, rfl, rfl, trivial⟩ (loCons rfl (loNil)) (by exact .pick 0 rfl (.refl))
        · skip
          refine T_seq ?_
          refine T_reg ?_
          refine T_val (Ev_move rfl) rfl ?_
          refine T_val (Ev_add_w64 rfl rfl) rfl ?_
          refine T_val (Ev_field rfl fld23_4 rfl) rfl ?_
          refine T_val (Ev_load1 rfl (i := 1) rfl rfl one3) rfl ?_
          refine T_val (Ev_lss rfl rfl) rfl ?_
          refine T_nil ?_
          refine T_next ?_
          refine T_caseP (s := 46) rfl (fun h36 => ?_) (fun h36 => ?_)
          · have hx37 := ite_t h36 hx34
            refine T_condT rfl ?_
            refine T_reg ?_
            refine T_val (Ev_move rfl) rfl ?_
            refine T_val (Ev_move rfl) rfl ?_
            refine T_val (Ev_field rfl fld23_3 rfl) rfl ?_
            refine T_val (Ev_load1 rfl (i := 1) rfl rfl one3) rfl ?_
            refine T_val (Ev_add_w64 rfl rfl) rfl ?_
            refine T_x (Wx_buildSlice rfl (bls34_1_0i64 _) rfl (fun g38 => ?_))
            obtain ⟨h39, hx40⟩ := gd_some hx37
            refine T_h (Wh_appendP e_i64 (s8) [w64 (p1 + p0.NX)] rfl rfl rfl elm34 (fun _ => rfl) (i' := 0) rfl rfl rfl rfl h39 rfl (fun _ _ => .there (.here)) (fun _ _ => .drop .refl) (by decide) (fun A41 c42 => ?_))
            refine T_val (Ev_assign rfl) rfl ?_
            refine T_nil ?_
            exact T_metP (s8 ++ [w64 (p1 + p0.NX)]) (A41, c42) hx40 trivial (by exact .cons rfl (.nil)) (by exact .pick 0 rfl (.drop 0 rfl (.refl)))
          · have hx43 := ite_f h36 hx34
            refine T_condF rfl ?_
            refine T_skip ?_
            exact T_metP s8 (y8.1, y8.2) hx43 trivial (by exact .cons rfl (.nil)) (by exact .pick 0 rfl (.drop 0 rfl (.refl)))
      · skip
        refine T_seq ?_
        refine T_reg ?_
        refine T_val (Ev_move rfl) rfl ?_
        refine T_val (Ev_add_w64 rfl rfl) rfl ?_
        refine T_val (Ev_field rfl fld23_3 rfl) rfl ?_
        refine T_val (Ev_load1 rfl (i := 1) rfl rfl one3) rfl ?_
        refine T_val (Ev_lss rfl rfl) rfl ?_
        refine T_nil ?_
        refine T_next ?_
        refine T_caseP (s := 36) rfl (fun h26 => ?_) (fun h26 => ?_)
        · have hx27 := ite_t h26 hx24
          refine T_condT rfl ?_
          refine T_reg ?_
          refine T_val (Ev_move rfl) rfl ?_
          refine T_val (Ev_move rfl) rfl ?_
          refine T_val (Ev_add_w64 rfl rfl) rfl ?_
          refine T_x (Wx_buildSlice rfl (bls34_1_0i64 _) rfl (fun g28 => ?_))
          obtain ⟨h29, hx30⟩ := gd_some hx27
          refine T_h (Wh_appendP e_i64 (s6) [w64 (p1 + 1)] rfl rfl rfl elm34 (fun _ => rfl) (i' := 0) rfl rfl rfl rfl h29 rfl (fun _ _ => .there (.here)) (fun _ _ => .drop .refl) (by decide) (fun A31 c32 => ?_))
          refine T_val (Ev_assign rfl) rfl ?_
          refine T_nil ?_
          exact T_metP (s6 ++ [w64 (p1 + 1)]) (A31, c32) hx30 trivial (by exact .cons rfl (.cons rfl (.cons rfl (.cons rfl (.nil))))) (by exact .pick 0 rfl (.pick 0 rfl (.refl)))
        · have hx33 := ite_f h26 hx24
          refine T_condF rfl ?_
          refine T_skip ?_
          exact T_metP s6 (y6.1, y6.2) hx33 trivial (by exact .cons rfl (.cons rfl (.cons rfl (.cons rfl (.nil))))) (by exact .pick 0 rfl (.pick 0 rfl (.refl)))
    · skip
      refine T_seq ?_
      refine T_reg ?_
      refine T_val (Ev_move rfl) rfl ?_
      refine T_val (Ev_gtr rfl rfl) rfl ?_
      refine T_nil ?_
      refine T_next ?_
      refine T_caseP (s := 26) rfl (fun h16 => ?_) (fun h16 => ?_)
      · have hx17 := ite_t h16 hx14
        refine T_condT rfl ?_
        refine T_reg ?_
        refine T_val (Ev_move rfl) rfl ?_
        refine T_val (Ev_move rfl) rfl ?_
        refine T_val (Ev_sub_w64 rfl rfl) rfl ?_
        refine T_x (Wx_buildSlice rfl (bls34_1_0i64 _) rfl (fun g18 => ?_))
        obtain ⟨h19, hx20⟩ := gd_some hx17
        refine T_h (Wh_appendP e_i64 (s4) [w64 (p1 - 1)] rfl rfl rfl elm34 (fun _ => rfl) (i' := 0) rfl rfl rfl rfl h19 rfl (fun _ _ => .there (.here)) (fun _ _ => .drop .refl) (by decide) (fun A21 c22 => ?_))
        refine T_val (Ev_assign rfl) rfl ?_
        refine T_nil ?_
        exact T_metP (s4 ++ [w64 (p1 - 1)]) (A21, c22) hx20 trivial (by exact .cons rfl (.cons rfl (.cons rfl (.cons rfl (.cons rfl (.nil)))))) (by exact .pick 0 rfl (.pick 0 rfl (.refl)))
      · have hx23 := ite_f h16 hx14
        refine T_condF rfl ?_
        refine T_skip ?_
        exact T_metP s4 (y4.1, y4.2) hx23 trivial (by exact .cons rfl (.cons rfl (.cons rfl (.cons rfl (.cons rfl (.nil)))))) (by exact .pick 0 rfl (.pick 0 rfl (.refl)))
  · skip
    refine T_seq ?_
    refine T_reg ?_
    refine T_val (Ev_move rfl) rfl ?_
    refine T_val (Ev_gtr rfl rfl) rfl ?_
    refine T_nil ?_
    refine T_next ?_
    refine T_caseP (s := 17) rfl (fun h6 => ?_) (fun h6 => ?_)
    · have hx7 := ite_t h6 hx5
      refine T_condT rfl ?_
      refine T_reg ?_
      refine T_val (Ev_move rfl) rfl ?_
      refine T_val (Ev_move rfl) rfl ?_
      refine T_val (Ev_field rfl fld23_3 rfl) rfl ?_
      refine T_val (Ev_load1 rfl (i := 0) rfl rfl one3) rfl ?_
      refine T_val (Ev_sub_w64 rfl rfl) rfl ?_
      refine T_x (Wx_buildSlice rfl (bls34_1_0i64 _) rfl (fun g8 => ?_))
      refine T_none 3 1 ?_
      obtain ⟨h9, hx10⟩ := gd_some hx7
      refine T_h (Wh_appendP e_i64 (([] : List Int)) [w64 (p1 - p0.NX)] rfl rfl rfl elm34 (fun _ => rfl) (i' := 1) rfl rfl rfl rfl h9 rfl (fun _ _ => .here) (fun _ _ => .keep (.drop .refl)) (by decide) (fun A11 c12 => ?_))
      refine T_val (Ev_assign rfl) rfl ?_
      refine T_nil ?_
      exact T_metP ((([] : List Int)) ++ [w64 (p1 - p0.NX)]) (A11, c12) hx10 trivial (by exact .cons rfl (.cons rfl (.cons rfl (.cons rfl (.cons rfl (.nil)))))) (by exact .pick 0 rfl (.pick 0 rfl (.refl)))
    · have hx13 := ite_f h6 hx5
      refine T_condF rfl ?_
      refine T_skip ?_
      refine T_none 3 1 ?_
      have hn46 : 0 = (([] : List Int)).length := by simp [setI_len, cpy_len, List.length_append] <;> omega
      refine T_ent (.here) (e' := .r (none) ((([] : List Int)).length) (0) 3 1 ((([] : List Int)).flatMap e_i64)) (by first | (rw [← hn46]; done) | rfl) ?_
      exact T_metP ([] : List Int) (none, 0) hx13 trivial (by exact .cons rfl (.cons rfl (.cons rfl (.cons rfl (.cons rfl (.nil)))))) (by exact .pick 0 rfl (.pick 0 rfl (.refl)))
set_option maxRecDepth 100000 in
theorem model_groups_ok (p0 : S_api_Raster) (p1 : List Int) {K : List Ent} {A0_0 : Option Addr} {c0_0 : Nat} (ha0 : Has K A0_0 (p1).length c0_0 1 e_i64 (p1)) {r : List (List Int)} (hx : model_groups p0 p1 = some r) (w : World) (hK : ∀ e ∈ K, Ent.ok w e) : CtL Try.prog 19 [.agg #[.int .i64 (p0.X0), .int .i64 (p0.Y0), .int .i64 (p0.Step), .int .i64 (p0.NX), .int .i64 (p0.NY)], .slice (A0_0) ((p1).length) (c0_0)] w fun v Ln => ∃ (A0 : Option Addr) (c0 : Nat) (e0 : Ent) (e1 : Ent), v = .slice (A0) ((r).length) (c0) ∧ Ln = [e0, e1] ∧ HasN (K ++ [e0, e1]) A0 (r).length c0 1 n_List_Int (r) ∧ True := by
  have ha0' := Has.up0 ha0
  refine CtL.mk 92 Try.func19 rfl Try.ntmps19 (by kernel_rfl) rfl ?_
  show T 92 _ [(0, .agg #[.int .i64 (p0.X0), .int .i64 (p0.Y0), .int .i64 (p0.Step), .int .i64 (p0.NX), .int .i64 (p0.NY)]), (1, .slice (A0_0) ((p1).length) (c0_0))] _
  unfold model_groups at hx
  refine T_seq ?_
  refine T_reg ?_
  refine T_x (Wx_box rfl rfl rfl (fun g1 => ?_))
  refine T_val (Ev_assign rfl) rfl ?_
  refine T_nil ?_
  refine T_next ?_
  refine T_seq ?_
  refine T_reg ?_
  refine T_val (Ev_move rfl) rfl ?_
  refine T_val (Ev_len rfl 3 Try.underlying34) rfl ?_
  obtain ⟨h3, hx4⟩ := gd_some hx
  refine T_x (Wx_makeP e_bool (false) (z := .bool (false)) rfl rfl rfl h3.1 Try.underlying86 (show Try.prog.info? 4 = some Try.t4 from by kernel_rfl) (by kernel_rfl) rfl rfl (by kernel_rfl) (show 1 * _ ≤ _ from h3.2) (by decide) rfl (fun A2 => ?_))
  refine T_val (Ev_assign rfl) rfl ?_
  refine T_nil ?_
  refine T_next ?_
  refine T_seq ?_
  refine T_reg ?_
  refine T_val (Ev_assign rfl) rfl ?_
  refine T_nil ?_
  refine T_next ?_
  obtain ⟨j4, hj4, hx4⟩ := jn_some hx4
  refine T_cutP (τ := List (List Int)) (γ := (List (Vec 1)) × (Option Addr) × Nat × Ent) (J := j4) (out := r) (fun s4 y4 => [(6, .slice (y4.2.1) ((s4).length) (y4.2.2.1))]) (fun s4 y4 => [y4.2.2.2, .r (y4.2.1) ((s4).length) (y4.2.2.1) 34 1 ((y4.1).flatMap cellsV)] ++ [.old w]) (fun s4 y4 => y4.2.2.2.low = 0 ∧ RowN ([y4.2.2.2] : List Ent) n_List_Int (y4.1) (s4) ∧ True) ?_ ?_
  · intro s4 y4 hx813 hG814
    obtain ⟨lo815, hr816, -⟩ := hG814
    subst hj4
    refine T_seq ?_
    refine T_reg ?_
    refine T_val (Ev_move rfl) rfl ?_
    refine T_val (Ev_assign rfl) rfl ?_
    refine T_nil ?_
    refine T_next ?_
    refine T_retc ?_
    refine T_rowP (k := 1) rfl (by decide) (fun x => x.2) (fun hn817 hs818 => ?_)
    have hs819 : HasN ([.r (y4.2.1) ((s4).length) (y4.2.2.1) 34 1 ((y4.1).flatMap cellsV), y4.2.2.2] : List Ent) _ _ _ _ _ _ := HasN.ofRowN (Has.up (L := ([.r (y4.2.1) ((s4).length) (y4.2.2.1) 34 1 ((y4.1).flatMap cellsV), y4.2.2.2] : List Ent)) hs818 (SubE.cons2 (i := 0) rfl (SubE.nil))) (RowN.up (R := n_List_Int) (L := ([.r (y4.2.1) ((s4).length) (y4.2.2.1) 34 1 ((y4.1).flatMap cellsV), y4.2.2.2] : List Ent)) n_List_Int_mono hr816 (SubE.cons2 (i := 1) rfl (SubE.nil)))
    obtain rfl := Option.some.inj hx813
    exact T_retP (rs := [.tmp 4]) Try.results19 (.tmp rfl (.nil)) (Ln := [.r (y4.2.1) ((s4).length) (y4.2.2.1) 34 1 ((y4.1).flatMap cellsV), y4.2.2.2]) ⟨y4.2.1, y4.2.2.1, (.r (y4.2.1) ((s4).length) (y4.2.2.1) 34 1 ((y4.1).flatMap cellsV)), y4.2.2.2, rfl, rfl, HasN.len' (HasN.up (L := (K ++ [.r (y4.2.1) ((s4).length) (y4.2.2.1) 34 1 ((y4.1).flatMap cellsV), y4.2.2.2])) n_List_Int_mono hs819 (SubE.appR2 (SubE.cons2 (i := 0) rfl (SubE.cons2 (i := 1) rfl (SubE.nil))))), trivial⟩ (loCons rfl (loCons lo815 (loNil))) (by exact .pick 1 rfl (.pick 0 rfl (.refl)))
  · skip
    refine T_seq ?_
    refine T_reg ?_
    refine T_val (Ev_move rfl) rfl ?_
    refine T_val (Ev_len rfl 3 Try.underlying34) rfl ?_
    refine T_val (Ev_move rfl) rfl ?_
    refine T_nil ?_
    refine T_next ?_
    refine T_block ?_
    obtain ⟨t409, hl409, ho409⟩ := bnd_some hx4
    refine T_none 0 1 ?_
    refine T_none 34 1 ?_
    refine T_loopP (σ := (List Bool) × (List (List Int)) × Int) (γ := (Option Addr) × Nat × (List (Vec 1)) × (Option Addr) × Nat × Ent) hl409 (fun s409 y409 => [(1, .slice (A0_0) ((p1).length) (c0_0)), (2, .pointer (some ⟨g1, 0, none⟩)), (5, .slice (y409.1) ((s409.1).length) (y409.2.1)), (6, .slice (y409.2.2.2.1) ((s409.2.1).length) (y409.2.2.2.2.1)), (17, .slice (A0_0) ((p1).length) (c0_0)), (18, .int .i64 ((((p1).length : Nat) : Int))), (19, .int .i64 (s409.2.2))]) (fun s409 y409 => [y409.2.2.2.2.2, .r (y409.2.2.2.1) ((s409.2.1).length) (y409.2.2.2.2.1) 34 1 ((y409.2.2.1).flatMap cellsV), .r (y409.1) ((s409.1).length) (y409.2.1) 4 1 ((s409.1).flatMap e_bool), .m g1 23 [.int .i64 (p0.X0), .int .i64 (p0.Y0), .int .i64 (p0.Step), .int .i64 (p0.NX), .int .i64 (p0.NY)]] ++ [.old w]) (fun s409 y409 => y409.2.2.2.2.2.low = 0 ∧ RowN ([y409.2.2.2.2.2] : List Ent) n_List_Int (y409.2.2.1) (s409.2.1) ∧ True) (A2, (List.replicate (Int.toNat ((((p1).length : Nat) : Int))) (false : Bool)).length, ([] : List (Vec 1)), none, 0, .r none 0 0 0 1 []) ((by exact ⟨rfl, RowN.nil, trivial⟩)) (by exact .cons rfl (.cons rfl (.cons rfl (.cons rfl (.cons rfl (.cons rfl (.cons rfl (.nil)))))))) (by exact .pick 1 rfl (.pick 0 rfl (.pick 0 rfl (.pick 0 rfl (.refl))))) ?_
    intro s409 y409 hG409 x409 hx409 ht409
    unfold model_groups_l4 at hx409
    obtain ⟨lo410, hr411, -⟩ := hG409
    refine T_seq ?_
    refine T_reg ?_
    refine T_val (Ev_lss rfl rfl) rfl ?_
    refine T_nil ?_
    refine T_next ?_
    refine T_seq ?_
    refine T_caseP (s := 20) rfl (fun h412 => ?_) (fun h412 => ?_)
    · have hx413 := ite_t h412 hx409
      refine T_condT rfl ?_
      refine T_skip ?_
      refine T_next ?_
      obtain ⟨j55, hj55, hx413⟩ := jn_some hx413
      refine T_cutP (τ := (List Bool) × (List (List Int))) (γ := (Option Addr) × Nat × (List (Vec 1)) × (Option Addr) × Nat × Ent) (J := j55) (out := x409) (fun s55 y55 => [(1, .slice (A0_0) ((p1).length) (c0_0)), (2, .pointer (some ⟨g1, 0, none⟩)), (5, .slice (y55.1) ((s55.1).length) (y55.2.1)), (6, .slice (y55.2.2.2.1) ((s55.2).length) (y55.2.2.2.2.1)), (17, .slice (A0_0) ((p1).length) (c0_0)), (18, .int .i64 ((((p1).length : Nat) : Int))), (19, .int .i64 (s409.2.2))]) (fun s55 y55 => [y55.2.2.2.2.2, y409.2.2.2.2.2, .r (y55.2.2.2.1) ((s55.2).length) (y55.2.2.2.2.1) 34 1 ((y55.2.2.1).flatMap cellsV), .r (y55.1) ((s55.1).length) (y55.2.1) 4 1 ((s55.1).flatMap e_bool), .m g1 23 [.int .i64 (p0.X0), .int .i64 (p0.Y0), .int .i64 (p0.Step), .int .i64 (p0.NX), .int .i64 (p0.NY)]] ++ [.old w]) (fun s55 y55 => y55.2.2.2.2.2.low = 0 ∧ RowN ([y409.2.2.2.2.2, y55.2.2.2.2.2] : List Ent) n_List_Int (y55.2.2.1) (s55.2) ∧ True) ?_ ?_
      · intro s55 y55 hx807 hG808
        obtain ⟨lo809, hr810, -⟩ := hG808
        subst hj55
        refine T_reg ?_
        refine T_val (Ev_add_w64 rfl rfl) rfl ?_
        refine T_val (Ev_move rfl) rfl ?_
        refine T_nil ?_
        refine T_bundle (es := [y409.2.2.2.2.2, y55.2.2.2.2.2]) (by exact .pick 1 rfl (.pick 0 rfl (.refl))) (loCons lo410 (loCons lo809 (loNil))) ?_
        exact T_roundP (s55.1, s55.2, w64 (s409.2.2 + 1)) (y55.1, y55.2.1, y55.2.2.1, y55.2.2.2.1, y55.2.2.2.2.1, bun [y409.2.2.2.2.2, y55.2.2.2.2.2]) hx807 ((by exact ⟨rfl, (RowN.up (R := n_List_Int) (L := ([(bun [y409.2.2.2.2.2, y55.2.2.2.2.2])] : List Ent)) n_List_Int_mono hr810 (SubE.consB (i := 0) (j := 0) rfl rfl (SubE.consB (i := 0) (j := 1) rfl rfl (SubE.nil)))), trivial⟩)) (by exact .cons rfl (.cons rfl (.cons rfl (.cons rfl (.cons rfl (.cons rfl (.cons rfl (.nil)))))))) (by exact .pick 0 rfl (.pick 0 rfl (.pick 0 rfl (.pick 0 rfl (.refl)))))
      · skip
        refine T_block ?_
        refine T_seq ?_
        refine T_reg ?_
        refine T_val (Ev_move rfl) rfl ?_
        obtain ⟨x415, h416, hx417⟩ := bnd_some hx413
        have hw425 := Has.low (E := []) ha0' hK
        obtain ⟨b418, o419, j420, hA421, hj422, hl423, hp424⟩ := Has.at_idx hw425 h416
        refine T_val (Ev_index rfl rfl hA421 (j := j420) hj422 hl423 slc34) rfl ?_
        refine T_val (Ev_loadP0 rfl hp424 (SubE.cons2 (i := 4) rfl (SubE.nil)) rfl one3) rfl ?_
        refine T_val (Ev_assign rfl) rfl ?_
        refine T_val (Ev_assign rfl) rfl ?_
        refine T_nil ?_
        refine T_next ?_
        refine T_seq ?_
        obtain ⟨j58, hj58, hx417⟩ := jn_some hx417
        refine T_cutP (τ := Bool) (γ := Unit) (J := j58) (out := x409) (fun s58 y58 => [(1, .slice (A0_0) ((p1).length) (c0_0)), (2, .pointer (some ⟨g1, 0, none⟩)), (5, .slice (y409.1) ((s409.1).length) (y409.2.1)), (6, .slice (y409.2.2.2.1) ((s409.2.1).length) (y409.2.2.2.2.1)), (7, .int .i64 (s409.2.2)), (8, .int .i64 (x415)), (17, .slice (A0_0) ((p1).length) (c0_0)), (18, .int .i64 ((((p1).length : Nat) : Int))), (19, .int .i64 (s409.2.2)), (31, .bool (s58))]) (fun s58 y58 => [y409.2.2.2.2.2, .r (y409.2.2.2.1) ((s409.2.1).length) (y409.2.2.2.2.1) 34 1 ((y409.2.2.1).flatMap cellsV), .r (y409.1) ((s409.1).length) (y409.2.1) 4 1 ((s409.1).flatMap e_bool), .m g1 23 [.int .i64 (p0.X0), .int .i64 (p0.Y0), .int .i64 (p0.Step), .int .i64 (p0.NX), .int .i64 (p0.NY)]] ++ [.old w]) (fun s58 y58 => True) ?_ ?_
        · intro s58 y58 hx440 hG441
          subst hj58
          refine T_caseB (s := 31) rfl (fun h442 => ?_) (fun h442 => ?_)
          · have hx443 := ite_t h442 hx440
            refine T_condT rfl ?_
            refine T_exit ?_
            refine T_outX ?_
            refine T_here ?_
            refine T_none 0 1 ?_
            exact T_metP (s409.1, s409.2.1) (y409.1, y409.2.1, y409.2.2.1, y409.2.2.2.1, y409.2.2.2.2.1, .r none 0 0 0 1 []) hx443 ((by exact ⟨rfl, (RowN.up (R := n_List_Int) (L := ([y409.2.2.2.2.2, .r none 0 0 0 1 []] : List Ent)) n_List_Int_mono hr411 (SubE.cons2 (i := 0) rfl (SubE.nil))), trivial⟩)) (by exact .cons rfl (.cons rfl (.cons rfl (.cons rfl (.cons rfl (.cons rfl (.cons rfl (.nil)))))))) (by exact .pick 0 rfl (.pick 0 rfl (.pick 0 rfl (.pick 0 rfl (.pick 0 rfl (.refl))))))
          · have hx444 := ite_bf h442 hx440
            refine T_condF rfl ?_
            refine T_skip ?_
            refine T_next ?_
            refine T_seq ?_
            refine T_reg ?_
            refine T_val (Ev_move rfl) rfl ?_
            refine T_val (Ev_move rfl) rfl ?_
            obtain ⟨x445, h446, hx447⟩ := bnd_some hx444
            refine T_idxR (k := 2) rfl (by decide) (fun _ => rfl) h446 (fun b448 j450 hA451 hj452 hl453 hm455 hp454 => ?_)
            refine T_val (Ev_index rfl rfl hA451 (j := j450) hj452 hl453 slc86) rfl ?_
            refine T_h (Wh_storeP e_bool (s409.1) (s409.2.2) (true) rfl rfl rfl (.there (.there (.here))) hA451 rfl hj452 hl453 (fun _ => rfl) (by decide) rfl one4.2 ?_)
            refine T_nil ?_
            refine T_next ?_
            refine T_seq ?_
            refine T_reg ?_
            refine T_val (Ev_move rfl) rfl ?_
            refine T_x (Wx_buildSlice rfl (bls34_1_0i64 _) rfl (fun g456 => ?_))
            refine T_val (Ev_assign rfl) rfl ?_
            refine T_nil ?_
            refine T_next ?_
            refine T_seq ?_
            refine T_reg ?_
            refine T_val (Ev_assign rfl) rfl ?_
            refine T_nil ?_
            refine T_next ?_
            obtain ⟨j62, hj62, hx447⟩ := jn_some hx447
            refine T_cutP (τ := (List Bool) × (List Int)) (γ := (Option Addr) × Nat × (Option Addr) × Nat) (J := j62) (out := x409) (fun s62 y62 => [(1, .slice (A0_0) ((p1).length) (c0_0)), (2, .pointer (some ⟨g1, 0, none⟩)), (5, .slice (y62.1) ((s62.1).length) (y62.2.1)), (6, .slice (y409.2.2.2.1) ((s409.2.1).length) (y409.2.2.2.2.1)), (10, .slice (y62.2.2.1) ((s62.2).length) (y62.2.2.2)), (17, .slice (A0_0) ((p1).length) (c0_0)), (18, .int .i64 ((((p1).length : Nat) : Int))), (19, .int .i64 (s409.2.2))]) (fun s62 y62 => [.r (y62.2.2.1) ((s62.2).length) (y62.2.2.2) 3 1 ((s62.2).flatMap e_i64), y409.2.2.2.2.2, .r (y409.2.2.2.1) ((s409.2.1).length) (y409.2.2.2.2.1) 34 1 ((y409.2.2.1).flatMap cellsV), .r (y62.1) ((s62.1).length) (y62.2.1) 4 1 ((s62.1).flatMap e_bool), .m g1 23 [.int .i64 (p0.X0), .int .i64 (p0.Y0), .int .i64 (p0.Step), .int .i64 (p0.NX), .int .i64 (p0.NY)]] ++ [.old w]) (fun s62 y62 => True) ?_ ?_
            · intro s62 y62 hx795 hG796
              subst hj62
              refine T_seq ?_
              refine T_reg ?_
              refine T_val (Ev_move rfl) rfl ?_
              obtain ⟨h797, hx798⟩ := gd_some hx795
              refine T_h (Wh_sort (s62.2) rfl h797 (.here) rfl ?_)
              refine T_nil ?_
              refine T_next ?_
              refine T_reg ?_
              refine T_val (Ev_move rfl) rfl ?_
              refine T_val (Ev_move rfl) rfl ?_
              refine T_x (Wx_buildSlice rfl (bls66_1_0s _ _ _) rfl (fun g799 => ?_))
              refine T_rowP (k := 1) rfl (by decide) (fun _ => rfl) (fun hn800 hs801 => ?_)
              have hr802 : RowN ([y409.2.2.2.2.2, .r (y62.2.2.1) ((s62.2).length) (y62.2.2.2) 3 1 ((sortI s62.2).flatMap e_i64)] : List Ent) n_List_Int (y409.2.2.1 ++ [(⟨[.slice (y62.2.2.1) ((s62.2).length) (y62.2.2.2)], rfl⟩ : Vec 1)]) (s409.2.1 ++ [sortI s62.2]) := RowN.snoc (RowN.up (R := n_List_Int) (L := ([y409.2.2.2.2.2, .r (y62.2.2.1) ((s62.2).length) (y62.2.2.2) 3 1 ((sortI s62.2).flatMap e_i64)] : List Ent)) n_List_Int_mono hr411 (SubE.cons2 (i := 0) rfl (SubE.nil))) ⟨y62.2.2.1, y62.2.2.2, by first | rfl | (rw [show ((s62.2).length) = (sortI s62.2).length from (Has.len hs801).symm]; done) | (rw [show ((s62.2).length) = (sortI s62.2).length from (Has.len hs801).symm]; rfl), Has.len' (Has.up (L := ([y409.2.2.2.2.2, .r (y62.2.2.1) ((s62.2).length) (y62.2.2.2) 3 1 ((sortI s62.2).flatMap e_i64)] : List Ent)) hs801 (SubE.cons2 (i := 1) rfl (SubE.nil)))⟩
              obtain ⟨h803, hx804⟩ := gd_some hx798
              refine T_h (Wh_appendP cellsV (y409.2.2.1) [(⟨[.slice (y62.2.2.1) ((s62.2).length) (y62.2.2.2)], rfl⟩ : Vec 1)] rfl rfl rfl elm66 (fun x => x.2) (i' := 0) rfl rfl rfl rfl (by have := RowN.len (hr411); have := h803; simp only [List.length_singleton, List.length_nil] at *; omega) rfl (fun _ _ => .there (.there (.there (.here)))) (fun _ _ => .drop .refl) (by decide) (fun A805 c806 => ?_))
              refine T_val (Ev_assign rfl) rfl ?_
              refine T_nil ?_
              refine T_inN ?_
              have hn811 : (y409.2.2.1 ++ [(⟨[.slice (y62.2.2.1) ((s62.2).length) (y62.2.2.2)], rfl⟩ : Vec 1)]).length = (s409.2.1 ++ [sortI s62.2]).length := RowN.len hr802
              refine T_ent (.there (.there (.here))) (e' := .r (A805) ((s409.2.1 ++ [sortI s62.2]).length) (c806) 34 1 ((y409.2.2.1 ++ [(⟨[.slice (y62.2.2.1) ((s62.2).length) (y62.2.2.2)], rfl⟩ : Vec 1)]).flatMap cellsV)) (by first | (rw [← hn811]; done) | rfl) ?_
              refine T_slot (s := 6) (v' := .slice (A805) ((s409.2.1 ++ [sortI s62.2]).length) (c806)) rfl (by have hn812 : ((y409.2.2.1 ++ [(⟨[.slice (y62.2.2.1) ((s62.2).length) (y62.2.2.2)], rfl⟩ : Vec 1)]).length) = (s409.2.1 ++ [sortI s62.2]).length := (RowN.len hr802); first | (rw [← hn812]; done) | rfl) ?_
              exact T_metP (s62.1, s409.2.1 ++ [sortI s62.2]) (y62.1, y62.2.1, y409.2.2.1 ++ [(⟨[.slice (y62.2.2.1) ((s62.2).length) (y62.2.2.2)], rfl⟩ : Vec 1)], A805, c806, .r (y62.2.2.1) ((s62.2).length) (y62.2.2.2) 3 1 ((sortI s62.2).flatMap e_i64)) hx804 ((by exact ⟨rfl, (RowN.up (R := n_List_Int) (L := ([y409.2.2.2.2.2, .r (y62.2.2.1) ((s62.2).length) (y62.2.2.2) 3 1 ((sortI s62.2).flatMap e_i64)] : List Ent)) n_List_Int_mono hr802 (SubE.cons2 (i := 0) rfl (SubE.cons2 (i := 1) rfl (SubE.nil)))), trivial⟩)) (by exact .cons rfl (.cons rfl (.cons rfl (.cons rfl (.cons rfl (.cons rfl (.cons rfl (.nil)))))))) (by exact .pick 0 rfl (.pick 0 rfl (.pick 0 rfl (.pick 0 rfl (.pick 0 rfl (.refl))))))
            · skip
              refine T_block ?_
              refine T_mr (enc := e_i64) (sz := 1) ([s409.2.2]) (.here) rfl rfl (fun _ => rfl) (by show 1 ≤ maxLen; decide) ?_
              obtain ⟨t626, hl626, ho626⟩ := bnd_some hx447
              refine T_none 3 1 ?_
              have hn627 : 0 = (([] : List Int)).length := by simp [setI_len, cpy_len, List.length_append] <;> omega
              refine T_ent (.here) (e' := .r (none) ((([] : List Int)).length) (0) 3 1 ((([] : List Int)).flatMap e_i64)) (by first | (rw [← hn627]; done) | rfl) ?_
              have hn628 : 1 = ([s409.2.2]).length := by simp [setI_len, cpy_len, List.length_append] <;> omega
              refine T_ent (.there (.here)) (e' := .r (some ⟨g456, 0, none⟩) (([s409.2.2]).length) (1) 3 1 (([s409.2.2]).flatMap e_i64)) (by first | (rw [← hn628]; done) | rfl) ?_
              have hn629 : (s409.1).length = (setI s409.1 s409.2.2 true).length := by simp [setI_len, cpy_len, List.length_append] <;> omega
              refine T_ent (.there (.there (.there (.there (.here))))) (e' := .r (y409.1) ((setI s409.1 s409.2.2 true).length) (y409.2.1) 4 1 ((setI s409.1 s409.2.2 true).flatMap e_bool)) (by first | (rw [← hn629]; done) | rfl) ?_
              refine T_slot (s := 5) (v' := .slice (y409.1) ((setI s409.1 s409.2.2 true).length) (y409.2.1)) rfl (by have hn630 : ((s409.1).length) = (setI s409.1 s409.2.2 true).length := (by simp [setI_len, cpy_len, List.length_append] <;> omega); first | (rw [← hn630]; done) | rfl) ?_
              refine T_slot (s := 9) (v' := .slice (some ⟨g456, 0, none⟩) (([s409.2.2]).length) (1)) rfl (by have hn631 : (1) = ([s409.2.2]).length := (by simp [setI_len, cpy_len, List.length_append] <;> omega); first | (rw [← hn631]; done) | rfl) ?_
              refine T_loopP (σ := (List Bool) × (List Int) × (List Int)) (γ := (Option Addr) × Nat × (Option Addr) × Nat × (Option Addr) × Nat) hl626 (fun s626 y626 => [(1, .slice (A0_0) ((p1).length) (c0_0)), (2, .pointer (some ⟨g1, 0, none⟩)), (5, .slice (y626.1) ((s626.1).length) (y626.2.1)), (6, .slice (y409.2.2.2.1) ((s409.2.1).length) (y409.2.2.2.2.1)), (8, .int .i64 (x415)), (9, .slice (y626.2.2.1) ((s626.2.1).length) (y626.2.2.2.1)), (10, .slice (y626.2.2.2.2.1) ((s626.2.2).length) (y626.2.2.2.2.2)), (17, .slice (A0_0) ((p1).length) (c0_0)), (18, .int .i64 ((((p1).length : Nat) : Int))), (19, .int .i64 (s409.2.2))]) (fun s626 y626 => [.r (y626.2.2.2.2.1) ((s626.2.2).length) (y626.2.2.2.2.2) 3 1 ((s626.2.2).flatMap e_i64), .r (y626.2.2.1) ((s626.2.1).length) (y626.2.2.2.1) 3 1 ((s626.2.1).flatMap e_i64), y409.2.2.2.2.2, .r (y409.2.2.2.1) ((s409.2.1).length) (y409.2.2.2.2.1) 34 1 ((y409.2.2.1).flatMap cellsV), .r (y626.1) ((s626.1).length) (y626.2.1) 4 1 ((s626.1).flatMap e_bool), .m g1 23 [.int .i64 (p0.X0), .int .i64 (p0.Y0), .int .i64 (p0.Step), .int .i64 (p0.NX), .int .i64 (p0.NY)]] ++ [.old w]) (fun s626 y626 => True) (y409.1, y409.2.1, some ⟨g456, 0, none⟩, 1, none, 0) trivial (by exact .cons rfl (.cons rfl (.cons rfl (.cons rfl (.cons rfl (.cons rfl (.cons rfl (.cons rfl (.cons rfl (.cons rfl (.nil))))))))))) (by exact .pick 0 rfl (.pick 0 rfl (.pick 0 rfl (.pick 0 rfl (.pick 0 rfl (.pick 0 rfl (.refl))))))) ?_
              intro s626 y626 hG626 x626 hx626 ht626
              unfold model_groups_l10 at hx626
              refine T_seq ?_
              refine T_seq ?_
              refine T_reg ?_
              refine T_val (Ev_move rfl) rfl ?_
              refine T_val (Ev_len rfl 3 Try.underlying34) rfl ?_
              refine T_val (Ev_gtr rfl rfl) rfl ?_
              refine T_nil ?_
              refine T_next ?_
              refine T_caseP (s := 39) rfl (fun h632 => ?_) (fun h632 => ?_)
              · have hx633 := ite_t h632 hx626
                refine T_condT rfl ?_
                refine T_skip ?_
                refine T_next ?_
                refine T_block ?_
                refine T_seq ?_
                refine T_reg ?_
                refine T_val (Ev_move rfl) rfl ?_
                refine T_val (Ev_move rfl) rfl ?_
                refine T_val (Ev_len rfl 3 Try.underlying34) rfl ?_
                refine T_val (Ev_sub_w64 rfl rfl) rfl ?_
                obtain ⟨x635, h636, hx637⟩ := bnd_some hx633
                refine T_idxR (k := 1) rfl (by decide) (fun _ => rfl) h636 (fun b638 j640 hA641 hj642 hl643 hm645 hp644 => ?_)
                refine T_val (Ev_index rfl rfl hA641 (j := j640) hj642 hl643 slc34) rfl ?_
                refine T_val (Ev_loadP0 rfl hp644 (SubE.cons2 (i := 1) rfl (SubE.nil)) rfl one3) rfl ?_
                refine T_val (Ev_assign rfl) rfl ?_
                refine T_nil ?_
                refine T_next ?_
                refine T_seq ?_
                refine T_reg ?_
                refine T_val (Ev_move rfl) rfl ?_
                refine T_val (Ev_move rfl) rfl ?_
                refine T_val (Ev_len rfl 3 Try.underlying34) rfl ?_
                refine T_val (Ev_sub_w64 rfl rfl) rfl ?_
                refine T_rowP (k := 1) rfl (by decide) (fun _ => rfl) (fun hn646 hs647 => ?_)
                obtain ⟨h649, hx650⟩ := gd_some hx637
                have hs648 := Has.subH hs647 h649.1 h649.2
                refine T_val (Ev_subH rfl rfl slc34 h649.1 (by have := Has.nc hs647; omega)) rfl ?_
                refine T_val (Ev_assign rfl) rfl ?_
                refine T_nil ?_
                refine T_next ?_
                refine T_seq ?_
                refine T_reg ?_
                refine T_val (Ev_move rfl) rfl ?_
                refine T_val (Ev_move rfl) rfl ?_
                refine T_x (Wx_buildSlice rfl (bls34_1_0i64 _) rfl (fun g651 => ?_))
                obtain ⟨h652, hx653⟩ := gd_some hx650
                refine T_h (Wh_appendP e_i64 (s626.2.2) [x635] rfl rfl rfl elm34 (fun _ => rfl) (i' := 0) rfl rfl rfl rfl h652 rfl (fun _ _ => .there (.here)) (fun _ _ => .drop .refl) (by decide) (fun A654 c655 => ?_))
                refine T_val (Ev_assign rfl) rfl ?_
                refine T_nil ?_
                refine T_next ?_
                refine T_seq ?_
                refine T_reg ?_
                refine T_val (Ev_loadK rfl (i := 5) rfl rfl agg23) rfl ?_
                refine T_val (Ev_move rfl) rfl ?_
                obtain ⟨r656, h657, hx658⟩ := bnd_some hx653
                refine T_x (Wx_callL rfl (fun w1 hw1 => model_neighbours_ok p0 x635  h657 w1) rfl ?_)
                rintro _ _ hlo ⟨A659, c660, rfl, rfl, -⟩
                refine T_app1 ?_
                refine T_val (Ev_len rfl 3 Try.underlying34) rfl ?_
                refine T_val (Ev_move rfl) rfl ?_
                refine T_nil ?_
                refine T_next ?_
                refine T_block ?_
                obtain ⟨t728, hl728, ho728⟩ := bnd_some hx658
                refine T_trunc (q := Int.toNat (w64 (((((s626.2.1).length : Nat) : Int)) - 1))) (.there (.there (.here))) (by have := Has.len hs648; simp [subl] at this; omega) (by decide) (fun _ => rfl) ?_
                have hn729 : Int.toNat (w64 (((((s626.2.1).length : Nat) : Int)) - 1)) = (List.take (Int.toNat (w64 (((((s626.2.1).length : Nat) : Int)) - 1))) s626.2.1).length := by simp [setI_len, cpy_len, List.length_append] <;> omega
                refine T_ent (.there (.there (.here))) (e' := .r (y626.2.2.1) ((List.take (Int.toNat (w64 (((((s626.2.1).length : Nat) : Int)) - 1))) s626.2.1).length) (y626.2.2.2.1) 3 1 ((List.take (Int.toNat (w64 (((((s626.2.1).length : Nat) : Int)) - 1))) s626.2.1).flatMap e_i64)) (by first | (rw [← hn729]; done) | rfl) ?_
                refine T_slot (s := 9) (v' := .slice (y626.2.2.1) ((List.take (Int.toNat (w64 (((((s626.2.1).length : Nat) : Int)) - 1))) s626.2.1).length) (y626.2.2.2.1)) rfl (by have hn730 : (Int.toNat (w64 (((((s626.2.1).length : Nat) : Int)) - 1))) = (List.take (Int.toNat (w64 (((((s626.2.1).length : Nat) : Int)) - 1))) s626.2.1).length := (by simp [setI_len, cpy_len, List.length_append] <;> omega); first | (rw [← hn730]; done) | rfl) ?_
                refine T_loopP (σ := (List Bool) × (List Int) × Int) (γ := (Option Addr) × Nat × (Option Addr) × Nat) hl728 (fun s728 y728 => [(1, .slice (A0_0) ((p1).length) (c0_0)), (2, .pointer (some ⟨g1, 0, none⟩)), (5, .slice (y728.1) ((s728.1).length) (y728.2.1)), (6, .slice (y409.2.2.2.1) ((s409.2.1).length) (y409.2.2.2.2.1)), (8, .int .i64 (x415)), (9, .slice (y728.2.2.1) ((s728.2.1).length) (y728.2.2.2)), (10, .slice (A654) ((s626.2.2 ++ [x635]).length) (c655)), (17, .slice (A0_0) ((p1).length) (c0_0)), (18, .int .i64 ((((p1).length : Nat) : Int))), (19, .int .i64 (s409.2.2)), (57, .slice (A659) ((r656).length) (c660)), (58, .int .i64 ((((r656).length : Nat) : Int))), (59, .int .i64 (s728.2.2))]) (fun s728 y728 => [.r (y728.2.2.1) ((s728.2.1).length) (y728.2.2.2) 3 1 ((s728.2.1).flatMap e_i64), .r (A659) ((r656).length) (c660) 3 1 ((r656).flatMap e_i64), .r (A654) ((s626.2.2 ++ [x635]).length) (c655) 3 1 ((s626.2.2 ++ [x635]).flatMap e_i64), y409.2.2.2.2.2, .r (y409.2.2.2.1) ((s409.2.1).length) (y409.2.2.2.2.1) 34 1 ((y409.2.2.1).flatMap cellsV), .r (y728.1) ((s728.1).length) (y728.2.1) 4 1 ((s728.1).flatMap e_bool), .m g1 23 [.int .i64 (p0.X0), .int .i64 (p0.Y0), .int .i64 (p0.Step), .int .i64 (p0.NX), .int .i64 (p0.NY)]] ++ [.old w]) (fun s728 y728 => True) (y626.1, y626.2.1, y626.2.2.1, y626.2.2.2.1) trivial (by exact .cons rfl (.cons rfl (.cons rfl (.cons rfl (.cons rfl (.cons rfl (.cons rfl (.cons rfl (.cons rfl (.cons rfl (.cons rfl (.cons rfl (.cons rfl (.nil)))))))))))))) (by exact .pick 2 rfl (.pick 0 rfl (.pick 0 rfl (.pick 0 rfl (.pick 0 rfl (.pick 0 rfl (.pick 0 rfl (.refl)))))))) ?_
                intro s728 y728 hG728 x728 hx728 ht728
                unfold model_groups_l15 at hx728
                refine T_seq ?_
                refine T_reg ?_
                refine T_val (Ev_lss rfl rfl) rfl ?_
                refine T_nil ?_
                refine T_next ?_
                refine T_seq ?_
                refine T_caseP (s := 60) rfl (fun h731 => ?_) (fun h731 => ?_)
                · have hx732 := ite_t h731 hx728
                  refine T_condT rfl ?_
                  refine T_skip ?_
                  refine T_next ?_
                  obtain ⟨j95, hj95, hx732⟩ := jn_some hx732
                  refine T_cutP (τ := (List Bool) × (List Int)) (γ := (Option Addr) × Nat × (Option Addr) × Nat) (J := j95) (out := x728) (fun s95 y95 => [(1, .slice (A0_0) ((p1).length) (c0_0)), (2, .pointer (some ⟨g1, 0, none⟩)), (5, .slice (y95.1) ((s95.1).length) (y95.2.1)), (6, .slice (y409.2.2.2.1) ((s409.2.1).length) (y409.2.2.2.2.1)), (8, .int .i64 (x415)), (9, .slice (y95.2.2.1) ((s95.2).length) (y95.2.2.2)), (10, .slice (A654) ((s626.2.2 ++ [x635]).length) (c655)), (17, .slice (A0_0) ((p1).length) (c0_0)), (18, .int .i64 ((((p1).length : Nat) : Int))), (19, .int .i64 (s409.2.2)), (57, .slice (A659) ((r656).length) (c660)), (58, .int .i64 ((((r656).length : Nat) : Int))), (59, .int .i64 (s728.2.2))]) (fun s95 y95 => [.r (y95.2.2.1) ((s95.2).length) (y95.2.2.2) 3 1 ((s95.2).flatMap e_i64), .r (A659) ((r656).length) (c660) 3 1 ((r656).flatMap e_i64), .r (A654) ((s626.2.2 ++ [x635]).length) (c655) 3 1 ((s626.2.2 ++ [x635]).flatMap e_i64), y409.2.2.2.2.2, .r (y409.2.2.2.1) ((s409.2.1).length) (y409.2.2.2.2.1) 34 1 ((y409.2.2.1).flatMap cellsV), .r (y95.1) ((s95.1).length) (y95.2.1) 4 1 ((s95.1).flatMap e_bool), .m g1 23 [.int .i64 (p0.X0), .int .i64 (p0.Y0), .int .i64 (p0.Step), .int .i64 (p0.NX), .int .i64 (p0.NY)]] ++ [.old w]) (fun s95 y95 => True) ?_ ?_
                  · intro s95 y95 hx791 hG792
                    subst hj95
                    refine T_reg ?_
                    refine T_val (Ev_add_w64 rfl rfl) rfl ?_
                    refine T_val (Ev_move rfl) rfl ?_
                    refine T_nil ?_
                    exact T_roundP (s95.1, s95.2, w64 (s728.2.2 + 1)) (y95.1, y95.2.1, y95.2.2.1, y95.2.2.2) hx791 trivial (by exact .cons rfl (.cons rfl (.cons rfl (.cons rfl (.cons rfl (.cons rfl (.cons rfl (.cons rfl (.cons rfl (.cons rfl (.cons rfl (.cons rfl (.cons rfl (.nil)))))))))))))) (by exact .pick 0 rfl (.pick 0 rfl (.pick 0 rfl (.pick 0 rfl (.pick 0 rfl (.pick 0 rfl (.pick 0 rfl (.refl))))))))
                  · skip
                    refine T_block ?_
                    refine T_seq ?_
                    refine T_reg ?_
                    obtain ⟨x734, h735, hx736⟩ := bnd_some hx732
                    refine T_idxR (k := 1) rfl (by decide) (fun _ => rfl) h735 (fun b737 j739 hA740 hj741 hl742 hm744 hp743 => ?_)
                    refine T_val (Ev_index rfl rfl hA740 (j := j739) hj741 hl742 slc34) rfl ?_
                    refine T_val (Ev_loadP0 rfl hp743 (SubE.cons2 (i := 1) rfl (SubE.nil)) rfl one3) rfl ?_
                    refine T_val (Ev_assign rfl) rfl ?_
                    refine T_nil ?_
                    refine T_next ?_
                    obtain ⟨j97, hj97, hx736⟩ := jn_some hx736
                    refine T_cutP (τ := Bool) (γ := Unit) (J := j97) (out := x728) (fun s97 y97 => [(1, .slice (A0_0) ((p1).length) (c0_0)), (2, .pointer (some ⟨g1, 0, none⟩)), (5, .slice (y728.1) ((s728.1).length) (y728.2.1)), (6, .slice (y409.2.2.2.1) ((s409.2.1).length) (y409.2.2.2.2.1)), (8, .int .i64 (x415)), (9, .slice (y728.2.2.1) ((s728.2.1).length) (y728.2.2.2)), (10, .slice (A654) ((s626.2.2 ++ [x635]).length) (c655)), (13, .int .i64 (x734)), (17, .slice (A0_0) ((p1).length) (c0_0)), (18, .int .i64 ((((p1).length : Nat) : Int))), (19, .int .i64 (s409.2.2)), (57, .slice (A659) ((r656).length) (c660)), (58, .int .i64 ((((r656).length : Nat) : Int))), (59, .int .i64 (s728.2.2)), (75, .bool (s97))]) (fun s97 y97 => [.r (y728.2.2.1) ((s728.2.1).length) (y728.2.2.2) 3 1 ((s728.2.1).flatMap e_i64), .r (A659) ((r656).length) (c660) 3 1 ((r656).flatMap e_i64), .r (A654) ((s626.2.2 ++ [x635]).length) (c655) 3 1 ((s626.2.2 ++ [x635]).flatMap e_i64), y409.2.2.2.2.2, .r (y409.2.2.2.1) ((s409.2.1).length) (y409.2.2.2.2.1) 34 1 ((y409.2.2.1).flatMap cellsV), .r (y728.1) ((s728.1).length) (y728.2.1) 4 1 ((s728.1).flatMap e_bool), .m g1 23 [.int .i64 (p0.X0), .int .i64 (p0.Y0), .int .i64 (p0.Step), .int .i64 (p0.NX), .int .i64 (p0.NY)]] ++ [.old w]) (fun s97 y97 => True) ?_ ?_
                    · intro s97 y97 hx770 hG771
                      subst hj97
                      refine T_caseB (s := 75) rfl (fun h772 => ?_) (fun h772 => ?_)
                      · have hx773 := ite_t h772 hx770
                        refine T_condT rfl ?_
                        refine T_seq ?_
                        refine T_reg ?_
                        refine T_val (Ev_move rfl) rfl ?_
                        refine T_val (Ev_move rfl) rfl ?_
                        obtain ⟨x774, h775, hx776⟩ := bnd_some hx773
                        refine T_idxR (k := 5) rfl (by decide) (fun _ => rfl) h775 (fun b777 j779 hA780 hj781 hl782 hm784 hp783 => ?_)
                        refine T_val (Ev_index rfl rfl hA780 (j := j779) hj781 hl782 slc86) rfl ?_
                        refine T_h (Wh_storeP e_bool (s728.1) (x734) (true) rfl rfl rfl (.there (.there (.there (.there (.there (.here)))))) hA780 rfl hj781 hl782 (fun _ => rfl) (by decide) rfl one4.2 ?_)
                        refine T_nil ?_
                        refine T_next ?_
                        refine T_reg ?_
                        refine T_val (Ev_move rfl) rfl ?_
                        refine T_val (Ev_move rfl) rfl ?_
                        refine T_x (Wx_buildSlice rfl (bls34_1_0i64 _) rfl (fun g785 => ?_))
                        obtain ⟨h786, hx787⟩ := gd_some hx776
                        refine T_h (Wh_appendP e_i64 (s728.2.1) [x734] rfl rfl rfl elm34 (fun _ => rfl) (i' := 0) rfl rfl rfl rfl h786 rfl (fun _ _ => .there (.here)) (fun _ _ => .drop .refl) (by decide) (fun A788 c789 => ?_))
                        refine T_val (Ev_assign rfl) rfl ?_
                        refine T_nil ?_
                        refine T_inN ?_
                        have hn793 : (s728.1).length = (setI s728.1 x734 true).length := by simp [setI_len, cpy_len, List.length_append] <;> omega
                        refine T_ent (.there (.there (.there (.there (.there (.here)))))) (e' := .r (y728.1) ((setI s728.1 x734 true).length) (y728.2.1) 4 1 ((setI s728.1 x734 true).flatMap e_bool)) (by first | (rw [← hn793]; done) | rfl) ?_
                        refine T_slot (s := 5) (v' := .slice (y728.1) ((setI s728.1 x734 true).length) (y728.2.1)) rfl (by have hn794 : ((s728.1).length) = (setI s728.1 x734 true).length := (by simp [setI_len, cpy_len, List.length_append] <;> omega); first | (rw [← hn794]; done) | rfl) ?_
                        exact T_metP (setI s728.1 x734 true, s728.2.1 ++ [x734]) (y728.1, y728.2.1, A788, c789) hx787 trivial (by exact .cons rfl (.cons rfl (.cons rfl (.cons rfl (.cons rfl (.cons rfl (.cons rfl (.cons rfl (.cons rfl (.cons rfl (.cons rfl (.cons rfl (.cons rfl (.nil)))))))))))))) (by exact .pick 0 rfl (.pick 0 rfl (.pick 0 rfl (.pick 0 rfl (.pick 0 rfl (.pick 0 rfl (.pick 0 rfl (.refl))))))))
                      · have hx790 := ite_bf h772 hx770
                        refine T_condF rfl ?_
                        refine T_skip ?_
                        refine T_inN ?_
                        exact T_metP (s728.1, s728.2.1) (y728.1, y728.2.1, y728.2.2.1, y728.2.2.2) hx790 trivial (by exact .cons rfl (.cons rfl (.cons rfl (.cons rfl (.cons rfl (.cons rfl (.cons rfl (.cons rfl (.cons rfl (.cons rfl (.cons rfl (.cons rfl (.cons rfl (.nil)))))))))))))) (by exact .pick 0 rfl (.pick 0 rfl (.pick 0 rfl (.pick 0 rfl (.pick 0 rfl (.pick 0 rfl (.pick 0 rfl (.refl))))))))
                    · skip
                      refine T_reg ?_
                      refine T_val (Ev_move rfl) rfl ?_
                      refine T_val (Ev_move rfl) rfl ?_
                      obtain ⟨x745, h746, hx747⟩ := bnd_some hx736
                      have hw755 := Has.low (E := []) ha0' hK
                      obtain ⟨b748, o749, j750, hA751, hj752, hl753, hp754⟩ := Has.at_idx hw755 h746
                      refine T_val (Ev_index rfl rfl hA751 (j := j750) hj752 hl753 slc34) rfl ?_
                      refine T_val (Ev_loadP0 rfl hp754 (SubE.cons2 (i := 7) rfl (SubE.nil)) rfl one3) rfl ?_
                      refine T_val (Ev_move rfl) rfl ?_
                      refine T_val (Ev_eql rfl rfl) rfl ?_
                      refine T_val (Ev_move rfl) rfl ?_
                      refine T_caseP (s := 69) rfl (fun h756 => ?_) (fun h756 => ?_)
                      · have hx757 := ite_t h756 hx747
                        refine T_valG rfl rfl rfl (Ev_move rfl) rfl ?_
                        refine T_valG rfl rfl rfl (Ev_move rfl) rfl ?_
                        obtain ⟨x758, h759, hx760⟩ := bnd_some hx757
                        refine T_idxR (k := 5) rfl (by decide) (fun _ => rfl) h759 (fun b761 j763 hA764 hj765 hl766 hm768 hp767 => ?_)
                        refine T_valG rfl rfl rfl (Ev_index rfl rfl hA764 (j := j763) hj765 hl766 slc86) rfl ?_
                        refine T_valG rfl rfl rfl (Ev_loadP0 rfl hp767 (SubE.cons2 (i := 5) rfl (SubE.nil)) rfl one4) rfl ?_
                        refine T_valG rfl rfl rfl (Ev_not rfl) rfl ?_
                        refine T_val (Ev_pickT rfl rfl) rfl ?_
                        refine T_nil ?_
                        exact T_metP (!(x758)) () hx760 trivial (by exact .cons rfl (.cons rfl (.cons rfl (.cons rfl (.cons rfl (.cons rfl (.cons rfl (.cons rfl (.cons rfl (.cons rfl (.cons rfl (.cons rfl (.cons rfl (.cons rfl (.cons rfl (.nil)))))))))))))))) (by exact .pick 0 rfl (.pick 0 rfl (.pick 0 rfl (.pick 0 rfl (.pick 0 rfl (.pick 0 rfl (.pick 0 rfl (.refl))))))))
                      · have hx769 := ite_f h756 hx747
                        refine T_skipG rfl rfl rfl rfl rfl ?_
                        refine T_skipG rfl rfl rfl rfl rfl ?_
                        refine T_skipG rfl rfl rfl rfl rfl ?_
                        refine T_skipG rfl rfl rfl rfl rfl ?_
                        refine T_skipG rfl rfl rfl rfl rfl ?_
                        refine T_val (Ev_pickF rfl rfl) rfl ?_
                        refine T_nil ?_
                        exact T_metP false () hx769 trivial (by exact .cons rfl (.cons rfl (.cons rfl (.cons rfl (.cons rfl (.cons rfl (.cons rfl (.cons rfl (.cons rfl (.cons rfl (.cons rfl (.cons rfl (.cons rfl (.cons rfl (.cons rfl (.nil)))))))))))))))) (by exact .pick 0 rfl (.pick 0 rfl (.pick 0 rfl (.pick 0 rfl (.pick 0 rfl (.pick 0 rfl (.pick 0 rfl (.refl))))))))
                · have hx733 := ite_f h731 hx728
                  refine T_condF rfl ?_
                  refine T_exit ?_
                  refine T_outX ?_
                  obtain rfl := exit_eq ht728 hx733
                  refine T_outX ?_
                  refine T_here ?_
                  refine T_inN ?_
                  exact T_roundP (s728.1, s728.2.1, s626.2.2 ++ [x635]) (y728.1, y728.2.1, y728.2.2.1, y728.2.2.2, A654, c655) ho728 trivial (by exact .cons rfl (.cons rfl (.cons rfl (.cons rfl (.cons rfl (.cons rfl (.cons rfl (.cons rfl (.cons rfl (.cons rfl (.nil))))))))))) (by exact .pick 2 rfl (.pick 0 rfl (.pick 1 rfl (.pick 1 rfl (.pick 1 rfl (.pick 1 rfl (.drop 0 rfl (.refl))))))))
              · have hx634 := ite_f h632 hx626
                refine T_condF rfl ?_
                refine T_exit ?_
                refine T_outX ?_
                obtain rfl := exit_eq ht626 hx634
                refine T_outX ?_
                refine T_here ?_
                exact T_metP (s626.1, s626.2.2) (y626.1, y626.2.1, y626.2.2.2.2.1, y626.2.2.2.2.2) ho626 trivial (by exact .cons rfl (.cons rfl (.cons rfl (.cons rfl (.cons rfl (.cons rfl (.cons rfl (.cons rfl (.nil))))))))) (by exact .pick 0 rfl (.pick 1 rfl (.pick 1 rfl (.pick 1 rfl (.pick 1 rfl (.drop 0 rfl (.refl)))))))
        · skip
          refine T_reg ?_
          refine T_val (Ev_move rfl) rfl ?_
          refine T_val (Ev_eql rfl rfl) rfl ?_
          refine T_val (Ev_move rfl) rfl ?_
          refine T_caseP (s := 26) rfl (fun h426 => ?_) (fun h426 => ?_)
          · have hx427 := ite_t h426 hx417
            refine T_skipG rfl rfl rfl rfl rfl ?_
            refine T_skipG rfl rfl rfl rfl rfl ?_
            refine T_skipG rfl rfl rfl rfl rfl ?_
            refine T_skipG rfl rfl rfl rfl rfl ?_
            refine T_val (Ev_pickT rfl rfl) rfl ?_
            refine T_nil ?_
            exact T_metP true () hx427 trivial (by exact .cons rfl (.cons rfl (.cons rfl (.cons rfl (.cons rfl (.cons rfl (.cons rfl (.cons rfl (.cons rfl (.cons rfl (.nil))))))))))) (by exact .pick 0 rfl (.pick 0 rfl (.pick 0 rfl (.pick 0 rfl (.refl)))))
          · have hx428 := ite_f h426 hx417
            refine T_valG rfl rfl rfl (Ev_move rfl) rfl ?_
            refine T_valG rfl rfl rfl (Ev_move rfl) rfl ?_
            obtain ⟨x429, h430, hx431⟩ := bnd_some hx428
            refine T_idxR (k := 2) rfl (by decide) (fun _ => rfl) h430 (fun b432 j434 hA435 hj436 hl437 hm439 hp438 => ?_)
            refine T_valG rfl rfl rfl (Ev_index rfl rfl hA435 (j := j434) hj436 hl437 slc86) rfl ?_
            refine T_valG rfl rfl rfl (Ev_loadP0 rfl hp438 (SubE.cons2 (i := 2) rfl (SubE.nil)) rfl one4) rfl ?_
            refine T_val (Ev_pickF rfl rfl) rfl ?_
            refine T_nil ?_
            exact T_metP x429 () hx431 trivial (by exact .cons rfl (.cons rfl (.cons rfl (.cons rfl (.cons rfl (.cons rfl (.cons rfl (.cons rfl (.cons rfl (.cons rfl (.nil))))))))))) (by exact .pick 0 rfl (.pick 0 rfl (.pick 0 rfl (.pick 0 rfl (.refl)))))
    · have hx414 := ite_f h412 hx409
      refine T_condF rfl ?_
      refine T_exit ?_
      refine T_outX ?_
      obtain rfl := exit_eq ht409 hx414
      refine T_outX ?_
      refine T_here ?_
      exact T_metP s409.2.1 (y409.2.2.1, y409.2.2.2.1, y409.2.2.2.2.1, y409.2.2.2.2.2) ho409 ((by exact ⟨lo410, (RowN.up (R := n_List_Int) (L := ([y409.2.2.2.2.2] : List Ent)) n_List_Int_mono hr411 (SubE.cons2 (i := 0) rfl (SubE.nil))), trivial⟩)) (by exact .cons rfl (.nil)) (by exact .pick 0 rfl (.pick 0 rfl (.drop 0 rfl (.drop 0 rfl (.refl)))))
set_option maxRecDepth 100000 in
theorem model_Regions_ok (p0 : S_api_Grid) (p1 : S_api_Grid) (p2 : Int) {K : List Ent} {A0_0 : Option Addr} {c0_0 : Nat} {A0_1 : Option Addr} {c0_1 : Nat} (ha0 : Has K A0_0 (p0.Cells).length c0_0 3 e_api_Cell (p0.Cells)) (ha1 : Has K A0_1 (p1.Cells).length c0_1 3 e_api_Cell (p1.Cells)) {r : (List S_api_Region) × Int} (hx : model_Regions p0 p1 p2 = some r) (w : World) (hK : ∀ e ∈ K, Ent.ok w e) : CtL Try.prog 8 [.agg #[.int .i64 (p0.Raster.X0), .int .i64 (p0.Raster.Y0), .int .i64 (p0.Raster.Step), .int .i64 (p0.Raster.NX), .int .i64 (p0.Raster.NY), .slice (A0_0) ((p0.Cells).length) (c0_0)], .agg #[.int .i64 (p1.Raster.X0), .int .i64 (p1.Raster.Y0), .int .i64 (p1.Raster.Step), .int .i64 (p1.Raster.NX), .int .i64 (p1.Raster.NY), .slice (A0_1) ((p1.Cells).length) (c0_1)], .int .i64 (p2)] w fun v Ln => ∃ (A0 : Option Addr) (c0 : Nat) (e0 : Ent) (e1 : Ent) (e2 : Ent), v = .tuple #[.slice (A0) ((r.1).length) (c0), .int .i64 (r.2)] ∧ Ln = [e0, e1, e2] ∧ HasN (K ++ [e0, e1, e2]) A0 (r.1).length c0 8 n_api_Region (r.1) ∧ True := by
  have ha0' := Has.up0 ha0
  have ha1' := Has.up0 ha1
  refine CtL.mk 76 Try.func8 rfl Try.ntmps8 (by kernel_rfl) rfl ?_
  show T 76 _ [(0, .agg #[.int .i64 (p0.Raster.X0), .int .i64 (p0.Raster.Y0), .int .i64 (p0.Raster.Step), .int .i64 (p0.Raster.NX), .int .i64 (p0.Raster.NY), .slice (A0_0) ((p0.Cells).length) (c0_0)]), (1, .agg #[.int .i64 (p1.Raster.X0), .int .i64 (p1.Raster.Y0), .int .i64 (p1.Raster.Step), .int .i64 (p1.Raster.NX), .int .i64 (p1.Raster.NY), .slice (A0_1) ((p1.Cells).length) (c0_1)]), (2, .int .i64 (p2))] _
  unfold model_Regions at hx
  refine T_seq ?_
  refine T_reg ?_
  refine T_x (Wx_box rfl rfl rfl (fun g1 => ?_))
  refine T_x (Wx_box rfl rfl rfl (fun g2 => ?_))
  refine T_val (Ev_assign rfl) rfl ?_
  refine T_val (Ev_assign rfl) rfl ?_
  refine T_nil ?_
  refine T_next ?_
  refine T_seq ?_
  refine T_seq ?_
  refine T_reg ?_
  refine T_val (Ev_loadK rfl (i := 1) rfl rfl agg26) rfl ?_
  refine T_val (Ev_loadK rfl (i := 0) rfl rfl agg26) rfl ?_
  obtain ⟨r3, h4, hx5⟩ := bnd_some hx
  refine T_x (Wx_callL rfl (fun w1 hw1 => model_pair_ok p0 p1 (Has.len' ha0') (Has.len' ha1') h4 w1 (okApp (K := K) (K2 := []) hK (by exact (SubE.cons2 (i := 2) rfl (SubE.nil))) (by exact (SubE.nil)) hw1)) rfl ?_)
  rintro _ _ hlo ⟨rfl, rfl, -⟩
  refine T_app0 ?_
  refine T_val (Ev_assign rfl) rfl ?_
  refine T_nil ?_
  refine T_next ?_
  refine T_seq ?_
  refine T_reg ?_
  refine T_val (Ev_move rfl) rfl ?_
  refine T_val (Ev_neq rfl rfl) rfl ?_
  refine T_nil ?_
  refine T_next ?_
  refine T_caseNP (s := 20) rfl (fun h6 => ?_) (fun h6 => ?_)
  · have hx7 := ite_f h6 hx5
    refine T_condT rfl ?_
    refine T_seq ?_
    refine T_reg ?_
    refine T_val (Ev_move rfl) rfl ?_
    refine T_val (Ev_assign rfl) rfl ?_
    refine T_val (Ev_assign rfl) rfl ?_
    refine T_nil ?_
    refine T_next ?_
    refine T_retc ?_
    refine T_outR ?_
    refine T_none 0 1 ?_
    refine T_none 0 1 ?_
    refine T_none 0 1 ?_
    obtain rfl := Option.some.inj hx7
    exact T_retP (rs := [.tmp 6, .tmp 7]) Try.results8 (.tmp rfl (.tmp rfl (.nil))) (Ln := [.r none 0 0 0 1 [], .r none 0 0 0 1 [], .r none 0 0 0 1 []]) ⟨none, 0, (.r none 0 0 0 1 []), (.r none 0 0 0 1 []), (.r none 0 0 0 1 []), rfl, rfl, HasN.nil, trivial⟩ (loCons rfl (loCons rfl (loCons rfl (loNil)))) (by exact .pick 2 rfl (.pick 1 rfl (.pick 0 rfl (.drop 0 rfl (.drop 0 rfl (.refl))))))
  · have hx8 := ite_t h6 hx5
    refine T_condF rfl ?_
    refine T_skip ?_
    refine T_next ?_
    refine T_seq ?_
    refine T_seq ?_
    refine T_reg ?_
    refine T_val (Ev_move rfl) rfl ?_
    refine T_val (Ev_lss rfl rfl) rfl ?_
    refine T_nil ?_
    refine T_next ?_
    refine T_caseP (s := 23) rfl (fun h9 => ?_) (fun h9 => ?_)
    · have hx10 := ite_t h9 hx8
      refine T_condT rfl ?_
      refine T_seq ?_
      refine T_reg ?_
      refine T_val (Ev_assign rfl) rfl ?_
      refine T_val (Ev_assign rfl) rfl ?_
      refine T_nil ?_
      refine T_next ?_
      refine T_retc ?_
      refine T_outR ?_
      refine T_none 0 1 ?_
      refine T_none 0 1 ?_
      refine T_none 0 1 ?_
      obtain rfl := Option.some.inj hx10
      exact T_retP (rs := [.tmp 6, .tmp 7]) Try.results8 (.tmp rfl (.tmp rfl (.nil))) (Ln := [.r none 0 0 0 1 [], .r none 0 0 0 1 [], .r none 0 0 0 1 []]) ⟨none, 0, (.r none 0 0 0 1 []), (.r none 0 0 0 1 []), (.r none 0 0 0 1 []), rfl, rfl, HasN.nil, trivial⟩ (loCons rfl (loCons rfl (loCons rfl (loNil)))) (by exact .pick 2 rfl (.pick 1 rfl (.pick 0 rfl (.drop 0 rfl (.drop 0 rfl (.refl))))))
    · have hx11 := ite_f h9 hx8
      refine T_condF rfl ?_
      refine T_skip ?_
      refine T_next ?_
      refine T_seq ?_
      refine T_reg ?_
      refine T_val (Ev_loadK rfl (i := 1) rfl rfl agg26) rfl ?_
      refine T_val (Ev_loadK rfl (i := 0) rfl rfl agg26) rfl ?_
      obtain ⟨r12, h13, hx14⟩ := bnd_some hx11
      refine T_x (Wx_callL rfl (fun w1 hw1 => model_states_ok p0 p1 (Has.len' ha0') (Has.len' ha1') h13 w1 (okApp (K := K) (K2 := []) hK (by exact (SubE.cons2 (i := 2) rfl (SubE.nil))) (by exact (SubE.nil)) hw1)) rfl ?_)
      rintro _ _ hlo ⟨A15, c16, rfl, rfl, -⟩
      refine T_app1 ?_
      refine T_val (Ev_assign rfl) rfl ?_
      refine T_nil ?_
      refine T_next ?_
      obtain ⟨j10, hj10, hx14⟩ := jn_some hx14
      refine T_cutP (τ := List Int) (γ := (Option Addr) × Nat) (J := j10) (out := r) (fun s10 y10 => [(2, .int .i64 (p2)), (3, .pointer (some ⟨g1, 0, none⟩)), (4, .pointer (some ⟨g2, 0, none⟩)), (9, .slice (y10.1) ((s10).length) (y10.2))]) (fun s10 y10 => [.r (y10.1) ((s10).length) (y10.2) 3 1 ((s10).flatMap e_i64), .m g2 26 [.int .i64 (p1.Raster.X0), .int .i64 (p1.Raster.Y0), .int .i64 (p1.Raster.Step), .int .i64 (p1.Raster.NX), .int .i64 (p1.Raster.NY), .slice (A0_1) ((p1.Cells).length) (c0_1)], .m g1 26 [.int .i64 (p0.Raster.X0), .int .i64 (p0.Raster.Y0), .int .i64 (p0.Raster.Step), .int .i64 (p0.Raster.NX), .int .i64 (p0.Raster.NY), .slice (A0_0) ((p0.Cells).length) (c0_0)]] ++ [.old w]) (fun s10 y10 => True) ?_ ?_
      · intro s10 y10 hx85 hG86
        subst hj10
        refine T_seq ?_
        refine T_reg ?_
        refine T_val (Ev_assign rfl) rfl ?_
        refine T_nil ?_
        refine T_next ?_
        obtain ⟨j23, hj23, hx85⟩ := jn_some hx85
        refine T_cutP (τ := List S_api_Region) (γ := (List (Vec 8)) × (Option Addr) × Nat × Ent) (J := j23) (out := r) (fun s23 y23 => [(12, .slice (y23.2.1) ((s23).length) (y23.2.2.1))]) (fun s23 y23 => [y23.2.2.2, .r (y23.2.1) ((s23).length) (y23.2.2.1) 53 8 ((y23.1).flatMap cellsV), .r (y10.1) ((s10).length) (y10.2) 3 1 ((s10).flatMap e_i64)] ++ [.old w]) (fun s23 y23 => y23.2.2.2.low = 0 ∧ RowN ([.r (y10.1) ((s10).length) (y10.2) 3 1 ((s10).flatMap e_i64), y23.2.2.2] : List Ent) n_api_Region (y23.1) (s23) ∧ True) ?_ ?_
        · intro s23 y23 hx331 hG332
          obtain ⟨lo333, hr334, -⟩ := hG332
          subst hj23
          refine T_seq ?_
          refine T_reg ?_
          refine T_val (Ev_move rfl) rfl ?_
          refine T_val (Ev_assign rfl) rfl ?_
          refine T_val (Ev_assign rfl) rfl ?_
          refine T_nil ?_
          refine T_next ?_
          refine T_retc ?_
          refine T_rowP (k := 1) rfl (by decide) (fun x => x.2) (fun hn335 hs336 => ?_)
          have hs337 : HasN ([.r (y23.2.1) ((s23).length) (y23.2.2.1) 53 8 ((y23.1).flatMap cellsV), .r (y10.1) ((s10).length) (y10.2) 3 1 ((s10).flatMap e_i64), y23.2.2.2] : List Ent) _ _ _ _ _ _ := HasN.ofRowN (Has.up (L := ([.r (y23.2.1) ((s23).length) (y23.2.2.1) 53 8 ((y23.1).flatMap cellsV), .r (y10.1) ((s10).length) (y10.2) 3 1 ((s10).flatMap e_i64), y23.2.2.2] : List Ent)) hs336 (SubE.cons2 (i := 0) rfl (SubE.nil))) (RowN.up (R := n_api_Region) (L := ([.r (y23.2.1) ((s23).length) (y23.2.2.1) 53 8 ((y23.1).flatMap cellsV), .r (y10.1) ((s10).length) (y10.2) 3 1 ((s10).flatMap e_i64), y23.2.2.2] : List Ent)) n_api_Region_mono hr334 (SubE.cons2 (i := 1) rfl (SubE.cons2 (i := 2) rfl (SubE.nil))))
          obtain rfl := Option.some.inj hx331
          exact T_retP (rs := [.tmp 6, .tmp 7]) Try.results8 (.tmp rfl (.tmp rfl (.nil))) (Ln := [.r (y23.2.1) ((s23).length) (y23.2.2.1) 53 8 ((y23.1).flatMap cellsV), .r (y10.1) ((s10).length) (y10.2) 3 1 ((s10).flatMap e_i64), y23.2.2.2]) ⟨y23.2.1, y23.2.2.1, (.r (y23.2.1) ((s23).length) (y23.2.2.1) 53 8 ((y23.1).flatMap cellsV)), (.r (y10.1) ((s10).length) (y10.2) 3 1 ((s10).flatMap e_i64)), y23.2.2.2, rfl, rfl, HasN.len' (HasN.up (L := (K ++ [.r (y23.2.1) ((s23).length) (y23.2.2.1) 53 8 ((y23.1).flatMap cellsV), .r (y10.1) ((s10).length) (y10.2) 3 1 ((s10).flatMap e_i64), y23.2.2.2])) n_api_Region_mono hs337 (SubE.appR2 (SubE.cons2 (i := 0) rfl (SubE.cons2 (i := 1) rfl (SubE.cons2 (i := 2) rfl (SubE.nil)))))), trivial⟩ (loCons rfl (loCons rfl (loCons lo333 (loNil)))) (by exact .pick 1 rfl (.pick 1 rfl (.pick 0 rfl (.refl))))
        · skip
          refine T_seq ?_
          refine T_reg ?_
          refine T_val (Ev_field rfl fld26_0 rfl) rfl ?_
          refine T_val (Ev_loadK rfl (i := 2) rfl rfl agg23) rfl ?_
          refine T_val (Ev_move rfl) rfl ?_
          refine T_rowP (k := 0) rfl (by decide) (fun _ => rfl) (fun hn87 hs88 => ?_)
          obtain ⟨r89, h90, hx91⟩ := bnd_some hx85
          refine T_x (Wx_callL rfl (fun w1 hw1 => model_groups_ok p0.Raster s10 (Has.len' hs88) h90 w1 (okAll (K := ([.r (y10.1) ((s10).length) (y10.2) 3 1 ((s10).flatMap e_i64)] : List Ent)) (by exact (SubE.cons2 (i := 0) rfl (SubE.nil))) hw1)) rfl ?_)
          rintro _ _ hlo ⟨A92, c93, e94, e95, rfl, rfl, hs96, -⟩
          have lo97 := hlo e94 (by simp)
          have lo98 := hlo e95 (by simp)
          refine T_app2 ?_
          have hs99 : HasN ([.r (y10.1) ((s10).length) (y10.2) 3 1 ((s10).flatMap e_i64), e94, e95] : List Ent) _ _ _ _ _ _ := id hs96
          refine T_val (Ev_len rfl 34 Try.underlying66) rfl ?_
          refine T_val (Ev_move rfl) rfl ?_
          refine T_nil ?_
          refine T_next ?_
          refine T_block ?_
          obtain ⟨t254, hl254, ho254⟩ := bnd_some hx91
          refine T_none 0 1 ?_
          refine T_none 53 8 ?_
          refine T_loopP (σ := (List S_api_Region) × Int) (γ := (List (Vec 8)) × (Option Addr) × Nat × Ent) hl254 (fun s254 y254 => [(2, .int .i64 (p2)), (3, .pointer (some ⟨g1, 0, none⟩)), (4, .pointer (some ⟨g2, 0, none⟩)), (9, .slice (y10.1) ((s10).length) (y10.2)), (12, .slice (y254.2.1) ((s254.1).length) (y254.2.2.1)), (43, .slice (A92) ((r89).length) (c93)), (44, .int .i64 ((((r89).length : Nat) : Int))), (45, .int .i64 (s254.2))]) (fun s254 y254 => [y254.2.2.2, .r (y254.2.1) ((s254.1).length) (y254.2.2.1) 53 8 ((y254.1).flatMap cellsV), e94, e95, .r (y10.1) ((s10).length) (y10.2) 3 1 ((s10).flatMap e_i64), .m g2 26 [.int .i64 (p1.Raster.X0), .int .i64 (p1.Raster.Y0), .int .i64 (p1.Raster.Step), .int .i64 (p1.Raster.NX), .int .i64 (p1.Raster.NY), .slice (A0_1) ((p1.Cells).length) (c0_1)], .m g1 26 [.int .i64 (p0.Raster.X0), .int .i64 (p0.Raster.Y0), .int .i64 (p0.Raster.Step), .int .i64 (p0.Raster.NX), .int .i64 (p0.Raster.NY), .slice (A0_0) ((p0.Cells).length) (c0_0)]] ++ [.old w]) (fun s254 y254 => y254.2.2.2.low = 0 ∧ RowN ([.r (y10.1) ((s10).length) (y10.2) 3 1 ((s10).flatMap e_i64), e94, e95, y254.2.2.2] : List Ent) n_api_Region (y254.1) (s254.1) ∧ True) (([] : List (Vec 8)), none, 0, .r none 0 0 0 1 []) ((by exact ⟨rfl, RowN.nil, trivial⟩)) (by exact .cons rfl (.cons rfl (.cons rfl (.cons rfl (.cons rfl (.cons rfl (.cons rfl (.cons rfl (.nil))))))))) (by exact .pick 1 rfl (.pick 0 rfl (.pick 0 rfl (.pick 0 rfl (.pick 0 rfl (.pick 0 rfl (.pick 0 rfl (.refl)))))))) ?_
          intro s254 y254 hG254 x254 hx254 ht254
          unfold model_Regions_l15 at hx254
          obtain ⟨lo255, hr256, -⟩ := hG254
          refine T_seq ?_
          refine T_reg ?_
          refine T_val (Ev_lss rfl rfl) rfl ?_
          refine T_nil ?_
          refine T_next ?_
          refine T_seq ?_
          refine T_caseP (s := 46) rfl (fun h257 => ?_) (fun h257 => ?_)
          · have hx258 := ite_t h257 hx254
            refine T_condT rfl ?_
            refine T_skip ?_
            refine T_next ?_
            obtain ⟨j43, hj43, hx258⟩ := jn_some hx258
            refine T_cutP (τ := List S_api_Region) (γ := (List (Vec 8)) × (Option Addr) × Nat × Ent) (J := j43) (out := x254) (fun s43 y43 => [(2, .int .i64 (p2)), (3, .pointer (some ⟨g1, 0, none⟩)), (4, .pointer (some ⟨g2, 0, none⟩)), (9, .slice (y10.1) ((s10).length) (y10.2)), (12, .slice (y43.2.1) ((s43).length) (y43.2.2.1)), (43, .slice (A92) ((r89).length) (c93)), (44, .int .i64 ((((r89).length : Nat) : Int))), (45, .int .i64 (s254.2))]) (fun s43 y43 => [y43.2.2.2, y254.2.2.2, .r (y43.2.1) ((s43).length) (y43.2.2.1) 53 8 ((y43.1).flatMap cellsV), e94, e95, .r (y10.1) ((s10).length) (y10.2) 3 1 ((s10).flatMap e_i64), .m g2 26 [.int .i64 (p1.Raster.X0), .int .i64 (p1.Raster.Y0), .int .i64 (p1.Raster.Step), .int .i64 (p1.Raster.NX), .int .i64 (p1.Raster.NY), .slice (A0_1) ((p1.Cells).length) (c0_1)], .m g1 26 [.int .i64 (p0.Raster.X0), .int .i64 (p0.Raster.Y0), .int .i64 (p0.Raster.Step), .int .i64 (p0.Raster.NX), .int .i64 (p0.Raster.NY), .slice (A0_0) ((p0.Cells).length) (c0_0)]] ++ [.old w]) (fun s43 y43 => y43.2.2.2.low = 0 ∧ RowN ([.r (y10.1) ((s10).length) (y10.2) 3 1 ((s10).flatMap e_i64), e94, e95, y254.2.2.2, y43.2.2.2] : List Ent) n_api_Region (y43.1) (s43) ∧ True) ?_ ?_
            · intro s43 y43 hx325 hG326
              obtain ⟨lo327, hr328, -⟩ := hG326
              subst hj43
              refine T_reg ?_
              refine T_val (Ev_add_w64 rfl rfl) rfl ?_
              refine T_val (Ev_move rfl) rfl ?_
              refine T_nil ?_
              refine T_bundle (es := [y254.2.2.2, y43.2.2.2]) (by exact .pick 1 rfl (.pick 0 rfl (.refl))) (loCons lo255 (loCons lo327 (loNil))) ?_
              exact T_roundP (s43, w64 (s254.2 + 1)) (y43.1, y43.2.1, y43.2.2.1, bun [y254.2.2.2, y43.2.2.2]) hx325 ((by exact ⟨rfl, (RowN.up (R := n_api_Region) (L := ([.r (y10.1) ((s10).length) (y10.2) 3 1 ((s10).flatMap e_i64), e94, e95, (bun [y254.2.2.2, y43.2.2.2])] : List Ent)) n_api_Region_mono hr328 (SubE.cons2 (i := 0) rfl (SubE.cons2 (i := 1) rfl (SubE.cons2 (i := 2) rfl (SubE.consB (i := 3) (j := 0) rfl rfl (SubE.consB (i := 3) (j := 1) rfl rfl (SubE.nil))))))), trivial⟩)) (by exact .cons rfl (.cons rfl (.cons rfl (.cons rfl (.cons rfl (.cons rfl (.cons rfl (.cons rfl (.nil))))))))) (by exact .pick 0 rfl (.pick 0 rfl (.pick 0 rfl (.pick 0 rfl (.pick 0 rfl (.pick 0 rfl (.pick 0 rfl (.refl))))))))
            · skip
              refine T_block ?_
              refine T_seq ?_
              refine T_reg ?_
              obtain ⟨x260, h261, hx262⟩ := bnd_some hx258
              obtain ⟨b263, o264, j265, ys273, hA266, hj267, hl268, hp269, hr274⟩ := HasN.at_idx hs99 h261
              obtain ⟨A270, c271, rfl, hs272⟩ := hr274
              refine T_val (Ev_index rfl rfl hA266 (j := j265) hj267 hl268 slc66) rfl ?_
              refine T_val (Ev_loadP0 rfl hp269 (SubE.cons2 (i := 4) rfl (SubE.cons2 (i := 2) rfl (SubE.cons2 (i := 3) rfl (SubE.nil)))) rfl one34) rfl ?_
              refine T_val (Ev_assign rfl) rfl ?_
              refine T_nil ?_
              refine T_next ?_
              refine T_seq ?_
              refine T_seq ?_
              refine T_reg ?_
              refine T_val (Ev_move rfl) rfl ?_
              refine T_val (Ev_len rfl 3 Try.underlying34) rfl ?_
              refine T_val (Ev_move rfl) rfl ?_
              refine T_val (Ev_lss rfl rfl) rfl ?_
              refine T_nil ?_
              refine T_next ?_
              refine T_caseP (s := 52) rfl (fun h275 => ?_) (fun h275 => ?_)
              · have hx276 := ite_t h275 hx262
                refine T_condT rfl ?_
                refine T_exit ?_
                refine T_outX ?_
                refine T_here ?_
                refine T_none 0 1 ?_
                exact T_metP s254.1 (y254.1, y254.2.1, y254.2.2.1, .r none 0 0 0 1 []) hx276 ((by exact ⟨rfl, (RowN.up (R := n_api_Region) (L := ([.r (y10.1) ((s10).length) (y10.2) 3 1 ((s10).flatMap e_i64), e94, e95, y254.2.2.2, .r none 0 0 0 1 []] : List Ent)) n_api_Region_mono hr256 (SubE.cons2 (i := 0) rfl (SubE.cons2 (i := 1) rfl (SubE.cons2 (i := 2) rfl (SubE.cons2 (i := 3) rfl (SubE.nil)))))), trivial⟩)) (by exact .cons rfl (.cons rfl (.cons rfl (.cons rfl (.cons rfl (.cons rfl (.cons rfl (.cons rfl (.nil))))))))) (by exact .pick 0 rfl (.pick 0 rfl (.pick 0 rfl (.pick 0 rfl (.pick 0 rfl (.pick 0 rfl (.pick 0 rfl (.pick 0 rfl (.refl)))))))))
              · have hx277 := ite_f h275 hx262
                refine T_condF rfl ?_
                refine T_skip ?_
                refine T_next ?_
                refine T_seq ?_
                refine T_reg ?_
                refine T_val (Ev_move rfl) rfl ?_
                refine T_val (Ev_move rfl) rfl ?_
                obtain ⟨x278, h279, hx280⟩ := bnd_some hx277
                obtain ⟨b281, o282, j283, hA284, hj285, hl286, hp287⟩ := Has.at_idx hs272 h279
                refine T_val (Ev_index rfl rfl hA284 (j := j283) hj285 hl286 slc34) rfl ?_
                refine T_val (Ev_loadP0 rfl hp287 (SubE.cons2 (i := 4) rfl (SubE.cons2 (i := 2) rfl (SubE.cons2 (i := 3) rfl (SubE.nil)))) rfl one3) rfl ?_
                obtain ⟨x288, h289, hx290⟩ := bnd_some hx280
                refine T_idxR (k := 4) rfl (by decide) (fun _ => rfl) h289 (fun b291 j293 hA294 hj295 hl296 hm298 hp297 => ?_)
                refine T_val (Ev_index rfl rfl hA294 (j := j293) hj295 hl296 slc34) rfl ?_
                refine T_val (Ev_loadP0 rfl hp297 (SubE.cons2 (i := 4) rfl (SubE.nil)) rfl one3) rfl ?_
                refine T_val (Ev_move rfl) rfl ?_
                refine T_val (Ev_build rfl (bld53_0i641s _ _ _ _)) rfl ?_
                refine T_x (Wx_alloc zer53 rfl (fun g299 => ?_))
                refine T_h (Wh_store rfl rfl rfl (.here) (.put (.put (.put (.put (.put (.put (.put (.put (.done))))))))) rfl (List.cons_ne_nil _ _) agg53.2 ?_)
                refine T_nil ?_
                refine T_next ?_
                refine T_seq ?_
                refine T_reg ?_
                refine T_val (Ev_loadK rfl (i := 7) rfl rfl agg26) rfl ?_
                refine T_val (Ev_loadK rfl (i := 6) rfl rfl agg26) rfl ?_
                refine T_val (Ev_move rfl) rfl ?_
                obtain ⟨r300, h301, hx302⟩ := bnd_some hx290
                refine T_x (Wx_callL rfl (fun w1 hw1 => model_amount_ok p0 p1 x260 (Has.len' (Has.up (L := (K ++ [.r (y10.1) ((s10).length) (y10.2) 3 1 ((s10).flatMap e_i64), e94, e95])) ha0' (SubE.app2 SubE.nil))) (Has.len' (Has.up (L := (K ++ [.r (y10.1) ((s10).length) (y10.2) 3 1 ((s10).flatMap e_i64), e94, e95])) ha1' (SubE.app2 SubE.nil))) (Has.len' (Has.up (L := (K ++ [.r (y10.1) ((s10).length) (y10.2) 3 1 ((s10).flatMap e_i64), e94, e95])) hs272 (SubE.appR2 (SubE.cons2 (i := 0) rfl (SubE.cons2 (i := 1) rfl (SubE.cons2 (i := 2) rfl (SubE.nil))))))) h301 w1 (okApp (K := K) (K2 := [.r (y10.1) ((s10).length) (y10.2) 3 1 ((s10).flatMap e_i64), e94, e95]) hK (by exact (SubE.cons2 (i := 8) rfl (SubE.nil))) (by exact (SubE.cons2 (i := 5) rfl (SubE.cons2 (i := 3) rfl (SubE.cons2 (i := 4) rfl (SubE.nil))))) hw1)) rfl ?_)
                rintro _ _ hlo ⟨A303, c304, A305, c306, A307, c308, A309, c310, rfl, rfl, -⟩
                refine T_app4 ?_
                refine T_val (Ev_move rfl) rfl ?_
                refine T_val (Ev_extract rfl rfl) rfl ?_
                refine T_val (Ev_extract rfl rfl) rfl ?_
                refine T_val (Ev_field rfl fld53_2 rfl) rfl ?_
                refine T_h (Wh_store rfl rfl rfl (.there (.there (.there (.there (.here))))) (.skip (.skip (.put (.put (.put (.done)))))) rfl (List.cons_ne_nil _ _) agg51.2 ?_)
                refine T_val (Ev_field rfl fld53_3 rfl) rfl ?_
                refine T_h (Wh_store rfl rfl rfl (.there (.there (.there (.there (.here))))) (.skip (.skip (.skip (.skip (.skip (.put (.put (.put (.done))))))))) rfl (List.cons_ne_nil _ _) agg51.2 ?_)
                refine T_nil ?_
                refine T_next ?_
                refine T_reg ?_
                refine T_val (Ev_move rfl) rfl ?_
                refine T_val (Ev_loadK rfl (i := 4) rfl rfl agg53) rfl ?_
                refine T_x (Wx_buildSlice rfl (bls44_1_0ai64sbssbss _ _ _ _ _ _ _ _ _ _ _ _ _ _ _ _ _ _) rfl (fun g311 => ?_))
                refine T_rowP (k := 1) rfl (by decide) (fun _ => rfl) (fun hn312 hs313 => ?_)
                refine T_rowP (k := 2) rfl (by decide) (fun _ => rfl) (fun hn314 hs315 => ?_)
                refine T_rowP (k := 3) rfl (by decide) (fun _ => rfl) (fun hn316 hs317 => ?_)
                refine T_rowP (k := 4) rfl (by decide) (fun _ => rfl) (fun hn318 hs319 => ?_)
                have hr320 : RowN ([.r (y10.1) ((s10).length) (y10.2) 3 1 ((s10).flatMap e_i64), e94, e95, y254.2.2.2, .r (A303) ((r300.1.Num).length) (c304) 27 1 ((r300.1.Num).flatMap e_u32), .r (A305) ((r300.1.Den).length) (c306) 27 1 ((r300.1.Den).flatMap e_u32), .r (A307) ((r300.2.Num).length) (c308) 27 1 ((r300.2.Num).flatMap e_u32), .r (A309) ((r300.2.Den).length) (c310) 27 1 ((r300.2.Den).flatMap e_u32)] : List Ent) n_api_Region (y254.1 ++ [(⟨[.int .i64 (x288), .slice (A270) ((x260).length) (c271), .bool (r300.1.Neg), .slice (A303) ((r300.1.Num).length) (c304), .slice (A305) ((r300.1.Den).length) (c306), .bool (r300.2.Neg), .slice (A307) ((r300.2.Num).length) (c308), .slice (A309) ((r300.2.Den).length) (c310)], rfl⟩ : Vec 8)]) (s254.1 ++ [(⟨x288, x260, r300.1, r300.2⟩ : S_api_Region)]) := RowN.snoc (RowN.up (R := n_api_Region) (L := ([.r (y10.1) ((s10).length) (y10.2) 3 1 ((s10).flatMap e_i64), e94, e95, y254.2.2.2, .r (A303) ((r300.1.Num).length) (c304) 27 1 ((r300.1.Num).flatMap e_u32), .r (A305) ((r300.1.Den).length) (c306) 27 1 ((r300.1.Den).flatMap e_u32), .r (A307) ((r300.2.Num).length) (c308) 27 1 ((r300.2.Num).flatMap e_u32), .r (A309) ((r300.2.Den).length) (c310) 27 1 ((r300.2.Den).flatMap e_u32)] : List Ent)) n_api_Region_mono hr256 (SubE.cons2 (i := 0) rfl (SubE.cons2 (i := 1) rfl (SubE.cons2 (i := 2) rfl (SubE.cons2 (i := 3) rfl (SubE.nil)))))) ⟨A270, c271, A303, c304, A305, c306, A307, c308, A309, c310, rfl, Has.len' (Has.up (L := ([.r (y10.1) ((s10).length) (y10.2) 3 1 ((s10).flatMap e_i64), e94, e95, y254.2.2.2, .r (A303) ((r300.1.Num).length) (c304) 27 1 ((r300.1.Num).flatMap e_u32), .r (A305) ((r300.1.Den).length) (c306) 27 1 ((r300.1.Den).flatMap e_u32), .r (A307) ((r300.2.Num).length) (c308) 27 1 ((r300.2.Num).flatMap e_u32), .r (A309) ((r300.2.Den).length) (c310) 27 1 ((r300.2.Den).flatMap e_u32)] : List Ent)) hs272 (SubE.cons2 (i := 0) rfl (SubE.cons2 (i := 1) rfl (SubE.cons2 (i := 2) rfl (SubE.nil))))), Has.len' (Has.up (L := ([.r (y10.1) ((s10).length) (y10.2) 3 1 ((s10).flatMap e_i64), e94, e95, y254.2.2.2, .r (A303) ((r300.1.Num).length) (c304) 27 1 ((r300.1.Num).flatMap e_u32), .r (A305) ((r300.1.Den).length) (c306) 27 1 ((r300.1.Den).flatMap e_u32), .r (A307) ((r300.2.Num).length) (c308) 27 1 ((r300.2.Num).flatMap e_u32), .r (A309) ((r300.2.Den).length) (c310) 27 1 ((r300.2.Den).flatMap e_u32)] : List Ent)) hs313 (SubE.cons2 (i := 4) rfl (SubE.nil))), Has.len' (Has.up (L := ([.r (y10.1) ((s10).length) (y10.2) 3 1 ((s10).flatMap e_i64), e94, e95, y254.2.2.2, .r (A303) ((r300.1.Num).length) (c304) 27 1 ((r300.1.Num).flatMap e_u32), .r (A305) ((r300.1.Den).length) (c306) 27 1 ((r300.1.Den).flatMap e_u32), .r (A307) ((r300.2.Num).length) (c308) 27 1 ((r300.2.Num).flatMap e_u32), .r (A309) ((r300.2.Den).length) (c310) 27 1 ((r300.2.Den).flatMap e_u32)] : List Ent)) hs315 (SubE.cons2 (i := 5) rfl (SubE.nil))), Has.len' (Has.up (L := ([.r (y10.1) ((s10).length) (y10.2) 3 1 ((s10).flatMap e_i64), e94, e95, y254.2.2.2, .r (A303) ((r300.1.Num).length) (c304) 27 1 ((r300.1.Num).flatMap e_u32), .r (A305) ((r300.1.Den).length) (c306) 27 1 ((r300.1.Den).flatMap e_u32), .r (A307) ((r300.2.Num).length) (c308) 27 1 ((r300.2.Num).flatMap e_u32), .r (A309) ((r300.2.Den).length) (c310) 27 1 ((r300.2.Den).flatMap e_u32)] : List Ent)) hs317 (SubE.cons2 (i := 6) rfl (SubE.nil))), Has.len' (Has.up (L := ([.r (y10.1) ((s10).length) (y10.2) 3 1 ((s10).flatMap e_i64), e94, e95, y254.2.2.2, .r (A303) ((r300.1.Num).length) (c304) 27 1 ((r300.1.Num).flatMap e_u32), .r (A305) ((r300.1.Den).length) (c306) 27 1 ((r300.1.Den).flatMap e_u32), .r (A307) ((r300.2.Num).length) (c308) 27 1 ((r300.2.Num).flatMap e_u32), .r (A309) ((r300.2.Den).length) (c310) 27 1 ((r300.2.Den).flatMap e_u32)] : List Ent)) hs319 (SubE.cons2 (i := 7) rfl (SubE.nil)))⟩
                obtain ⟨h321, hx322⟩ := gd_some hx302
                refine T_h (Wh_appendP cellsV (y254.1) [(⟨[.int .i64 (x288), .slice (A270) ((x260).length) (c271), .bool (r300.1.Neg), .slice (A303) ((r300.1.Num).length) (c304), .slice (A305) ((r300.1.Den).length) (c306), .bool (r300.2.Neg), .slice (A307) ((r300.2.Num).length) (c308), .slice (A309) ((r300.2.Den).length) (c310)], rfl⟩ : Vec 8)] rfl rfl rfl elm44 (fun x => x.2) (i' := 0) rfl rfl rfl rfl (by have := RowN.len (hr256); have := h321; simp only [List.length_singleton, List.length_nil] at *; omega) rfl (fun _ _ => .there (.there (.there (.there (.there (.there (.there (.here)))))))) (fun _ _ => .drop .refl) (by decide) (fun A323 c324 => ?_))
                refine T_val (Ev_assign rfl) rfl ?_
                refine T_nil ?_
                refine T_inN ?_
                refine T_bundle (es := [.r (A303) ((r300.1.Num).length) (c304) 27 1 ((r300.1.Num).flatMap e_u32), .r (A305) ((r300.1.Den).length) (c306) 27 1 ((r300.1.Den).flatMap e_u32), .r (A307) ((r300.2.Num).length) (c308) 27 1 ((r300.2.Num).flatMap e_u32), .r (A309) ((r300.2.Den).length) (c310) 27 1 ((r300.2.Den).flatMap e_u32)]) (by exact .pick 0 rfl (.pick 0 rfl (.pick 0 rfl (.pick 0 rfl (.refl))))) (loCons rfl (loCons rfl (loCons rfl (loCons rfl (loNil))))) ?_
                have hn329 : (y254.1 ++ [(⟨[.int .i64 (x288), .slice (A270) ((x260).length) (c271), .bool (r300.1.Neg), .slice (A303) ((r300.1.Num).length) (c304), .slice (A305) ((r300.1.Den).length) (c306), .bool (r300.2.Neg), .slice (A307) ((r300.2.Num).length) (c308), .slice (A309) ((r300.2.Den).length) (c310)], rfl⟩ : Vec 8)]).length = (s254.1 ++ [(⟨x288, x260, r300.1, r300.2⟩ : S_api_Region)]).length := RowN.len hr320
                refine T_ent (.there (.there (.there (.here)))) (e' := .r (A323) ((s254.1 ++ [(⟨x288, x260, r300.1, r300.2⟩ : S_api_Region)]).length) (c324) 53 8 ((y254.1 ++ [(⟨[.int .i64 (x288), .slice (A270) ((x260).length) (c271), .bool (r300.1.Neg), .slice (A303) ((r300.1.Num).length) (c304), .slice (A305) ((r300.1.Den).length) (c306), .bool (r300.2.Neg), .slice (A307) ((r300.2.Num).length) (c308), .slice (A309) ((r300.2.Den).length) (c310)], rfl⟩ : Vec 8)]).flatMap cellsV)) (by first | (rw [← hn329]; done) | rfl) ?_
                refine T_slot (s := 12) (v' := .slice (A323) ((s254.1 ++ [(⟨x288, x260, r300.1, r300.2⟩ : S_api_Region)]).length) (c324)) rfl (by have hn330 : ((y254.1 ++ [(⟨[.int .i64 (x288), .slice (A270) ((x260).length) (c271), .bool (r300.1.Neg), .slice (A303) ((r300.1.Num).length) (c304), .slice (A305) ((r300.1.Den).length) (c306), .bool (r300.2.Neg), .slice (A307) ((r300.2.Num).length) (c308), .slice (A309) ((r300.2.Den).length) (c310)], rfl⟩ : Vec 8)]).length) = (s254.1 ++ [(⟨x288, x260, r300.1, r300.2⟩ : S_api_Region)]).length := (RowN.len hr320); first | (rw [← hn330]; done) | rfl) ?_
                exact T_metP (s254.1 ++ [(⟨x288, x260, r300.1, r300.2⟩ : S_api_Region)]) (y254.1 ++ [(⟨[.int .i64 (x288), .slice (A270) ((x260).length) (c271), .bool (r300.1.Neg), .slice (A303) ((r300.1.Num).length) (c304), .slice (A305) ((r300.1.Den).length) (c306), .bool (r300.2.Neg), .slice (A307) ((r300.2.Num).length) (c308), .slice (A309) ((r300.2.Den).length) (c310)], rfl⟩ : Vec 8)], A323, c324, bun [.r (A303) ((r300.1.Num).length) (c304) 27 1 ((r300.1.Num).flatMap e_u32), .r (A305) ((r300.1.Den).length) (c306) 27 1 ((r300.1.Den).flatMap e_u32), .r (A307) ((r300.2.Num).length) (c308) 27 1 ((r300.2.Num).flatMap e_u32), .r (A309) ((r300.2.Den).length) (c310) 27 1 ((r300.2.Den).flatMap e_u32)]) hx322 ((by exact ⟨rfl, (RowN.up (R := n_api_Region) (L := ([.r (y10.1) ((s10).length) (y10.2) 3 1 ((s10).flatMap e_i64), e94, e95, y254.2.2.2, (bun [.r (A303) ((r300.1.Num).length) (c304) 27 1 ((r300.1.Num).flatMap e_u32), .r (A305) ((r300.1.Den).length) (c306) 27 1 ((r300.1.Den).flatMap e_u32), .r (A307) ((r300.2.Num).length) (c308) 27 1 ((r300.2.Num).flatMap e_u32), .r (A309) ((r300.2.Den).length) (c310) 27 1 ((r300.2.Den).flatMap e_u32)])] : List Ent)) n_api_Region_mono hr320 (SubE.cons2 (i := 0) rfl (SubE.cons2 (i := 1) rfl (SubE.cons2 (i := 2) rfl (SubE.cons2 (i := 3) rfl (SubE.consB (i := 4) (j := 0) rfl rfl (SubE.consB (i := 4) (j := 1) rfl rfl (SubE.consB (i := 4) (j := 2) rfl rfl (SubE.consB (i := 4) (j := 3) rfl rfl (SubE.nil)))))))))), trivial⟩)) (by exact .cons rfl (.cons rfl (.cons rfl (.cons rfl (.cons rfl (.cons rfl (.cons rfl (.cons rfl (.nil))))))))) (by exact .pick 0 rfl (.pick 1 rfl (.pick 1 rfl (.pick 1 rfl (.pick 1 rfl (.pick 1 rfl (.pick 1 rfl (.pick 1 rfl (.drop 0 rfl (.refl))))))))))
          · have hx259 := ite_f h257 hx254
            refine T_condF rfl ?_
            refine T_exit ?_
            refine T_outX ?_
            obtain rfl := exit_eq ht254 hx259
            refine T_outX ?_
            refine T_here ?_
            refine T_bundle (es := [e94, e95, y254.2.2.2]) (by exact .pick 2 rfl (.pick 2 rfl (.pick 0 rfl (.refl)))) (loCons lo97 (loCons lo98 (loCons lo255 (loNil)))) ?_
            exact T_metP s254.1 (y254.1, y254.2.1, y254.2.2.1, bun [e94, e95, y254.2.2.2]) ho254 ((by exact ⟨rfl, (RowN.up (R := n_api_Region) (L := ([.r (y10.1) ((s10).length) (y10.2) 3 1 ((s10).flatMap e_i64), (bun [e94, e95, y254.2.2.2])] : List Ent)) n_api_Region_mono hr256 (SubE.cons2 (i := 0) rfl (SubE.consB (i := 1) (j := 0) rfl rfl (SubE.consB (i := 1) (j := 1) rfl rfl (SubE.consB (i := 1) (j := 2) rfl rfl (SubE.nil)))))), trivial⟩)) (by exact .cons rfl (.nil)) (by exact .pick 0 rfl (.pick 0 rfl (.pick 0 rfl (.drop 0 rfl (.drop 0 rfl (.refl))))))
      · skip
        refine T_seq ?_
        refine T_reg ?_
        refine T_val (Ev_move rfl) rfl ?_
        refine T_val (Ev_len rfl 3 Try.underlying34) rfl ?_
        refine T_val (Ev_move rfl) rfl ?_
        refine T_nil ?_
        refine T_next ?_
        refine T_block ?_
        obtain ⟨t51, hl51, ho51⟩ := bnd_some hx14
        refine T_loopP (σ := (List Int) × Int) (γ := (Option Addr) × Nat) hl51 (fun s51 y51 => [(2, .int .i64 (p2)), (3, .pointer (some ⟨g1, 0, none⟩)), (4, .pointer (some ⟨g2, 0, none⟩)), (9, .slice (y51.1) ((s51.1).length) (y51.2)), (27, .slice (y51.1) ((s51.1).length) (y51.2)), (28, .int .i64 ((((r12).length : Nat) : Int))), (29, .int .i64 (s51.2))]) (fun s51 y51 => [.r (y51.1) ((s51.1).length) (y51.2) 3 1 ((s51.1).flatMap e_i64), .m g2 26 [.int .i64 (p1.Raster.X0), .int .i64 (p1.Raster.Y0), .int .i64 (p1.Raster.Step), .int .i64 (p1.Raster.NX), .int .i64 (p1.Raster.NY), .slice (A0_1) ((p1.Cells).length) (c0_1)], .m g1 26 [.int .i64 (p0.Raster.X0), .int .i64 (p0.Raster.Y0), .int .i64 (p0.Raster.Step), .int .i64 (p0.Raster.NX), .int .i64 (p0.Raster.NY), .slice (A0_0) ((p0.Cells).length) (c0_0)]] ++ [.old w]) (fun s51 y51 => True) (A15, c16) trivial (by exact .cons rfl (.cons rfl (.cons rfl (.cons rfl (.cons rfl (.cons rfl (.cons rfl (.nil)))))))) (by exact .pick 0 rfl (.pick 0 rfl (.pick 0 rfl (.refl)))) ?_
        intro s51 y51 hG51 x51 hx51 ht51
        unfold model_Regions_l8 at hx51
        refine T_seq ?_
        refine T_reg ?_
        refine T_val (Ev_lss rfl rfl) rfl ?_
        refine T_nil ?_
        refine T_next ?_
        refine T_seq ?_
        refine T_caseP (s := 30) rfl (fun h52 => ?_) (fun h52 => ?_)
        · have hx53 := ite_t h52 hx51
          refine T_condT rfl ?_
          refine T_skip ?_
          refine T_next ?_
          obtain ⟨j19, hj19, hx53⟩ := jn_some hx53
          refine T_cutP (τ := List Int) (γ := (Option Addr) × Nat) (J := j19) (out := x51) (fun s19 y19 => [(2, .int .i64 (p2)), (3, .pointer (some ⟨g1, 0, none⟩)), (4, .pointer (some ⟨g2, 0, none⟩)), (9, .slice (y19.1) ((s19).length) (y19.2)), (27, .slice (y19.1) ((s19).length) (y19.2)), (28, .int .i64 ((((r12).length : Nat) : Int))), (29, .int .i64 (s51.2))]) (fun s19 y19 => [.r (y19.1) ((s19).length) (y19.2) 3 1 ((s19).flatMap e_i64), .m g2 26 [.int .i64 (p1.Raster.X0), .int .i64 (p1.Raster.Y0), .int .i64 (p1.Raster.Step), .int .i64 (p1.Raster.NX), .int .i64 (p1.Raster.NY), .slice (A0_1) ((p1.Cells).length) (c0_1)], .m g1 26 [.int .i64 (p0.Raster.X0), .int .i64 (p0.Raster.Y0), .int .i64 (p0.Raster.Step), .int .i64 (p0.Raster.NX), .int .i64 (p0.Raster.NY), .slice (A0_0) ((p0.Cells).length) (c0_0)]] ++ [.old w]) (fun s19 y19 => True) ?_ ?_
          · intro s19 y19 hx80 hG81
            subst hj19
            refine T_reg ?_
            refine T_val (Ev_add_w64 rfl rfl) rfl ?_
            refine T_val (Ev_move rfl) rfl ?_
            refine T_nil ?_
            exact T_roundP (s19, w64 (s51.2 + 1)) (y19.1, y19.2) hx80 trivial (by exact .cons rfl (.cons rfl (.cons rfl (.cons rfl (.cons rfl (.cons rfl (.cons rfl (.nil)))))))) (by exact .pick 0 rfl (.pick 0 rfl (.pick 0 rfl (.refl))))
          · skip
            refine T_block ?_
            refine T_seq ?_
            refine T_reg ?_
            refine T_val (Ev_move rfl) rfl ?_
            obtain ⟨x55, h56, hx57⟩ := bnd_some hx53
            refine T_idxR (k := 0) rfl (by decide) (fun _ => rfl) h56 (fun b58 j60 hA61 hj62 hl63 hm65 hp64 => ?_)
            refine T_val (Ev_index rfl rfl hA61 (j := j60) hj62 hl63 slc34) rfl ?_
            refine T_val (Ev_loadP0 rfl hp64 (SubE.cons2 (i := 0) rfl (SubE.nil)) rfl one3) rfl ?_
            refine T_val (Ev_assign rfl) rfl ?_
            refine T_val (Ev_assign rfl) rfl ?_
            refine T_nil ?_
            refine T_next ?_
            refine T_seq ?_
            refine T_reg ?_
            refine T_val (Ev_move rfl) rfl ?_
            refine T_val (Ev_eql rfl rfl) rfl ?_
            refine T_nil ?_
            refine T_next ?_
            refine T_caseP (s := 35) rfl (fun h66 => ?_) (fun h66 => ?_)
            · have hx67 := ite_t h66 hx57
              refine T_condT rfl ?_
              refine T_reg ?_
              refine T_val (Ev_move rfl) rfl ?_
              refine T_val (Ev_move rfl) rfl ?_
              obtain ⟨x68, h69, hx70⟩ := bnd_some hx67
              refine T_idxR (k := 0) rfl (by decide) (fun _ => rfl) h69 (fun b71 j73 hA74 hj75 hl76 hm78 hp77 => ?_)
              refine T_val (Ev_index rfl rfl hA74 (j := j73) hj75 hl76 slc34) rfl ?_
              refine T_h (Wh_storeP e_i64 (s51.1) (s51.2) (0) rfl rfl rfl (.here) hA74 rfl hj75 hl76 (fun _ => rfl) (by decide) rfl one3.2 ?_)
              refine T_nil ?_
              refine T_inN ?_
              have hn82 : (s51.1).length = (setI s51.1 s51.2 0).length := by simp [setI_len, cpy_len, List.length_append] <;> omega
              refine T_ent (.here) (e' := .r (y51.1) ((setI s51.1 s51.2 0).length) (y51.2) 3 1 ((setI s51.1 s51.2 0).flatMap e_i64)) (by first | (rw [← hn82]; done) | rfl) ?_
              refine T_slot (s := 9) (v' := .slice (y51.1) ((setI s51.1 s51.2 0).length) (y51.2)) rfl (by have hn83 : ((s51.1).length) = (setI s51.1 s51.2 0).length := (by simp [setI_len, cpy_len, List.length_append] <;> omega); first | (rw [← hn83]; done) | rfl) ?_
              refine T_slot (s := 27) (v' := .slice (y51.1) ((setI s51.1 s51.2 0).length) (y51.2)) rfl (by have hn84 : ((s51.1).length) = (setI s51.1 s51.2 0).length := (by simp [setI_len, cpy_len, List.length_append] <;> omega); first | (rw [← hn84]; done) | rfl) ?_
              exact T_metP (setI s51.1 s51.2 0) (y51.1, y51.2) hx70 trivial (by exact .cons rfl (.cons rfl (.cons rfl (.cons rfl (.cons rfl (.cons rfl (.cons rfl (.nil)))))))) (by exact .pick 0 rfl (.pick 0 rfl (.pick 0 rfl (.refl))))
            · have hx79 := ite_f h66 hx57
              refine T_condF rfl ?_
              refine T_skip ?_
              refine T_inN ?_
              exact T_metP s51.1 (y51.1, y51.2) hx79 trivial (by exact .cons rfl (.cons rfl (.cons rfl (.cons rfl (.cons rfl (.cons rfl (.cons rfl (.nil)))))))) (by exact .pick 0 rfl (.pick 0 rfl (.pick 0 rfl (.refl))))
        · have hx54 := ite_f h52 hx51
          refine T_condF rfl ?_
          refine T_exit ?_
          refine T_outX ?_
          obtain rfl := exit_eq ht51 hx54
          refine T_outX ?_
          refine T_here ?_
          exact T_metP s51.1 (y51.1, y51.2) ho51 trivial (by exact .cons rfl (.cons rfl (.cons rfl (.cons rfl (.nil))))) (by exact .pick 0 rfl (.pick 0 rfl (.pick 0 rfl (.refl))))
end Go.Proofs.Ytdcdabkoajhllaa
