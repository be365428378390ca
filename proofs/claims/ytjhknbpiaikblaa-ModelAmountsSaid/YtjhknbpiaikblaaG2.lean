/- Walks of the program, with their plain functions: comparisons. -/
import Derived.Test.YtjhknbpiaikblaaG1
namespace Go.Proofs.Ytjhknbpiaikblaa
open Go Go.RowKit
theorem bld41_0b (x0 : Bool) : BuildOf Try.prog 41 [(0, .bool x0)] [.bool x0, .int .i64 (0), .int .i64 (0)] := fun w => by kernel_rfl
theorem bld26_  : BuildOf Try.prog 26 [] [.int .i64 (0), .int .i64 (0), .int .i64 (0), .int .i64 (0), .int .i64 (0), .slice (none) (0) (0)] := fun w => by kernel_rfl
theorem bld26_0ai64i64i64i64i64 (x0 : Int) (x1 : Int) (x2 : Int) (x3 : Int) (x4 : Int) : BuildOf Try.prog 26 [(0, .agg #[.int .i64 x0, .int .i64 x1, .int .i64 x2, .int .i64 x3, .int .i64 x4])] [.int .i64 x0, .int .i64 x1, .int .i64 x2, .int .i64 x3, .int .i64 x4, .slice (none) (0) (0)] := fun w => by kernel_rfl
theorem bls24_1_0abi64i64 (x0 : Bool) (x1 : Int) (x2 : Int) : BuildSliceOf Try.prog 24 1 [(0, .agg #[.bool x0, .int .i64 x1, .int .i64 x2])] 41 [.bool x0, .int .i64 x1, .int .i64 x2] := fun w => by kernel_rfl
theorem elm24 : ElemOf Try.prog 24 41 3 24 := ⟨Try.underlying24, ⟨Try.t41, .agg #[.bool (false), .int .i64 (0), .int .i64 (0)], by kernel_rfl, by kernel_rfl, by kernel_rfl, by kernel_rfl, rfl⟩, by decide⟩
def e_i64 (x : Int) : List Value := [.int .i64 (x)]
theorem e_i64_len (x : Int) : (e_i64 x).length = 1 := rfl
noncomputable def model_states_l3 (p0 : S_api_Grid) (p1 : S_api_Grid) : ((List Int) × Int) → Option (Sum ((List Int) × Int) (List Int)) := fun s43 =>
 if s43.2 < ((((p0.Cells).length : Nat) : Int)) then (bnd (idx p0.Cells s43.2) fun x49 =>
 bnd (idx p1.Cells s43.2) fun x60 =>
 bnd (model_state x49 x60) fun r71 =>
 gd (((s43.1).length + 1) * 8 ≤ 140737488355328) <|
 some (.inl (s43.1 ++ [r71], w64 (s43.2 + 1))))
 else (some (.inr s43.1))
noncomputable def model_states (p0 : S_api_Grid) (p1 : S_api_Grid) : Option (List Int) :=
 gd ((0 : Int) ≤ ((((p0.Cells).length : Nat) : Int)) ∧ 8 * Int.toNat ((((p0.Cells).length : Nat) : Int)) ≤ 140737488355328) <|
 jn (fun (s3 : List Int) =>
 some s3)
 (fun j3 => bnd (lfix (model_states_l3 p0 p1) (([] : List Int), 0)) fun t43 =>
 j3 t43)
noncomputable def model_Compare (p0 : S_api_Grid) (p1 : S_api_Grid) : Option ((List Int) × Int) :=
 bnd (model_pair p0 p1) fun r3 =>
 if r3 = 0 then (bnd (model_states p0 p1) fun r9 =>
 some (r9, 0))
 else (some (([] : List Int), r3))
noncomputable def model_common (p0 : S_api_Cell) (p1 : S_api_Cell) : Option S_api_Cell :=
 if p0.Void = true then (some p1)
 else (if p1.Void = true then (some p0)
 else (bnd (model_state p0 p1) fun r10 =>
 if r10 = 0 then (some (⟨false, (⟨max p0.Z.Lo p1.Z.Lo, min p0.Z.Hi p1.Z.Hi⟩ : S_api_Span)⟩ : S_api_Cell))
 else (some (⟨true, (⟨0, 0⟩ : S_api_Span)⟩ : S_api_Cell))))
noncomputable def model_Common_l6 (p0 : S_api_Grid) (p1 : S_api_Grid) : ((List S_api_Cell) × Int) → Option (Sum ((List S_api_Cell) × Int) (List S_api_Cell)) := fun s46 =>
 if s46.2 < ((((p0.Cells).length : Nat) : Int)) then (bnd (idx p0.Cells s46.2) fun x51 =>
 bnd (idx p1.Cells s46.2) fun x62 =>
 bnd (model_common x51 x62) fun r73 =>
 gd (((s46.1).length + 1) * 24 ≤ 140737488355328) <|
 some (.inl (s46.1 ++ [r73], w64 (s46.2 + 1))))
 else (some (.inr s46.1))
noncomputable def model_Common (p0 : S_api_Grid) (p1 : S_api_Grid) : Option (S_api_Grid × Int) :=
 bnd (model_pair p0 p1) fun r4 =>
 if r4 = 0 then (jn (fun (s7 : List S_api_Cell) =>
 some ((⟨p0.Raster, s7⟩ : S_api_Grid), 0))
 (fun j7 => bnd (lfix (model_Common_l6 p0 p1) (([] : List S_api_Cell), 0)) fun t46 =>
 j7 t46))
 else (some ((⟨(⟨0, 0, 0, 0, 0⟩ : S_api_Raster), ([] : List S_api_Cell)⟩ : S_api_Grid), r4))
noncomputable def lidarref09_State (p0 : S_api_Cell) (p1 : S_api_Cell) : Option Int :=
 jn (fun (s3 : Bool) =>
 if s3 = true then (some 2)
 else (if p0.Z.Hi < p1.Z.Lo then (some 1)
 else (if p1.Z.Hi < p0.Z.Lo then (some (-1))
 else (some 0))))
 (fun j3 => if p0.Void = true then (j3 true)
 else (j3 p1.Void))
noncomputable def lidarref09_Common_l6 (p0 : S_api_Grid) (p1 : S_api_Grid) : ((List S_api_Cell) × Int) → Option (Sum ((List S_api_Cell) × Int) (List S_api_Cell)) := fun s146 =>
 if s146.2 < ((((p0.Cells).length : Nat) : Int)) then (jn (fun (s21 : Bool × Int × Int × Bool × Int × Int) =>
 jn (fun (s23 : Bool × Int × Int) =>
 gd (((s146.1).length + 1) * 24 ≤ 140737488355328) <|
 some (.inl (s146.1 ++ [(⟨s23.1, (⟨s23.2.1, s23.2.2⟩ : S_api_Span)⟩ : S_api_Cell)], w64 (s146.2 + 1))))
 (fun j23 => if s21.1 = true then (j23 (s21.2.2.2.1, s21.2.2.2.2.1, s21.2.2.2.2.2))
 else (if s21.2.2.2.1 = true then (j23 (s21.1, s21.2.1, s21.2.2.1))
 else (bnd (lidarref09_State (⟨s21.1, (⟨s21.2.1, s21.2.2.1⟩ : S_api_Span)⟩ : S_api_Cell) (⟨s21.2.2.2.1, (⟨s21.2.2.2.2.1, s21.2.2.2.2.2⟩ : S_api_Span)⟩ : S_api_Cell)) fun r268 =>
 if r268 = 0 then (j23 (false, max s21.2.1 s21.2.2.2.2.1, min s21.2.2.1 s21.2.2.2.2.2))
 else (j23 (true, 0, 0))))))
 (fun j21 => bnd (idx p0.Cells s146.2) fun x151 =>
 bnd (idx p1.Cells s146.2) fun x162 =>
 j21 (x151.Void, x151.Z.Lo, x151.Z.Hi, x162.Void, x162.Z.Lo, x162.Z.Hi)))
 else (some (.inr s146.1))
noncomputable def lidarref09_Common (p0 : S_api_Grid) (p1 : S_api_Grid) : Option (S_api_Grid × Int) :=
 bnd (lidarref09_Pair p0 p1) fun r4 =>
 if r4 = 0 then (jn (fun (s7 : List S_api_Cell) =>
 some ((⟨p0.Raster, s7⟩ : S_api_Grid), 0))
 (fun j7 => bnd (lfix (lidarref09_Common_l6 p0 p1) (([] : List S_api_Cell), 0)) fun t146 =>
 j7 t146))
 else (some ((⟨(⟨0, 0, 0, 0, 0⟩ : S_api_Raster), ([] : List S_api_Cell)⟩ : S_api_Grid), r4))
noncomputable def model_Consistent_1 (p0 : Int) : Option Bool :=
 jn (fun (s2 : Bool) =>
 some s2)
 (fun j2 => if p0 = 1 then (j2 true)
 else (j2 (decide (p0 = (-1)))))
noncomputable def slices_IndexFunc_69_l2 (p0 : List Int) : Int → Option (Sum Int (Sum Unit Int)) := fun s22 =>
 if s22 < ((((p0).length : Nat) : Int)) then (bnd (idx p0 s22) fun x26 =>
 bnd (model_Consistent_1 x26) fun r37 =>
 if r37 = true then (some (.inr (.inr (s22))))
 else (some (.inl (w64 (s22 + 1)))))
 else (some (.inr (.inl ())))
noncomputable def slices_IndexFunc_69 (p0 : List Int) : Option Int :=
 jn (fun (s2 : Unit) =>
 some (-1))
 (fun j2 => bnd (lfix (slices_IndexFunc_69_l2 p0) 0) fun t22 =>
 (match t22 with
 | (.inl z22) => j2 z22
 | (.inr (z22)) => some z22
 ))
noncomputable def slices_ContainsFunc_69 (p0 : List Int) : Option Bool :=
 bnd (slices_IndexFunc_69 p0) fun r1 =>
 some (decide (0 ≤ r1))
noncomputable def model_Consistent (p0 : S_api_Grid) (p1 : S_api_Grid) : Option (Bool × Int) :=
 bnd (model_pair p0 p1) fun r3 =>
 if r3 = 0 then (bnd (model_states p0 p1) fun r9 =>
 bnd (slices_ContainsFunc_69 r9) fun r16 =>
 some (!(r16), 0))
 else (some (false, r3))
noncomputable def lidarlaw09_ModelCompares_l15 (r20 : (List Int) × Int) (p0 : S_api_Grid) (p1 : S_api_Grid) : (Bool × Int) → Option (Sum (Bool × Int) (Sum Bool Bool)) := fun s129 =>
 if s129.2 < ((((r20.1).length : Nat) : Int)) then (bnd (idx p0.Cells s129.2) fun x133 =>
 bnd (idx p1.Cells s129.2) fun x144 =>
 bnd (lidarref09_State x133 x144) fun r155 =>
 jn (fun (s32 : Bool) =>
 bnd (idx r20.1 s129.2) fun x166 =>
 if x166 = r155 then (some (.inl (s32, w64 (s129.2 + 1))))
 else (some (.inr (.inr (false)))))
 (fun j32 => if s129.1 = true then (if r155 = 1 then (j32 false)
 else (j32 (!(decide (r155 = (-1))))))
 else (j32 false)))
 else (some (.inr (.inl s129.1)))
noncomputable def lidarlaw09_ModelCompares (p0 : S_api_Grid) (p1 : S_api_Grid) : Option Bool :=
 jn (fun (s3 : Bool) =>
 if s3 = true then (bnd (lidarlaw09_first) fun r16 =>
 some r16)
 else (bnd (model_Compare p0 p1) fun r20 =>
 bnd (model_Consistent p0 p1) fun r25 =>
 bnd (model_Common p0 p1) fun r28 =>
 bnd (lidarref09_Common p0 p1) fun r34 =>
 jn (fun (s10 : Bool) =>
 if s10 = true then (some false)
 else (if r34.2 = 0 then (if ((((r20.1).length : Nat) : Int)) = ((((p0.Cells).length : Nat) : Int)) then (jn (fun (s19 : Bool) =>
 jn (fun (s35 : Bool) =>
 some s35)
 (fun j35 => if ((r25.1) == (s19)) = true then (bnd (lidarlaw09_first) fun r184 =>
 j35 r184)
 else (j35 false)))
 (fun j19 => bnd (lfix (lidarlaw09_ModelCompares_l15 r20 p0 p1) (true, 0)) fun t129 =>
 (match t129 with
 | (.inl z129) => j19 z129
 | (.inr (z129)) => some z129
 )))
 else (some false))
 else (jn (fun (s14 : Bool) =>
 some s14)
 (fun j14 => if ((((r20.1).length : Nat) : Int)) = 0 then (if r25.1 = true then (j14 false)
 else (bnd (lidarlaw09_first) fun r67 =>
 j14 r67))
 else (j14 false)))))
 (fun j10 => if r20.2 = r34.2 then (if r25.2 = r34.2 then (if r28.2 = r34.2 then (bnd (lidarlaw09_Same r28.1 r34.1) fun r53 =>
 j10 (!(r53)))
 else (j10 true))
 else (j10 true))
 else (j10 true))))
 (fun j3 => bnd (lidarlaw09_heavy p0) fun r3 =>
 if r3 = true then (j3 true)
 else (bnd (lidarlaw09_heavy p1) fun r9 =>
 j3 r9))
set_option maxRecDepth 100000 in
theorem model_states_ok (p0 : S_api_Grid) (p1 : S_api_Grid) {K : List Ent} {A0_0 : Option Addr} {c0_0 : Nat} {A0_1 : Option Addr} {c0_1 : Nat} (ha0 : Has K A0_0 (p0.Cells).length c0_0 3 e_api_Cell (p0.Cells)) (ha1 : Has K A0_1 (p1.Cells).length c0_1 3 e_api_Cell (p1.Cells)) {r : List Int} (hx : model_states p0 p1 = some r) (w : World) (hK : ∀ e ∈ K, Ent.ok w e) : CtL Try.prog 68 [.agg #[.int .i64 (p0.Raster.X0), .int .i64 (p0.Raster.Y0), .int .i64 (p0.Raster.Step), .int .i64 (p0.Raster.NX), .int .i64 (p0.Raster.NY), .slice (A0_0) ((p0.Cells).length) (c0_0)], .agg #[.int .i64 (p1.Raster.X0), .int .i64 (p1.Raster.Y0), .int .i64 (p1.Raster.Step), .int .i64 (p1.Raster.NX), .int .i64 (p1.Raster.NY), .slice (A0_1) ((p1.Cells).length) (c0_1)]] w fun v Ln => ∃ (A0 : Option Addr) (c0 : Nat), v = .slice (A0) ((r).length) (c0) ∧ Ln = [.r A0 (r).length c0 3 1 ((r).flatMap e_i64)] ∧ True := by
  have ha0' := Has.up0 ha0
  have ha1' := Has.up0 ha1
  refine CtL.mk 33 Try.func68 rfl Try.ntmps68 (by kernel_rfl) rfl ?_
  show T 33 _ [(0, .agg #[.int .i64 (p0.Raster.X0), .int .i64 (p0.Raster.Y0), .int .i64 (p0.Raster.Step), .int .i64 (p0.Raster.NX), .int .i64 (p0.Raster.NY), .slice (A0_0) ((p0.Cells).length) (c0_0)]), (1, .agg #[.int .i64 (p1.Raster.X0), .int .i64 (p1.Raster.Y0), .int .i64 (p1.Raster.Step), .int .i64 (p1.Raster.NX), .int .i64 (p1.Raster.NY), .slice (A0_1) ((p1.Cells).length) (c0_1)])] _
  unfold model_states at hx
  refine T_seq ?_
  refine T_reg ?_
  refine T_x (Wx_box rfl rfl rfl (fun g1 => ?_))
  refine T_x (Wx_box rfl rfl rfl (fun g2 => ?_))
  refine T_val (Ev_assign rfl) rfl ?_
  refine T_nil ?_
  refine T_next ?_
  refine T_seq ?_
  refine T_reg ?_
  refine T_val (Ev_field rfl fld26_1 rfl) rfl ?_
  refine T_val (Ev_load1 rfl (i := 1) rfl rfl one24) rfl ?_
  refine T_val (Ev_len rfl 41 Try.underlying24) rfl ?_
  obtain ⟨h4, hx5⟩ := gd_some hx
  refine T_x (Wx_make0 (z := .int .i64 (0)) rfl rfl (m := Int.toNat ((((p0.Cells).length : Nat) : Int))) rfl (by omega) Try.underlying27 (show Try.prog.info? 3 = some Try.t3 from by kernel_rfl) (by kernel_rfl) rfl (by kernel_rfl) (by show 8 * _ ≤ _; omega) (by omega) rfl (fun A3 c6 => ?_))
  refine T_val (Ev_assign rfl) rfl ?_
  refine T_nil ?_
  refine T_next ?_
  obtain ⟨j3, hj3, hx5⟩ := jn_some hx5
  refine T_cutP (τ := List Int) (γ := (Option Addr) × Nat) (J := j3) (out := r) (fun s3 y3 => [(5, .slice (y3.1) ((s3).length) (y3.2))]) (fun s3 y3 => [.r (y3.1) ((s3).length) (y3.2) 3 1 ((s3).flatMap e_i64)] ++ [.old w]) (fun s3 y3 => True) ?_ ?_
  · intro s3 y3 hx79 hG80
    subst hj3
    refine T_seq ?_
    refine T_reg ?_
    refine T_val (Ev_move rfl) rfl ?_
    refine T_val (Ev_assign rfl) rfl ?_
    refine T_nil ?_
    refine T_next ?_
    refine T_retc ?_
    obtain rfl := Option.some.inj hx79
    exact T_retP (rs := [.tmp 4]) Try.results68 (.tmp rfl (.nil)) (Ln := [.r (y3.1) ((s3).length) (y3.2) 3 1 ((s3).flatMap e_i64)]) ⟨y3.1, y3.2, rfl, rfl, trivial⟩ (loCons rfl (loNil)) (by exact .pick 0 rfl (.refl))
  · skip
    refine T_seq ?_
    refine T_reg ?_
    refine T_val (Ev_field rfl fld26_1 rfl) rfl ?_
    refine T_val (Ev_load1 rfl (i := 2) rfl rfl one24) rfl ?_
    refine T_val (Ev_len rfl 41 Try.underlying24) rfl ?_
    refine T_val (Ev_move rfl) rfl ?_
    refine T_nil ?_
    refine T_next ?_
    refine T_block ?_
    obtain ⟨t43, hl43, ho43⟩ := bnd_some hx5
    have hn44 : 0 = (([] : List Int)).length := by simp [setI_len, cpy_len, List.length_append] <;> omega
    refine T_ent (.here) (e' := .r (A3) ((([] : List Int)).length) (c6) 3 1 ((([] : List Int)).flatMap e_i64)) (by first | (rw [← hn44]; done) | rfl) ?_
    refine T_slot (s := 5) (v' := .slice (A3) ((([] : List Int)).length) (c6)) rfl (by have hn45 : (0) = (([] : List Int)).length := (by simp [setI_len, cpy_len, List.length_append] <;> omega); first | (rw [← hn45]; done) | rfl) ?_
    refine T_loopP (σ := (List Int) × Int) (γ := (Option Addr) × Nat) hl43 (fun s43 y43 => [(2, .pointer (some ⟨g1, 0, none⟩)), (3, .pointer (some ⟨g2, 0, none⟩)), (5, .slice (y43.1) ((s43.1).length) (y43.2)), (13, .int .i64 ((((p0.Cells).length : Nat) : Int))), (14, .int .i64 (s43.2))]) (fun s43 y43 => [.r (y43.1) ((s43.1).length) (y43.2) 3 1 ((s43.1).flatMap e_i64), .m g2 26 [.int .i64 (p1.Raster.X0), .int .i64 (p1.Raster.Y0), .int .i64 (p1.Raster.Step), .int .i64 (p1.Raster.NX), .int .i64 (p1.Raster.NY), .slice (A0_1) ((p1.Cells).length) (c0_1)], .m g1 26 [.int .i64 (p0.Raster.X0), .int .i64 (p0.Raster.Y0), .int .i64 (p0.Raster.Step), .int .i64 (p0.Raster.NX), .int .i64 (p0.Raster.NY), .slice (A0_0) ((p0.Cells).length) (c0_0)]] ++ [.old w]) (fun s43 y43 => True) (A3, c6) trivial (by exact .cons rfl (.cons rfl (.cons rfl (.cons rfl (.cons rfl (.nil)))))) (by exact .pick 0 rfl (.pick 0 rfl (.pick 0 rfl (.refl)))) ?_
    intro s43 y43 hG43 x43 hx43 ht43
    unfold model_states_l3 at hx43
    refine T_seq ?_
    refine T_reg ?_
    refine T_val (Ev_lss rfl rfl) rfl ?_
    refine T_nil ?_
    refine T_next ?_
    refine T_seq ?_
    refine T_caseP (s := 15) rfl (fun h46 => ?_) (fun h46 => ?_)
    · have hx47 := ite_t h46 hx43
      refine T_condT rfl ?_
      refine T_skip ?_
      refine T_next ?_
      refine T_seq ?_
      refine T_block ?_
      refine T_seq ?_
      refine T_reg ?_
      refine T_val (Ev_move rfl) rfl ?_
      refine T_val (Ev_assign rfl) rfl ?_
      refine T_nil ?_
      refine T_next ?_
      refine T_draw [0, 0, 1, 0, 0, 1, 0, 1, 0, 0, 1, 2, 2, 3, 2] [[], [], [1], [], [1, 2, 3], [1, 2, 3, 4], [], [6], [], [6, 7, 8], [6, 7, 8, 9], [1, 2, 3, 4, 5, 6, 7, 8, 9, 10], [1, 2, 3, 4, 5, 6, 7, 8, 9, 10, 11], [0, 1, 2, 3, 4, 5, 6, 7, 8, 9, 10, 11, 12], [0, 1, 2, 3, 4, 5, 6, 7, 8, 9, 10, 11, 12, 13]] (.q 0 (.q 1 (.q 2 (.q 3 (.q 4 (.q 5 (.q 6 (.q 7 (.q 8 (.q 9 (.q 10 (.e 11 (.e 12 (.e 13 (.e 14 (.done) (.stop)) (.stop)) (.stop)) (.stop))))))))))))) mixed (by kernel_rfl) (by kernel_rfl) ?_
      refine P_p rfl rfl (Ev_move rfl) rfl ?_
      refine P_p rfl rfl (Ev_field rfl fld26_1 rfl) rfl ?_
      refine P_q rfl rfl (Ev_load1 rfl (i := 2) rfl rfl one24) rfl ?_
      refine P_p rfl rfl (Ev_move rfl) rfl ?_
      obtain ⟨x49, h50, hx51⟩ := bnd_some hx47
      have hw59 := Has.low (E := []) ha0' hK
      obtain ⟨b52, o53, j54, hA55, hj56, hl57, hp58⟩ := Has.at_idx hw59 h50
      refine P_p rfl rfl (Ev_index rfl rfl hA55 (j := j54) hj56 hl57 slc24) rfl ?_
      refine P_q rfl rfl (Ev_loadPK0 rfl hp58 (SubE.cons2 (i := 3) rfl (SubE.nil)) rfl agg41) rfl ?_
      refine P_p rfl rfl (Ev_field rfl fld26_1 rfl) rfl ?_
      refine P_q rfl rfl (Ev_load1 rfl (i := 1) rfl rfl one24) rfl ?_
      refine P_p rfl rfl (Ev_move rfl) rfl ?_
      obtain ⟨x60, h61, hx62⟩ := bnd_some hx51
      have hw70 := Has.low (E := []) ha1' hK
      obtain ⟨b63, o64, j65, hA66, hj67, hl68, hp69⟩ := Has.at_idx hw70 h61
      refine P_p rfl rfl (Ev_index rfl rfl hA66 (j := j65) hj67 hl68 slc24) rfl ?_
      refine P_q rfl rfl (Ev_loadPK0 rfl hp69 (SubE.cons2 (i := 3) rfl (SubE.nil)) rfl agg41) rfl ?_
      obtain ⟨r71, h72, hx73⟩ := bnd_some hx62
      refine P_x rfl (Wx_callL rfl (fun w1 hw1 => model_state_ok x49 x60  h72 w1) rfl ?_) ?_
      rotate_left; exact P_stop
      rintro _ _ hlo ⟨rfl, rfl, -⟩
      refine T_app0 ?_
      refine P_x rfl (Wx_buildSlice rfl (bls27_1_0i64 _) rfl (fun g74 => ?_)) ?_
      rotate_left; exact P_stop
      obtain ⟨h75, hx76⟩ := gd_some hx73
      refine P_h rfl rfl (Wh_appendP e_i64 (s43.1) [r71] rfl rfl rfl elm27 (fun _ => rfl) (i' := 0) rfl rfl rfl rfl h75 rfl (fun _ _ => .there (.here)) (fun _ _ => .drop .refl) (by decide) (fun A77 c78 => ?_)) ?_
      rotate_left; exact P_stop
      refine P_x rfl (Wx_val (Ev_assign rfl) rfl ?_) ?_
      rotate_left; exact P_stop
      refine P_done ?_
      refine T_inN ?_
      refine T_next ?_
      refine T_reg ?_
      refine T_val (Ev_add_w64 rfl rfl) rfl ?_
      refine T_val (Ev_move rfl) rfl ?_
      refine T_nil ?_
      exact T_roundP (s43.1 ++ [r71], w64 (s43.2 + 1)) (A77, c78) hx76 trivial (by exact .cons rfl (.cons rfl (.cons rfl (.cons rfl (.cons rfl (.nil)))))) (by exact .pick 0 rfl (.pick 0 rfl (.pick 0 rfl (.refl))))
    · have hx48 := ite_f h46 hx43
      refine T_condF rfl ?_
      refine T_exit ?_
      refine T_outX ?_
      obtain rfl := exit_eq ht43 hx48
      refine T_outX ?_
      refine T_here ?_
      exact T_metP s43.1 (y43.1, y43.2) ho43 trivial (by exact .cons rfl (.nil)) (by exact .pick 0 rfl (.drop 0 rfl (.drop 0 rfl (.refl))))
set_option maxRecDepth 100000 in
theorem model_Compare_ok (p0 : S_api_Grid) (p1 : S_api_Grid) {K : List Ent} {A0_0 : Option Addr} {c0_0 : Nat} {A0_1 : Option Addr} {c0_1 : Nat} (ha0 : Has K A0_0 (p0.Cells).length c0_0 3 e_api_Cell (p0.Cells)) (ha1 : Has K A0_1 (p1.Cells).length c0_1 3 e_api_Cell (p1.Cells)) {r : (List Int) × Int} (hx : model_Compare p0 p1 = some r) (w : World) (hK : ∀ e ∈ K, Ent.ok w e) : CtL Try.prog 30 [.agg #[.int .i64 (p0.Raster.X0), .int .i64 (p0.Raster.Y0), .int .i64 (p0.Raster.Step), .int .i64 (p0.Raster.NX), .int .i64 (p0.Raster.NY), .slice (A0_0) ((p0.Cells).length) (c0_0)], .agg #[.int .i64 (p1.Raster.X0), .int .i64 (p1.Raster.Y0), .int .i64 (p1.Raster.Step), .int .i64 (p1.Raster.NX), .int .i64 (p1.Raster.NY), .slice (A0_1) ((p1.Cells).length) (c0_1)]] w fun v Ln => ∃ (A0 : Option Addr) (c0 : Nat), v = .tuple #[.slice (A0) ((r.1).length) (c0), .int .i64 (r.2)] ∧ Ln = [.r A0 (r.1).length c0 3 1 ((r.1).flatMap e_i64)] ∧ True := by
  have ha0' := Has.up0 ha0
  have ha1' := Has.up0 ha1
  refine CtL.mk 16 Try.func30 rfl Try.ntmps30 (by kernel_rfl) rfl ?_
  show T 16 _ [(0, .agg #[.int .i64 (p0.Raster.X0), .int .i64 (p0.Raster.Y0), .int .i64 (p0.Raster.Step), .int .i64 (p0.Raster.NX), .int .i64 (p0.Raster.NY), .slice (A0_0) ((p0.Cells).length) (c0_0)]), (1, .agg #[.int .i64 (p1.Raster.X0), .int .i64 (p1.Raster.Y0), .int .i64 (p1.Raster.Step), .int .i64 (p1.Raster.NX), .int .i64 (p1.Raster.NY), .slice (A0_1) ((p1.Cells).length) (c0_1)])] _
  unfold model_Compare at hx
  refine T_seq ?_
  refine T_reg ?_
  refine T_x (Wx_box rfl rfl rfl (fun g1 => ?_))
  refine T_x (Wx_box rfl rfl rfl (fun g2 => ?_))
  refine T_val (Ev_assign rfl) rfl ?_
  refine T_val (Ev_assign rfl) rfl ?_
  refine T_nil ?_
  refine T_next ?_
  refine T_seq ?_
  refine T_seq ?_
  refine T_reg ?_
  refine T_val (Ev_loadK rfl (i := 1) rfl rfl agg26) rfl ?_
  refine T_val (Ev_loadK rfl (i := 0) rfl rfl agg26) rfl ?_
  obtain ⟨r3, h4, hx5⟩ := bnd_some hx
  refine T_x (Wx_callL rfl (fun w1 hw1 => model_pair_ok p0 p1 (Has.len' ha0') (Has.len' ha1') h4 w1 (okApp (K := K) (K2 := []) hK (by exact (SubE.cons2 (i := 2) rfl (SubE.nil))) (by exact (SubE.nil)) hw1)) rfl ?_)
  rintro _ _ hlo ⟨rfl, rfl, -⟩
  refine T_app0 ?_
  refine T_val (Ev_assign rfl) rfl ?_
  refine T_nil ?_
  refine T_next ?_
  refine T_seq ?_
  refine T_reg ?_
  refine T_val (Ev_move rfl) rfl ?_
  refine T_val (Ev_neq rfl rfl) rfl ?_
  refine T_nil ?_
  refine T_next ?_
  refine T_caseNP (s := 11) rfl (fun h6 => ?_) (fun h6 => ?_)
  · have hx7 := ite_f h6 hx5
    refine T_condT rfl ?_
    refine T_seq ?_
    refine T_reg ?_
    refine T_val (Ev_move rfl) rfl ?_
    refine T_val (Ev_assign rfl) rfl ?_
    refine T_val (Ev_assign rfl) rfl ?_
    refine T_nil ?_
    refine T_next ?_
    refine T_retc ?_
    refine T_outR ?_
    refine T_none 3 1 ?_
    obtain rfl := Option.some.inj hx7
    exact T_retP (rs := [.tmp 4, .tmp 5]) Try.results30 (.tmp rfl (.tmp rfl (.nil))) (Ln := [.r (none) (0) (0) 3 1 ((([] : List Int)).flatMap e_i64)]) ⟨none, 0, rfl, rfl, trivial⟩ (loCons rfl (loNil)) (by exact .pick 0 rfl (.drop 0 rfl (.drop 0 rfl (.refl))))
  · have hx8 := ite_t h6 hx5
    refine T_condF rfl ?_
    refine T_skip ?_
    refine T_next ?_
    refine T_seq ?_
    refine T_reg ?_
    refine T_val (Ev_loadK rfl (i := 1) rfl rfl agg26) rfl ?_
    refine T_val (Ev_loadK rfl (i := 0) rfl rfl agg26) rfl ?_
    obtain ⟨r9, h10, hx11⟩ := bnd_some hx8
    refine T_x (Wx_callL rfl (fun w1 hw1 => model_states_ok p0 p1 (Has.len' ha0') (Has.len' ha1') h10 w1 (okApp (K := K) (K2 := []) hK (by exact (SubE.cons2 (i := 2) rfl (SubE.nil))) (by exact (SubE.nil)) hw1)) rfl ?_)
    rintro _ _ hlo ⟨A12, c13, rfl, rfl, -⟩
    refine T_app1 ?_
    refine T_val (Ev_assign rfl) rfl ?_
    refine T_val (Ev_assign rfl) rfl ?_
    refine T_nil ?_
    refine T_next ?_
    refine T_retc ?_
    obtain rfl := Option.some.inj hx11
    exact T_retP (rs := [.tmp 4, .tmp 5]) Try.results30 (.tmp rfl (.tmp rfl (.nil))) (Ln := [.r (A12) ((r9).length) (c13) 3 1 ((r9).flatMap e_i64)]) ⟨A12, c13, rfl, rfl, trivial⟩ (loCons rfl (loNil)) (by exact .pick 0 rfl (.drop 0 rfl (.drop 0 rfl (.refl))))
set_option maxRecDepth 100000 in
theorem model_common_ok (p0 : S_api_Cell) (p1 : S_api_Cell)  {r : S_api_Cell} (hx : model_common p0 p1 = some r) (w : World) : CtL Try.prog 71 [.agg #[.bool (p0.Void), .int .i64 (p0.Z.Lo), .int .i64 (p0.Z.Hi)], .agg #[.bool (p1.Void), .int .i64 (p1.Z.Lo), .int .i64 (p1.Z.Hi)]] w fun v Ln => v = .agg #[.bool (r.Void), .int .i64 (r.Z.Lo), .int .i64 (r.Z.Hi)] ∧ Ln = [] ∧ True := by
  refine CtL.mk 35 Try.func71 rfl Try.ntmps71 (by kernel_rfl) rfl ?_
  show T 35 _ [(0, .agg #[.bool (p0.Void), .int .i64 (p0.Z.Lo), .int .i64 (p0.Z.Hi)]), (1, .agg #[.bool (p1.Void), .int .i64 (p1.Z.Lo), .int .i64 (p1.Z.Hi)])] _
  unfold model_common at hx
  refine T_seq ?_
  refine T_reg ?_
  refine T_x (Wx_box rfl rfl rfl (fun g1 => ?_))
  refine T_x (Wx_box rfl rfl rfl (fun g2 => ?_))
  refine T_x (Wx_alloc zer41 rfl (fun g3 => ?_))
  refine T_nil ?_
  refine T_next ?_
  refine T_seq ?_
  refine T_block ?_
  refine T_seq ?_
  refine T_reg ?_
  refine T_val (Ev_field rfl fld41_0 rfl) rfl ?_
  refine T_val (Ev_load1 rfl (i := 2) rfl rfl one4) rfl ?_
  refine T_val (Ev_assign rfl) rfl ?_
  refine T_nil ?_
  refine T_next ?_
  refine T_caseB (s := 5) rfl (fun h4 => ?_) (fun h4 => ?_)
  · have hx5 := ite_t h4 hx
    refine T_condT rfl ?_
    refine T_seq ?_
    refine T_reg ?_
    refine T_val (Ev_loadK rfl (i := 1) rfl rfl agg41) rfl ?_
    refine T_h (Wh_store rfl rfl rfl (.here) (.put (.put (.put (.done)))) rfl (List.cons_ne_nil _ _) agg41.2 ?_)
    refine T_nil ?_
    refine T_next ?_
    refine T_retc ?_
    refine T_inR ?_
    refine T_outR ?_
    obtain rfl := Option.some.inj hx5
    exact T_retP (rs := [.cell 4 41]) Try.results71 (.cell rfl (i := 0) rfl rfl agg41 (.nil)) (Ln := []) ⟨rfl, rfl, trivial⟩ (loNil) (by exact .drop 0 rfl (.drop 0 rfl (.drop 0 rfl (.refl))))
  · have hx6 := ite_bf h4 hx
    refine T_condF rfl ?_
    refine T_seq ?_
    refine T_reg ?_
    refine T_val (Ev_field rfl fld41_0 rfl) rfl ?_
    refine T_val (Ev_load1 rfl (i := 1) rfl rfl one4) rfl ?_
    refine T_val (Ev_assign rfl) rfl ?_
    refine T_nil ?_
    refine T_next ?_
    refine T_caseB (s := 9) rfl (fun h7 => ?_) (fun h7 => ?_)
    · have hx8 := ite_t h7 hx6
      refine T_condT rfl ?_
      refine T_seq ?_
      refine T_reg ?_
      refine T_val (Ev_loadK rfl (i := 2) rfl rfl agg41) rfl ?_
      refine T_h (Wh_store rfl rfl rfl (.here) (.put (.put (.put (.done)))) rfl (List.cons_ne_nil _ _) agg41.2 ?_)
      refine T_nil ?_
      refine T_next ?_
      refine T_retc ?_
      refine T_inR ?_
      refine T_outR ?_
      obtain rfl := Option.some.inj hx8
      exact T_retP (rs := [.cell 4 41]) Try.results71 (.cell rfl (i := 0) rfl rfl agg41 (.nil)) (Ln := []) ⟨rfl, rfl, trivial⟩ (loNil) (by exact .drop 0 rfl (.drop 0 rfl (.drop 0 rfl (.refl))))
    · have hx9 := ite_bf h7 hx6
      refine T_condF rfl ?_
      refine T_seq ?_
      refine T_reg ?_
      refine T_val (Ev_loadK rfl (i := 2) rfl rfl agg41) rfl ?_
      refine T_val (Ev_loadK rfl (i := 1) rfl rfl agg41) rfl ?_
      obtain ⟨r10, h11, hx12⟩ := bnd_some hx9
      refine T_x (Wx_callL rfl (fun w1 hw1 => model_state_ok p0 p1  h11 w1) rfl ?_)
      rintro _ _ hlo ⟨rfl, rfl, -⟩
      refine T_app0 ?_
      refine T_val (Ev_eql rfl rfl) rfl ?_
      refine T_val (Ev_assign rfl) rfl ?_
      refine T_nil ?_
      refine T_next ?_
      refine T_caseP (s := 13) rfl (fun h13 => ?_) (fun h13 => ?_)
      · have hx14 := ite_t h13 hx12
        refine T_condT rfl ?_
        refine T_seq ?_
        refine T_reg ?_
        refine T_val (Ev_field rfl fld41_1 rfl) rfl ?_
        refine T_val (Ev_field rfl fld39_0 rfl) rfl ?_
        refine T_val (Ev_load1 rfl (i := 2) rfl rfl one3) rfl ?_
        refine T_val (Ev_field rfl fld41_1 rfl) rfl ?_
        refine T_val (Ev_field rfl fld39_0 rfl) rfl ?_
        refine T_val (Ev_load1 rfl (i := 1) rfl rfl one3) rfl ?_
        refine T_val (Ev_max2 rfl rfl) rfl ?_
        refine T_val (Ev_field rfl fld41_1 rfl) rfl ?_
        refine T_val (Ev_field rfl fld39_1 rfl) rfl ?_
        refine T_val (Ev_load1 rfl (i := 2) rfl rfl one3) rfl ?_
        refine T_val (Ev_field rfl fld41_1 rfl) rfl ?_
        refine T_val (Ev_field rfl fld39_1 rfl) rfl ?_
        refine T_val (Ev_load1 rfl (i := 1) rfl rfl one3) rfl ?_
        refine T_val (Ev_min2 rfl rfl) rfl ?_
        refine T_val (Ev_build rfl (bld39_0i641i64 _ _)) rfl ?_
        refine T_val (Ev_build rfl (bld41_1ai64i64 _ _)) rfl ?_
        refine T_h (Wh_store rfl rfl rfl (.here) (.put (.put (.put (.done)))) rfl (List.cons_ne_nil _ _) agg41.2 ?_)
        refine T_nil ?_
        refine T_next ?_
        refine T_retc ?_
        refine T_inR ?_
        refine T_outR ?_
        obtain rfl := Option.some.inj hx14
        exact T_retP (rs := [.cell 4 41]) Try.results71 (.cell rfl (i := 0) rfl rfl agg41 (.nil)) (Ln := []) ⟨rfl, rfl, trivial⟩ (loNil) (by exact .drop 0 rfl (.drop 0 rfl (.drop 0 rfl (.refl))))
      · have hx15 := ite_f h13 hx12
        refine T_condF rfl ?_
        refine T_skip ?_
        refine T_inN ?_
        refine T_next ?_
        refine T_seq ?_
        refine T_reg ?_
        refine T_val (Ev_build rfl (bld41_0b _)) rfl ?_
        refine T_h (Wh_store rfl rfl rfl (.here) (.put (.put (.put (.done)))) rfl (List.cons_ne_nil _ _) agg41.2 ?_)
        refine T_nil ?_
        refine T_next ?_
        refine T_retc ?_
        obtain rfl := Option.some.inj hx15
        exact T_retP (rs := [.cell 4 41]) Try.results71 (.cell rfl (i := 0) rfl rfl agg41 (.nil)) (Ln := []) ⟨rfl, rfl, trivial⟩ (loNil) (by exact .drop 0 rfl (.drop 0 rfl (.drop 0 rfl (.refl))))
set_option maxRecDepth 100000 in
theorem model_Common_ok (p0 : S_api_Grid) (p1 : S_api_Grid) {K : List Ent} {A0_0 : Option Addr} {c0_0 : Nat} {A0_1 : Option Addr} {c0_1 : Nat} (ha0 : Has K A0_0 (p0.Cells).length c0_0 3 e_api_Cell (p0.Cells)) (ha1 : Has K A0_1 (p1.Cells).length c0_1 3 e_api_Cell (p1.Cells)) {r : S_api_Grid × Int} (hx : model_Common p0 p1 = some r) (w : World) (hK : ∀ e ∈ K, Ent.ok w e) : CtL Try.prog 32 [.agg #[.int .i64 (p0.Raster.X0), .int .i64 (p0.Raster.Y0), .int .i64 (p0.Raster.Step), .int .i64 (p0.Raster.NX), .int .i64 (p0.Raster.NY), .slice (A0_0) ((p0.Cells).length) (c0_0)], .agg #[.int .i64 (p1.Raster.X0), .int .i64 (p1.Raster.Y0), .int .i64 (p1.Raster.Step), .int .i64 (p1.Raster.NX), .int .i64 (p1.Raster.NY), .slice (A0_1) ((p1.Cells).length) (c0_1)]] w fun v Ln => ∃ (A0 : Option Addr) (c0 : Nat), v = .tuple #[.agg #[.int .i64 (r.1.Raster.X0), .int .i64 (r.1.Raster.Y0), .int .i64 (r.1.Raster.Step), .int .i64 (r.1.Raster.NX), .int .i64 (r.1.Raster.NY), .slice (A0) ((r.1.Cells).length) (c0)], .int .i64 (r.2)] ∧ Ln = [.r A0 (r.1.Cells).length c0 41 3 ((r.1.Cells).flatMap e_api_Cell)] ∧ True := by
  have ha0' := Has.up0 ha0
  have ha1' := Has.up0 ha1
  refine CtL.mk 43 Try.func32 rfl Try.ntmps32 (by kernel_rfl) rfl ?_
  show T 43 _ [(0, .agg #[.int .i64 (p0.Raster.X0), .int .i64 (p0.Raster.Y0), .int .i64 (p0.Raster.Step), .int .i64 (p0.Raster.NX), .int .i64 (p0.Raster.NY), .slice (A0_0) ((p0.Cells).length) (c0_0)]), (1, .agg #[.int .i64 (p1.Raster.X0), .int .i64 (p1.Raster.Y0), .int .i64 (p1.Raster.Step), .int .i64 (p1.Raster.NX), .int .i64 (p1.Raster.NY), .slice (A0_1) ((p1.Cells).length) (c0_1)])] _
  unfold model_Common at hx
  refine T_seq ?_
  refine T_reg ?_
  refine T_x (Wx_box rfl rfl rfl (fun g1 => ?_))
  refine T_x (Wx_box rfl rfl rfl (fun g2 => ?_))
  refine T_x (Wx_alloc zer26 rfl (fun g3 => ?_))
  refine T_val (Ev_assign rfl) rfl ?_
  refine T_nil ?_
  refine T_next ?_
  refine T_seq ?_
  refine T_seq ?_
  refine T_reg ?_
  refine T_val (Ev_loadK rfl (i := 2) rfl rfl agg26) rfl ?_
  refine T_val (Ev_loadK rfl (i := 1) rfl rfl agg26) rfl ?_
  obtain ⟨r4, h5, hx6⟩ := bnd_some hx
  refine T_x (Wx_callL rfl (fun w1 hw1 => model_pair_ok p0 p1 (Has.len' ha0') (Has.len' ha1') h5 w1 (okApp (K := K) (K2 := []) hK (by exact (SubE.cons2 (i := 3) rfl (SubE.nil))) (by exact (SubE.nil)) hw1)) rfl ?_)
  rintro _ _ hlo ⟨rfl, rfl, -⟩
  refine T_app0 ?_
  refine T_val (Ev_assign rfl) rfl ?_
  refine T_nil ?_
  refine T_next ?_
  refine T_seq ?_
  refine T_reg ?_
  refine T_val (Ev_move rfl) rfl ?_
  refine T_val (Ev_neq rfl rfl) rfl ?_
  refine T_nil ?_
  refine T_next ?_
  refine T_caseNP (s := 13) rfl (fun h7 => ?_) (fun h7 => ?_)
  · have hx8 := ite_f h7 hx6
    refine T_condT rfl ?_
    refine T_seq ?_
    refine T_reg ?_
    refine T_val (Ev_build rfl (bld26_)) rfl ?_
    refine T_val (Ev_move rfl) rfl ?_
    refine T_h (Wh_store rfl rfl rfl (.here) (.put (.put (.put (.put (.put (.put (.done))))))) rfl (List.cons_ne_nil _ _) agg26.2 ?_)
    refine T_val (Ev_assign rfl) rfl ?_
    refine T_nil ?_
    refine T_next ?_
    refine T_retc ?_
    refine T_outR ?_
    refine T_none 41 3 ?_
    obtain rfl := Option.some.inj hx8
    exact T_retP (rs := [.cell 4 26, .tmp 5]) Try.results32 (.cell rfl (i := 1) rfl rfl agg26 (.tmp rfl (.nil))) (Ln := [.r (none) (0) (0) 41 3 ((([] : List S_api_Cell)).flatMap e_api_Cell)]) ⟨none, 0, rfl, rfl, trivial⟩ (loCons rfl (loNil)) (by exact .pick 0 rfl (.drop 0 rfl (.drop 0 rfl (.drop 0 rfl (.refl)))))
  · have hx9 := ite_t h7 hx6
    refine T_condF rfl ?_
    refine T_skip ?_
    refine T_next ?_
    refine T_seq ?_
    refine T_reg ?_
    refine T_val (Ev_field rfl fld26_0 rfl) rfl ?_
    refine T_val (Ev_loadK rfl (i := 2) rfl rfl agg23) rfl ?_
    refine T_val (Ev_build rfl (bld26_0ai64i64i64i64i64 _ _ _ _ _)) rfl ?_
    refine T_x (Wx_alloc zer26 rfl (fun g10 => ?_))
    refine T_h (Wh_store rfl rfl rfl (.here) (.put (.put (.put (.put (.put (.put (.done))))))) rfl (List.cons_ne_nil _ _) agg26.2 ?_)
    refine T_nil ?_
    refine T_next ?_
    obtain ⟨j7, hj7, hx9⟩ := jn_some hx9
    refine T_cutP (τ := List S_api_Cell) (γ := (Option Addr) × Nat) (J := j7) (out := r) (fun s7 y7 => [(4, .pointer (some ⟨g3, 0, none⟩)), (7, .pointer (some ⟨g10, 0, none⟩))]) (fun s7 y7 => [.r (y7.1) ((s7).length) (y7.2) 41 3 ((s7).flatMap e_api_Cell), .m g10 26 [.int .i64 (p0.Raster.X0), .int .i64 (p0.Raster.Y0), .int .i64 (p0.Raster.Step), .int .i64 (p0.Raster.NX), .int .i64 (p0.Raster.NY), .slice (y7.1) ((s7).length) (y7.2)], .m g3 26 [.int .i64 (0), .int .i64 (0), .int .i64 (0), .int .i64 (0), .int .i64 (0), .slice (none) (0) (0)]] ++ [.old w]) (fun s7 y7 => True) ?_ ?_
    · intro s7 y7 hx81 hG82
      subst hj7
      refine T_seq ?_
      refine T_reg ?_
      refine T_val (Ev_loadK rfl (i := 1) rfl rfl agg26) rfl ?_
      refine T_h (Wh_store rfl rfl rfl (.there (.there (.here))) (.put (.put (.put (.put (.put (.put (.done))))))) rfl (List.cons_ne_nil _ _) agg26.2 ?_)
      refine T_val (Ev_assign rfl) rfl ?_
      refine T_nil ?_
      refine T_next ?_
      refine T_retc ?_
      obtain rfl := Option.some.inj hx81
      exact T_retP (rs := [.cell 4 26, .tmp 5]) Try.results32 (.cell rfl (i := 2) rfl rfl agg26 (.tmp rfl (.nil))) (Ln := [.r (y7.1) ((s7).length) (y7.2) 41 3 ((s7).flatMap e_api_Cell)]) ⟨y7.1, y7.2, rfl, rfl, trivial⟩ (loCons rfl (loNil)) (by exact .pick 0 rfl (.drop 0 rfl (.drop 0 rfl (.refl))))
    · skip
      refine T_seq ?_
      refine T_reg ?_
      refine T_val (Ev_field rfl fld26_1 rfl) rfl ?_
      refine T_val (Ev_load1 rfl (i := 3) rfl rfl one24) rfl ?_
      refine T_val (Ev_len rfl 41 Try.underlying24) rfl ?_
      refine T_val (Ev_move rfl) rfl ?_
      refine T_nil ?_
      refine T_next ?_
      refine T_block ?_
      obtain ⟨t46, hl46, ho46⟩ := bnd_some hx9
      refine T_none 41 3 ?_
      have hn47 : 0 = (([] : List S_api_Cell)).length := by simp [setI_len, cpy_len, List.length_append] <;> omega
      refine T_ent (.here) (e' := .r (none) ((([] : List S_api_Cell)).length) (0) 41 3 ((([] : List S_api_Cell)).flatMap e_api_Cell)) (by first | (rw [← hn47]; done) | rfl) ?_
      refine T_loopP (σ := (List S_api_Cell) × Int) (γ := (Option Addr) × Nat) hl46 (fun s46 y46 => [(2, .pointer (some ⟨g1, 0, none⟩)), (3, .pointer (some ⟨g2, 0, none⟩)), (4, .pointer (some ⟨g3, 0, none⟩)), (7, .pointer (some ⟨g10, 0, none⟩)), (21, .int .i64 ((((p0.Cells).length : Nat) : Int))), (22, .int .i64 (s46.2))]) (fun s46 y46 => [.r (y46.1) ((s46.1).length) (y46.2) 41 3 ((s46.1).flatMap e_api_Cell), .m g10 26 [.int .i64 (p0.Raster.X0), .int .i64 (p0.Raster.Y0), .int .i64 (p0.Raster.Step), .int .i64 (p0.Raster.NX), .int .i64 (p0.Raster.NY), .slice (y46.1) ((s46.1).length) (y46.2)], .m g3 26 [.int .i64 (0), .int .i64 (0), .int .i64 (0), .int .i64 (0), .int .i64 (0), .slice (none) (0) (0)], .m g2 26 [.int .i64 (p1.Raster.X0), .int .i64 (p1.Raster.Y0), .int .i64 (p1.Raster.Step), .int .i64 (p1.Raster.NX), .int .i64 (p1.Raster.NY), .slice (A0_1) ((p1.Cells).length) (c0_1)], .m g1 26 [.int .i64 (p0.Raster.X0), .int .i64 (p0.Raster.Y0), .int .i64 (p0.Raster.Step), .int .i64 (p0.Raster.NX), .int .i64 (p0.Raster.NY), .slice (A0_0) ((p0.Cells).length) (c0_0)]] ++ [.old w]) (fun s46 y46 => True) (none, 0) trivial (by exact .cons rfl (.cons rfl (.cons rfl (.cons rfl (.cons rfl (.cons rfl (.nil))))))) (by exact .pick 0 rfl (.pick 0 rfl (.pick 0 rfl (.pick 0 rfl (.pick 0 rfl (.refl)))))) ?_
      intro s46 y46 hG46 x46 hx46 ht46
      unfold model_Common_l6 at hx46
      refine T_seq ?_
      refine T_reg ?_
      refine T_val (Ev_lss rfl rfl) rfl ?_
      refine T_nil ?_
      refine T_next ?_
      refine T_seq ?_
      refine T_caseP (s := 23) rfl (fun h48 => ?_) (fun h48 => ?_)
      · have hx49 := ite_t h48 hx46
        refine T_condT rfl ?_
        refine T_skip ?_
        refine T_next ?_
        refine T_seq ?_
        refine T_block ?_
        refine T_seq ?_
        refine T_reg ?_
        refine T_val (Ev_move rfl) rfl ?_
        refine T_val (Ev_assign rfl) rfl ?_
        refine T_nil ?_
        refine T_next ?_
        refine T_draw [0, 1, 0, 1, 0, 0, 1, 0, 1, 0, 0, 1, 2, 2, 3, 0, 3] [[], [0], [], [2], [], [2, 3, 4], [2, 3, 4, 5], [], [7], [], [7, 8, 9], [7, 8, 9, 10], [2, 3, 4, 5, 6, 7, 8, 9, 10, 11], [2, 3, 4, 5, 6, 7, 8, 9, 10, 11, 12], [0, 1, 2, 3, 4, 5, 6, 7, 8, 9, 10, 11, 12, 13], [0, 1, 2, 3, 4, 5, 6, 7, 8, 9, 10, 11, 12, 13, 14], [0, 1, 2, 3, 4, 5, 6, 7, 8, 9, 10, 11, 12, 13, 14, 15]] (.q 0 (.q 1 (.q 2 (.q 3 (.q 4 (.q 5 (.q 6 (.q 7 (.q 8 (.q 9 (.q 10 (.q 11 (.e 12 (.e 13 (.e 14 (.q 15 (.e 16 (.done) (.stop))) (.stop)) (.stop)) (.stop)))))))))))))) mixed (by kernel_rfl) (by kernel_rfl) ?_
        refine P_p rfl rfl (Ev_field rfl fld26_1 rfl) rfl ?_
        refine P_q rfl rfl (Ev_load1 rfl (i := 1) rfl rfl one24) rfl ?_
        refine P_p rfl rfl (Ev_field rfl fld26_1 rfl) rfl ?_
        refine P_q rfl rfl (Ev_load1 rfl (i := 4) rfl rfl one24) rfl ?_
        refine P_p rfl rfl (Ev_move rfl) rfl ?_
        obtain ⟨x51, h52, hx53⟩ := bnd_some hx49
        have hw61 := Has.low (E := []) ha0' hK
        obtain ⟨b54, o55, j56, hA57, hj58, hl59, hp60⟩ := Has.at_idx hw61 h52
        refine P_p rfl rfl (Ev_index rfl rfl hA57 (j := j56) hj58 hl59 slc24) rfl ?_
        refine P_q rfl rfl (Ev_loadPK0 rfl hp60 (SubE.cons2 (i := 5) rfl (SubE.nil)) rfl agg41) rfl ?_
        refine P_p rfl rfl (Ev_field rfl fld26_1 rfl) rfl ?_
        refine P_q rfl rfl (Ev_load1 rfl (i := 3) rfl rfl one24) rfl ?_
        refine P_p rfl rfl (Ev_move rfl) rfl ?_
        obtain ⟨x62, h63, hx64⟩ := bnd_some hx53
        have hw72 := Has.low (E := []) ha1' hK
        obtain ⟨b65, o66, j67, hA68, hj69, hl70, hp71⟩ := Has.at_idx hw72 h63
        refine P_p rfl rfl (Ev_index rfl rfl hA68 (j := j67) hj69 hl70 slc24) rfl ?_
        refine P_q rfl rfl (Ev_loadPK0 rfl hp71 (SubE.cons2 (i := 5) rfl (SubE.nil)) rfl agg41) rfl ?_
        obtain ⟨r73, h74, hx75⟩ := bnd_some hx64
        refine P_x rfl (Wx_callL rfl (fun w1 hw1 => model_common_ok x51 x62  h74 w1) rfl ?_) ?_
        rotate_left; exact P_stop
        rintro _ _ hlo ⟨rfl, rfl, -⟩
        refine T_app0 ?_
        refine P_x rfl (Wx_buildSlice rfl (bls24_1_0abi64i64 _ _ _) rfl (fun g76 => ?_)) ?_
        rotate_left; exact P_stop
        obtain ⟨h77, hx78⟩ := gd_some hx75
        refine P_h rfl rfl (Wh_appendP e_api_Cell (s46.1) [r73] rfl rfl rfl elm24 (fun _ => rfl) (i' := 0) rfl rfl rfl rfl h77 rfl (fun _ _ => .there (.here)) (fun _ _ => .drop .refl) (by decide) (fun A79 c80 => ?_)) ?_
        rotate_left; exact P_stop
        refine P_p rfl rfl (Ev_field rfl fld26_1 rfl) rfl ?_
        refine P_h rfl rfl (Wh_store rfl rfl rfl (.there (.here)) (.skip (.skip (.skip (.skip (.skip (.put (.done))))))) rfl (List.cons_ne_nil _ _) one24.2 ?_) ?_
        rotate_left; exact P_stop
        refine P_done ?_
        refine T_inN ?_
        refine T_next ?_
        refine T_reg ?_
        refine T_val (Ev_add_w64 rfl rfl) rfl ?_
        refine T_val (Ev_move rfl) rfl ?_
        refine T_nil ?_
        exact T_roundP (s46.1 ++ [r73], w64 (s46.2 + 1)) (A79, c80) hx78 trivial (by exact .cons rfl (.cons rfl (.cons rfl (.cons rfl (.cons rfl (.cons rfl (.nil))))))) (by exact .pick 0 rfl (.pick 0 rfl (.pick 0 rfl (.pick 0 rfl (.pick 0 rfl (.refl))))))
      · have hx50 := ite_f h48 hx46
        refine T_condF rfl ?_
        refine T_exit ?_
        refine T_outX ?_
        obtain rfl := exit_eq ht46 hx50
        refine T_outX ?_
        refine T_here ?_
        exact T_metP s46.1 (y46.1, y46.2) ho46 trivial (by exact .cons rfl (.cons rfl (.nil))) (by exact .pick 0 rfl (.pick 0 rfl (.pick 0 rfl (.drop 0 rfl (.drop 0 rfl (.refl))))))
set_option maxRecDepth 100000 in
theorem lidarref09_State_ok (p0 : S_api_Cell) (p1 : S_api_Cell)  {r : Int} (hx : lidarref09_State p0 p1 = some r) (w : World) : CtL Try.prog 35 [.agg #[.bool (p0.Void), .int .i64 (p0.Z.Lo), .int .i64 (p0.Z.Hi)], .agg #[.bool (p1.Void), .int .i64 (p1.Z.Lo), .int .i64 (p1.Z.Hi)]] w fun v Ln => v = .int .i64 (r) ∧ Ln = [] ∧ True := by
  refine CtL.mk 28 Try.func35 rfl Try.ntmps35 (by kernel_rfl) rfl ?_
  show T 28 _ [(0, .agg #[.bool (p0.Void), .int .i64 (p0.Z.Lo), .int .i64 (p0.Z.Hi)]), (1, .agg #[.bool (p1.Void), .int .i64 (p1.Z.Lo), .int .i64 (p1.Z.Hi)])] _
  unfold lidarref09_State at hx
  refine T_seq ?_
  refine T_reg ?_
  refine T_x (Wx_box rfl rfl rfl (fun g1 => ?_))
  refine T_x (Wx_box rfl rfl rfl (fun g2 => ?_))
  refine T_val (Ev_assign rfl) rfl ?_
  refine T_nil ?_
  refine T_next ?_
  refine T_seq ?_
  refine T_block ?_
  obtain ⟨j3, hj3, hx⟩ := jn_some hx
  refine T_cutP (τ := Bool) (γ := Unit) (J := j3) (out := r) (fun s3 y3 => [(2, .pointer (some ⟨g1, 0, none⟩)), (3, .pointer (some ⟨g2, 0, none⟩)), (5, .bool (s3))]) (fun s3 y3 => [.m g2 41 [.bool (p1.Void), .int .i64 (p1.Z.Lo), .int .i64 (p1.Z.Hi)], .m g1 41 [.bool (p0.Void), .int .i64 (p0.Z.Lo), .int .i64 (p0.Z.Hi)]] ++ [.old w]) (fun s3 y3 => True) ?_ ?_
  · intro s3 y3 hx6 hG7
    subst hj3
    refine T_caseB (s := 5) rfl (fun h8 => ?_) (fun h8 => ?_)
    · have hx9 := ite_t h8 hx6
      refine T_condT rfl ?_
      refine T_seq ?_
      refine T_reg ?_
      refine T_val (Ev_assign rfl) rfl ?_
      refine T_nil ?_
      refine T_next ?_
      refine T_retc ?_
      refine T_inR ?_
      refine T_outR ?_
      obtain rfl := Option.some.inj hx9
      exact T_retP (rs := [.tmp 4]) Try.results35 (.tmp rfl (.nil)) (Ln := []) ⟨rfl, rfl, trivial⟩ (loNil) (by exact .drop 0 rfl (.drop 0 rfl (.refl)))
    · have hx10 := ite_bf h8 hx6
      refine T_condF rfl ?_
      refine T_seq ?_
      refine T_reg ?_
      refine T_val (Ev_field rfl fld41_1 rfl) rfl ?_
      refine T_val (Ev_field rfl fld39_0 rfl) rfl ?_
      refine T_val (Ev_load1 rfl (i := 0) rfl rfl one3) rfl ?_
      refine T_val (Ev_field rfl fld41_1 rfl) rfl ?_
      refine T_val (Ev_field rfl fld39_1 rfl) rfl ?_
      refine T_val (Ev_load1 rfl (i := 1) rfl rfl one3) rfl ?_
      refine T_val (Ev_gtr rfl rfl) rfl ?_
      refine T_val (Ev_assign rfl) rfl ?_
      refine T_nil ?_
      refine T_next ?_
      refine T_caseP (s := 12) rfl (fun h11 => ?_) (fun h11 => ?_)
      · have hx12 := ite_t h11 hx10
        refine T_condT rfl ?_
        refine T_seq ?_
        refine T_reg ?_
        refine T_val (Ev_assign rfl) rfl ?_
        refine T_nil ?_
        refine T_next ?_
        refine T_retc ?_
        refine T_inR ?_
        refine T_outR ?_
        obtain rfl := Option.some.inj hx12
        exact T_retP (rs := [.tmp 4]) Try.results35 (.tmp rfl (.nil)) (Ln := []) ⟨rfl, rfl, trivial⟩ (loNil) (by exact .drop 0 rfl (.drop 0 rfl (.refl)))
      · have hx13 := ite_f h11 hx10
        refine T_condF rfl ?_
        refine T_seq ?_
        refine T_reg ?_
        refine T_val (Ev_field rfl fld41_1 rfl) rfl ?_
        refine T_val (Ev_field rfl fld39_1 rfl) rfl ?_
        refine T_val (Ev_load1 rfl (i := 0) rfl rfl one3) rfl ?_
        refine T_val (Ev_field rfl fld41_1 rfl) rfl ?_
        refine T_val (Ev_field rfl fld39_0 rfl) rfl ?_
        refine T_val (Ev_load1 rfl (i := 1) rfl rfl one3) rfl ?_
        refine T_val (Ev_lss rfl rfl) rfl ?_
        refine T_val (Ev_assign rfl) rfl ?_
        refine T_nil ?_
        refine T_next ?_
        refine T_caseP (s := 20) rfl (fun h14 => ?_) (fun h14 => ?_)
        · have hx15 := ite_t h14 hx13
          refine T_condT rfl ?_
          refine T_seq ?_
          refine T_reg ?_
          refine T_val (Ev_assign rfl) rfl ?_
          refine T_nil ?_
          refine T_next ?_
          refine T_retc ?_
          refine T_inR ?_
          refine T_outR ?_
          obtain rfl := Option.some.inj hx15
          exact T_retP (rs := [.tmp 4]) Try.results35 (.tmp rfl (.nil)) (Ln := []) ⟨rfl, rfl, trivial⟩ (loNil) (by exact .drop 0 rfl (.drop 0 rfl (.refl)))
        · have hx16 := ite_f h14 hx13
          refine T_condF rfl ?_
          refine T_skip ?_
          refine T_inN ?_
          refine T_next ?_
          refine T_seq ?_
          refine T_reg ?_
          refine T_val (Ev_assign rfl) rfl ?_
          refine T_nil ?_
          refine T_next ?_
          refine T_retc ?_
          obtain rfl := Option.some.inj hx16
          exact T_retP (rs := [.tmp 4]) Try.results35 (.tmp rfl (.nil)) (Ln := []) ⟨rfl, rfl, trivial⟩ (loNil) (by exact .drop 0 rfl (.drop 0 rfl (.refl)))
  · skip
    refine T_reg ?_
    refine T_val (Ev_field rfl fld41_0 rfl) rfl ?_
    refine T_val (Ev_load1 rfl (i := 1) rfl rfl one4) rfl ?_
    refine T_val (Ev_move rfl) rfl ?_
    refine T_caseB (s := 8) rfl (fun h3 => ?_) (fun h3 => ?_)
    · have hx4 := ite_t h3 hx
      refine T_skipG rfl rfl rfl rfl rfl ?_
      refine T_skipG rfl rfl rfl rfl rfl ?_
      refine T_val (Ev_pickT rfl rfl) rfl ?_
      refine T_val (Ev_assign rfl) rfl ?_
      refine T_nil ?_
      exact T_metP true () hx4 trivial (by exact .cons rfl (.cons rfl (.cons rfl (.nil)))) (by exact .pick 0 rfl (.pick 0 rfl (.refl)))
    · have hx5 := ite_bf h3 hx
      refine T_valG rfl rfl rfl (Ev_field rfl fld41_0 rfl) rfl ?_
      refine T_valG rfl rfl rfl (Ev_load1 rfl (i := 0) rfl rfl one4) rfl ?_
      refine T_val (Ev_pickF rfl rfl) rfl ?_
      refine T_val (Ev_assign rfl) rfl ?_
      refine T_nil ?_
      exact T_metP p1.Void () hx5 trivial (by exact .cons rfl (.cons rfl (.cons rfl (.nil)))) (by exact .pick 0 rfl (.pick 0 rfl (.refl)))
set_option maxRecDepth 100000 in
theorem lidarref09_Common_ok (p0 : S_api_Grid) (p1 : S_api_Grid) {K : List Ent} {A0_0 : Option Addr} {c0_0 : Nat} {A0_1 : Option Addr} {c0_1 : Nat} (ha0 : Has K A0_0 (p0.Cells).length c0_0 3 e_api_Cell (p0.Cells)) (ha1 : Has K A0_1 (p1.Cells).length c0_1 3 e_api_Cell (p1.Cells)) {r : S_api_Grid × Int} (hx : lidarref09_Common p0 p1 = some r) (w : World) (hK : ∀ e ∈ K, Ent.ok w e) : CtL Try.prog 33 [.agg #[.int .i64 (p0.Raster.X0), .int .i64 (p0.Raster.Y0), .int .i64 (p0.Raster.Step), .int .i64 (p0.Raster.NX), .int .i64 (p0.Raster.NY), .slice (A0_0) ((p0.Cells).length) (c0_0)], .agg #[.int .i64 (p1.Raster.X0), .int .i64 (p1.Raster.Y0), .int .i64 (p1.Raster.Step), .int .i64 (p1.Raster.NX), .int .i64 (p1.Raster.NY), .slice (A0_1) ((p1.Cells).length) (c0_1)]] w fun v Ln => ∃ (A0 : Option Addr) (c0 : Nat), v = .tuple #[.agg #[.int .i64 (r.1.Raster.X0), .int .i64 (r.1.Raster.Y0), .int .i64 (r.1.Raster.Step), .int .i64 (r.1.Raster.NX), .int .i64 (r.1.Raster.NY), .slice (A0) ((r.1.Cells).length) (c0)], .int .i64 (r.2)] ∧ Ln = [.r A0 (r.1.Cells).length c0 41 3 ((r.1.Cells).flatMap e_api_Cell)] ∧ True := by
  have ha0' := Has.up0 ha0
  have ha1' := Has.up0 ha1
  refine CtL.mk 76 Try.func33 rfl Try.ntmps33 (by kernel_rfl) rfl ?_
  show T 76 _ [(0, .agg #[.int .i64 (p0.Raster.X0), .int .i64 (p0.Raster.Y0), .int .i64 (p0.Raster.Step), .int .i64 (p0.Raster.NX), .int .i64 (p0.Raster.NY), .slice (A0_0) ((p0.Cells).length) (c0_0)]), (1, .agg #[.int .i64 (p1.Raster.X0), .int .i64 (p1.Raster.Y0), .int .i64 (p1.Raster.Step), .int .i64 (p1.Raster.NX), .int .i64 (p1.Raster.NY), .slice (A0_1) ((p1.Cells).length) (c0_1)])] _
  unfold lidarref09_Common at hx
  refine T_seq ?_
  refine T_reg ?_
  refine T_x (Wx_box rfl rfl rfl (fun g1 => ?_))
  refine T_x (Wx_box rfl rfl rfl (fun g2 => ?_))
  refine T_x (Wx_alloc zer26 rfl (fun g3 => ?_))
  refine T_val (Ev_assign rfl) rfl ?_
  refine T_nil ?_
  refine T_next ?_
  refine T_seq ?_
  refine T_seq ?_
  refine T_reg ?_
  refine T_val (Ev_loadK rfl (i := 2) rfl rfl agg26) rfl ?_
  refine T_val (Ev_loadK rfl (i := 1) rfl rfl agg26) rfl ?_
  obtain ⟨r4, h5, hx6⟩ := bnd_some hx
  refine T_x (Wx_callL rfl (fun w1 hw1 => lidarref09_Pair_ok p0 p1 (Has.len' ha0') (Has.len' ha1') h5 w1 (okApp (K := K) (K2 := []) hK (by exact (SubE.cons2 (i := 3) rfl (SubE.nil))) (by exact (SubE.nil)) hw1)) rfl ?_)
  rintro _ _ hlo ⟨rfl, rfl, -⟩
  refine T_app0 ?_
  refine T_val (Ev_assign rfl) rfl ?_
  refine T_nil ?_
  refine T_next ?_
  refine T_seq ?_
  refine T_reg ?_
  refine T_val (Ev_move rfl) rfl ?_
  refine T_val (Ev_neq rfl rfl) rfl ?_
  refine T_nil ?_
  refine T_next ?_
  refine T_caseNP (s := 16) rfl (fun h7 => ?_) (fun h7 => ?_)
  · have hx8 := ite_f h7 hx6
    refine T_condT rfl ?_
    refine T_seq ?_
    refine T_reg ?_
    refine T_val (Ev_build rfl (bld26_)) rfl ?_
    refine T_val (Ev_move rfl) rfl ?_
    refine T_h (Wh_store rfl rfl rfl (.here) (.put (.put (.put (.put (.put (.put (.done))))))) rfl (List.cons_ne_nil _ _) agg26.2 ?_)
    refine T_val (Ev_assign rfl) rfl ?_
    refine T_nil ?_
    refine T_next ?_
    refine T_retc ?_
    refine T_outR ?_
    refine T_none 41 3 ?_
    obtain rfl := Option.some.inj hx8
    exact T_retP (rs := [.cell 4 26, .tmp 5]) Try.results33 (.cell rfl (i := 1) rfl rfl agg26 (.tmp rfl (.nil))) (Ln := [.r (none) (0) (0) 41 3 ((([] : List S_api_Cell)).flatMap e_api_Cell)]) ⟨none, 0, rfl, rfl, trivial⟩ (loCons rfl (loNil)) (by exact .pick 0 rfl (.drop 0 rfl (.drop 0 rfl (.drop 0 rfl (.refl)))))
  · have hx9 := ite_t h7 hx6
    refine T_condF rfl ?_
    refine T_skip ?_
    refine T_next ?_
    refine T_seq ?_
    refine T_reg ?_
    refine T_val (Ev_field rfl fld26_0 rfl) rfl ?_
    refine T_val (Ev_loadK rfl (i := 2) rfl rfl agg23) rfl ?_
    refine T_val (Ev_build rfl (bld26_0ai64i64i64i64i64 _ _ _ _ _)) rfl ?_
    refine T_x (Wx_alloc zer26 rfl (fun g10 => ?_))
    refine T_h (Wh_store rfl rfl rfl (.here) (.put (.put (.put (.put (.put (.put (.done))))))) rfl (List.cons_ne_nil _ _) agg26.2 ?_)
    refine T_nil ?_
    refine T_next ?_
    obtain ⟨j7, hj7, hx9⟩ := jn_some hx9
    refine T_cutP (τ := List S_api_Cell) (γ := (Option Addr) × Nat) (J := j7) (out := r) (fun s7 y7 => [(4, .pointer (some ⟨g3, 0, none⟩)), (7, .pointer (some ⟨g10, 0, none⟩))]) (fun s7 y7 => [.r (y7.1) ((s7).length) (y7.2) 41 3 ((s7).flatMap e_api_Cell), .m g10 26 [.int .i64 (p0.Raster.X0), .int .i64 (p0.Raster.Y0), .int .i64 (p0.Raster.Step), .int .i64 (p0.Raster.NX), .int .i64 (p0.Raster.NY), .slice (y7.1) ((s7).length) (y7.2)], .m g3 26 [.int .i64 (0), .int .i64 (0), .int .i64 (0), .int .i64 (0), .int .i64 (0), .slice (none) (0) (0)]] ++ [.old w]) (fun s7 y7 => True) ?_ ?_
    · intro s7 y7 hx281 hG282
      subst hj7
      refine T_seq ?_
      refine T_reg ?_
      refine T_val (Ev_loadK rfl (i := 1) rfl rfl agg26) rfl ?_
      refine T_h (Wh_store rfl rfl rfl (.there (.there (.here))) (.put (.put (.put (.put (.put (.put (.done))))))) rfl (List.cons_ne_nil _ _) agg26.2 ?_)
      refine T_val (Ev_assign rfl) rfl ?_
      refine T_nil ?_
      refine T_next ?_
      refine T_retc ?_
      obtain rfl := Option.some.inj hx281
      exact T_retP (rs := [.cell 4 26, .tmp 5]) Try.results33 (.cell rfl (i := 2) rfl rfl agg26 (.tmp rfl (.nil))) (Ln := [.r (y7.1) ((s7).length) (y7.2) 41 3 ((s7).flatMap e_api_Cell)]) ⟨y7.1, y7.2, rfl, rfl, trivial⟩ (loCons rfl (loNil)) (by exact .pick 0 rfl (.drop 0 rfl (.drop 0 rfl (.refl))))
    · skip
      refine T_seq ?_
      refine T_reg ?_
      refine T_val (Ev_assign rfl) rfl ?_
      refine T_nil ?_
      refine T_next ?_
      refine T_block ?_
      obtain ⟨t146, hl146, ho146⟩ := bnd_some hx9
      refine T_none 41 3 ?_
      have hn147 : 0 = (([] : List S_api_Cell)).length := by simp [setI_len, cpy_len, List.length_append] <;> omega
      refine T_ent (.here) (e' := .r (none) ((([] : List S_api_Cell)).length) (0) 41 3 ((([] : List S_api_Cell)).flatMap e_api_Cell)) (by first | (rw [← hn147]; done) | rfl) ?_
      refine T_loopP (σ := (List S_api_Cell) × Int) (γ := (Option Addr) × Nat) hl146 (fun s146 y146 => [(2, .pointer (some ⟨g1, 0, none⟩)), (3, .pointer (some ⟨g2, 0, none⟩)), (4, .pointer (some ⟨g3, 0, none⟩)), (7, .pointer (some ⟨g10, 0, none⟩)), (8, .int .i64 (s146.2))]) (fun s146 y146 => [.r (y146.1) ((s146.1).length) (y146.2) 41 3 ((s146.1).flatMap e_api_Cell), .m g10 26 [.int .i64 (p0.Raster.X0), .int .i64 (p0.Raster.Y0), .int .i64 (p0.Raster.Step), .int .i64 (p0.Raster.NX), .int .i64 (p0.Raster.NY), .slice (y146.1) ((s146.1).length) (y146.2)], .m g3 26 [.int .i64 (0), .int .i64 (0), .int .i64 (0), .int .i64 (0), .int .i64 (0), .slice (none) (0) (0)], .m g2 26 [.int .i64 (p1.Raster.X0), .int .i64 (p1.Raster.Y0), .int .i64 (p1.Raster.Step), .int .i64 (p1.Raster.NX), .int .i64 (p1.Raster.NY), .slice (A0_1) ((p1.Cells).length) (c0_1)], .m g1 26 [.int .i64 (p0.Raster.X0), .int .i64 (p0.Raster.Y0), .int .i64 (p0.Raster.Step), .int .i64 (p0.Raster.NX), .int .i64 (p0.Raster.NY), .slice (A0_0) ((p0.Cells).length) (c0_0)]] ++ [.old w]) (fun s146 y146 => True) (none, 0) trivial (by exact .cons rfl (.cons rfl (.cons rfl (.cons rfl (.cons rfl (.nil)))))) (by exact .pick 0 rfl (.pick 0 rfl (.pick 0 rfl (.pick 0 rfl (.pick 0 rfl (.refl)))))) ?_
      intro s146 y146 hG146 x146 hx146 ht146
      unfold lidarref09_Common_l6 at hx146
      refine T_seq ?_
      refine T_seq ?_
      refine T_reg ?_
      refine T_val (Ev_move rfl) rfl ?_
      refine T_val (Ev_field rfl fld26_1 rfl) rfl ?_
      refine T_val (Ev_load1 rfl (i := 4) rfl rfl one24) rfl ?_
      refine T_val (Ev_len rfl 41 Try.underlying24) rfl ?_
      refine T_val (Ev_lss rfl rfl) rfl ?_
      refine T_nil ?_
      refine T_next ?_
      refine T_caseP (s := 26) rfl (fun h148 => ?_) (fun h148 => ?_)
      · have hx149 := ite_t h148 hx146
        refine T_condT rfl ?_
        refine T_skip ?_
        refine T_next ?_
        refine T_seq ?_
        refine T_block ?_
        obtain ⟨j21, hj21, hx149⟩ := jn_some hx149
        refine T_cutP (τ := Bool × Int × Int × Bool × Int × Int) (γ := Nat × Nat) (J := j21) (out := x146) (fun s21 y21 => [(2, .pointer (some ⟨g1, 0, none⟩)), (3, .pointer (some ⟨g2, 0, none⟩)), (4, .pointer (some ⟨g3, 0, none⟩)), (7, .pointer (some ⟨g10, 0, none⟩)), (8, .int .i64 (s146.2)), (9, .pointer (some ⟨y21.1, 0, none⟩)), (10, .pointer (some ⟨y21.2, 0, none⟩))]) (fun s21 y21 => [.m y21.2 41 [.bool (s21.2.2.2.1), .int .i64 (s21.2.2.2.2.1), .int .i64 (s21.2.2.2.2.2)], .m y21.1 41 [.bool (s21.1), .int .i64 (s21.2.1), .int .i64 (s21.2.2.1)], .r (y146.1) ((s146.1).length) (y146.2) 41 3 ((s146.1).flatMap e_api_Cell), .m g10 26 [.int .i64 (p0.Raster.X0), .int .i64 (p0.Raster.Y0), .int .i64 (p0.Raster.Step), .int .i64 (p0.Raster.NX), .int .i64 (p0.Raster.NY), .slice (y146.1) ((s146.1).length) (y146.2)], .m g3 26 [.int .i64 (0), .int .i64 (0), .int .i64 (0), .int .i64 (0), .int .i64 (0), .slice (none) (0) (0)], .m g2 26 [.int .i64 (p1.Raster.X0), .int .i64 (p1.Raster.Y0), .int .i64 (p1.Raster.Step), .int .i64 (p1.Raster.NX), .int .i64 (p1.Raster.NY), .slice (A0_1) ((p1.Cells).length) (c0_1)], .m g1 26 [.int .i64 (p0.Raster.X0), .int .i64 (p0.Raster.Y0), .int .i64 (p0.Raster.Step), .int .i64 (p0.Raster.NX), .int .i64 (p0.Raster.NY), .slice (A0_0) ((p0.Cells).length) (c0_0)]] ++ [.old w]) (fun s21 y21 => True) ?_ ?_
        · intro s21 y21 hx259 hG260
          subst hj21
          refine T_seq ?_
          refine T_reg ?_
          refine T_val (Ev_build rfl (bld41_0b _)) rfl ?_
          refine T_x (Wx_alloc zer41 rfl (fun g261 => ?_))
          refine T_h (Wh_store rfl rfl rfl (.here) (.put (.put (.put (.done)))) rfl (List.cons_ne_nil _ _) agg41.2 ?_)
          refine T_nil ?_
          refine T_next ?_
          obtain ⟨j23, hj23, hx259⟩ := jn_some hx259
          refine T_cutP (τ := Bool × Int × Int) (γ := Unit) (J := j23) (out := x146) (fun s23 y23 => [(2, .pointer (some ⟨g1, 0, none⟩)), (3, .pointer (some ⟨g2, 0, none⟩)), (4, .pointer (some ⟨g3, 0, none⟩)), (7, .pointer (some ⟨g10, 0, none⟩)), (8, .int .i64 (s146.2)), (11, .pointer (some ⟨g261, 0, none⟩))]) (fun s23 y23 => [.m g261 41 [.bool (s23.1), .int .i64 (s23.2.1), .int .i64 (s23.2.2)], .r (y146.1) ((s146.1).length) (y146.2) 41 3 ((s146.1).flatMap e_api_Cell), .m g10 26 [.int .i64 (p0.Raster.X0), .int .i64 (p0.Raster.Y0), .int .i64 (p0.Raster.Step), .int .i64 (p0.Raster.NX), .int .i64 (p0.Raster.NY), .slice (y146.1) ((s146.1).length) (y146.2)], .m g3 26 [.int .i64 (0), .int .i64 (0), .int .i64 (0), .int .i64 (0), .int .i64 (0), .slice (none) (0) (0)], .m g2 26 [.int .i64 (p1.Raster.X0), .int .i64 (p1.Raster.Y0), .int .i64 (p1.Raster.Step), .int .i64 (p1.Raster.NX), .int .i64 (p1.Raster.NY), .slice (A0_1) ((p1.Cells).length) (c0_1)], .m g1 26 [.int .i64 (p0.Raster.X0), .int .i64 (p0.Raster.Y0), .int .i64 (p0.Raster.Step), .int .i64 (p0.Raster.NX), .int .i64 (p0.Raster.NY), .slice (A0_0) ((p0.Cells).length) (c0_0)]] ++ [.old w]) (fun s23 y23 => True) ?_ ?_
          · intro s23 y23 hx274 hG275
            subst hj23
            refine T_reg ?_
            refine T_val (Ev_field rfl fld26_1 rfl) rfl ?_
            refine T_val (Ev_load1 rfl (i := 2) rfl rfl one24) rfl ?_
            refine T_val (Ev_loadK rfl (i := 0) rfl rfl agg41) rfl ?_
            refine T_x (Wx_buildSlice rfl (bls24_1_0abi64i64 _ _ _) rfl (fun g276 => ?_))
            obtain ⟨h277, hx278⟩ := gd_some hx274
            refine T_h (Wh_appendP e_api_Cell (s146.1) [(⟨s23.1, (⟨s23.2.1, s23.2.2⟩ : S_api_Span)⟩ : S_api_Cell)] rfl rfl rfl elm24 (fun _ => rfl) (i' := 0) rfl rfl rfl rfl h277 rfl (fun _ _ => .there (.there (.here))) (fun _ _ => .drop .refl) (by decide) (fun A279 c280 => ?_))
            refine T_val (Ev_field rfl fld26_1 rfl) rfl ?_
            refine T_h (Wh_store rfl rfl rfl (.there (.there (.here))) (.skip (.skip (.skip (.skip (.skip (.put (.done))))))) rfl (List.cons_ne_nil _ _) one24.2 ?_)
            refine T_nil ?_
            refine T_inN ?_
            refine T_next ?_
            refine T_reg ?_
            refine T_val (Ev_move rfl) rfl ?_
            refine T_val (Ev_add_w64 rfl rfl) rfl ?_
            refine T_val (Ev_assign rfl) rfl ?_
            refine T_nil ?_
            exact T_roundP (s146.1 ++ [(⟨s23.1, (⟨s23.2.1, s23.2.2⟩ : S_api_Span)⟩ : S_api_Cell)], w64 (s146.2 + 1)) (A279, c280) hx278 trivial (by exact .cons rfl (.cons rfl (.cons rfl (.cons rfl (.cons rfl (.nil)))))) (by exact .pick 1 rfl (.pick 1 rfl (.pick 1 rfl (.pick 1 rfl (.pick 1 rfl (.drop 0 rfl (.refl)))))))
          · skip
            refine T_block ?_
            refine T_seq ?_
            refine T_reg ?_
            refine T_val (Ev_field rfl fld41_0 rfl) rfl ?_
            refine T_val (Ev_load1 rfl (i := 2) rfl rfl one4) rfl ?_
            refine T_val (Ev_assign rfl) rfl ?_
            refine T_nil ?_
            refine T_next ?_
            refine T_caseB (s := 40) rfl (fun h262 => ?_) (fun h262 => ?_)
            · have hx263 := ite_t h262 hx259
              refine T_condT rfl ?_
              refine T_reg ?_
              refine T_val (Ev_loadK rfl (i := 1) rfl rfl agg41) rfl ?_
              refine T_h (Wh_store rfl rfl rfl (.here) (.put (.put (.put (.done)))) rfl (List.cons_ne_nil _ _) agg41.2 ?_)
              refine T_nil ?_
              refine T_inN ?_
              exact T_metP (s21.2.2.2.1, s21.2.2.2.2.1, s21.2.2.2.2.2) () hx263 trivial (by exact .cons rfl (.cons rfl (.cons rfl (.cons rfl (.cons rfl (.cons rfl (.nil))))))) (by exact .pick 0 rfl (.pick 2 rfl (.pick 2 rfl (.pick 2 rfl (.pick 2 rfl (.pick 2 rfl (.drop 0 rfl (.drop 0 rfl (.refl)))))))))
            · have hx264 := ite_bf h262 hx259
              refine T_condF rfl ?_
              refine T_seq ?_
              refine T_reg ?_
              refine T_val (Ev_field rfl fld41_0 rfl) rfl ?_
              refine T_val (Ev_load1 rfl (i := 1) rfl rfl one4) rfl ?_
              refine T_val (Ev_assign rfl) rfl ?_
              refine T_nil ?_
              refine T_next ?_
              refine T_caseB (s := 44) rfl (fun h265 => ?_) (fun h265 => ?_)
              · have hx266 := ite_t h265 hx264
                refine T_condT rfl ?_
                refine T_reg ?_
                refine T_val (Ev_loadK rfl (i := 2) rfl rfl agg41) rfl ?_
                refine T_h (Wh_store rfl rfl rfl (.here) (.put (.put (.put (.done)))) rfl (List.cons_ne_nil _ _) agg41.2 ?_)
                refine T_nil ?_
                refine T_inN ?_
                exact T_metP (s21.1, s21.2.1, s21.2.2.1) () hx266 trivial (by exact .cons rfl (.cons rfl (.cons rfl (.cons rfl (.cons rfl (.cons rfl (.nil))))))) (by exact .pick 0 rfl (.pick 2 rfl (.pick 2 rfl (.pick 2 rfl (.pick 2 rfl (.pick 2 rfl (.drop 0 rfl (.drop 0 rfl (.refl)))))))))
              · have hx267 := ite_bf h265 hx264
                refine T_condF rfl ?_
                refine T_seq ?_
                refine T_reg ?_
                refine T_val (Ev_loadK rfl (i := 2) rfl rfl agg41) rfl ?_
                refine T_val (Ev_loadK rfl (i := 1) rfl rfl agg41) rfl ?_
                obtain ⟨r268, h269, hx270⟩ := bnd_some hx267
                refine T_x (Wx_callL rfl (fun w1 hw1 => lidarref09_State_ok (⟨s21.1, (⟨s21.2.1, s21.2.2.1⟩ : S_api_Span)⟩ : S_api_Cell) (⟨s21.2.2.2.1, (⟨s21.2.2.2.2.1, s21.2.2.2.2.2⟩ : S_api_Span)⟩ : S_api_Cell)  h269 w1) rfl ?_)
                rintro _ _ hlo ⟨rfl, rfl, -⟩
                refine T_app0 ?_
                refine T_val (Ev_eql rfl rfl) rfl ?_
                refine T_val (Ev_assign rfl) rfl ?_
                refine T_nil ?_
                refine T_next ?_
                refine T_caseP (s := 48) rfl (fun h271 => ?_) (fun h271 => ?_)
                · have hx272 := ite_t h271 hx270
                  refine T_condT rfl ?_
                  refine T_reg ?_
                  refine T_val (Ev_field rfl fld41_1 rfl) rfl ?_
                  refine T_val (Ev_field rfl fld39_0 rfl) rfl ?_
                  refine T_val (Ev_load1 rfl (i := 2) rfl rfl one3) rfl ?_
                  refine T_val (Ev_field rfl fld41_1 rfl) rfl ?_
                  refine T_val (Ev_field rfl fld39_0 rfl) rfl ?_
                  refine T_val (Ev_load1 rfl (i := 1) rfl rfl one3) rfl ?_
                  refine T_val (Ev_max2 rfl rfl) rfl ?_
                  refine T_val (Ev_field rfl fld41_1 rfl) rfl ?_
                  refine T_val (Ev_field rfl fld39_1 rfl) rfl ?_
                  refine T_val (Ev_load1 rfl (i := 2) rfl rfl one3) rfl ?_
                  refine T_val (Ev_field rfl fld41_1 rfl) rfl ?_
                  refine T_val (Ev_field rfl fld39_1 rfl) rfl ?_
                  refine T_val (Ev_load1 rfl (i := 1) rfl rfl one3) rfl ?_
                  refine T_val (Ev_min2 rfl rfl) rfl ?_
                  refine T_val (Ev_build rfl (bld39_0i641i64 _ _)) rfl ?_
                  refine T_val (Ev_build rfl (bld41_1ai64i64 _ _)) rfl ?_
                  refine T_h (Wh_store rfl rfl rfl (.here) (.put (.put (.put (.done)))) rfl (List.cons_ne_nil _ _) agg41.2 ?_)
                  refine T_nil ?_
                  refine T_inN ?_
                  exact T_metP (false, max s21.2.1 s21.2.2.2.2.1, min s21.2.2.1 s21.2.2.2.2.2) () hx272 trivial (by exact .cons rfl (.cons rfl (.cons rfl (.cons rfl (.cons rfl (.cons rfl (.nil))))))) (by exact .pick 0 rfl (.pick 2 rfl (.pick 2 rfl (.pick 2 rfl (.pick 2 rfl (.pick 2 rfl (.drop 0 rfl (.drop 0 rfl (.refl)))))))))
                · have hx273 := ite_f h271 hx270
                  refine T_condF rfl ?_
                  refine T_skip ?_
                  refine T_inN ?_
                  exact T_metP (true, 0, 0) () hx273 trivial (by exact .cons rfl (.cons rfl (.cons rfl (.cons rfl (.cons rfl (.cons rfl (.nil))))))) (by exact .pick 0 rfl (.pick 2 rfl (.pick 2 rfl (.pick 2 rfl (.pick 2 rfl (.pick 2 rfl (.drop 0 rfl (.drop 0 rfl (.refl)))))))))
        · skip
          obtain ⟨x151, h152, hx175⟩ := bnd_some hx149
          obtain ⟨x162, h163, hx176⟩ := bnd_some hx175
          refine T_draw [0, 1, 0, 0, 1, 0, 2, 0, 0, 2, 2, 2, 3, 3] [[], [0], [], [0, 1, 2], [0, 1, 2, 3], [], [5], [], [5, 6, 7], [5, 6, 7, 8], [], [], [0, 1, 2, 3, 4, 10, 11], [0, 1, 2, 3, 4, 5, 6, 7, 8, 9, 10, 11, 12]] (.q 0 (.q 1 (.q 2 (.q 3 (.q 4 (.q 5 (.q 7 (.e 6 (.q 8 (.e 9 (.e 10 (.e 11 (.e 12 (.e 13 (.done) (.stop)) (.stop)) (.stop)) (.e 11 (.e 10 (.e 12 (.e 13 (.done) (.stop)) (.stop)) (.stop)) (.stop))) (.e 10 (.e 9 (.e 11 (.e 12 (.e 13 (.done) (.stop)) (.stop)) (.stop)) (.e 11 (.e 9 (.e 12 (.e 13 (.done) (.stop)) (.stop)) (.e 12 (.e 9 (.e 13 (.done) (.stop)) (.stop)) (.stop))) (.stop))) (.e 11 (.e 9 (.e 10 (.e 12 (.e 13 (.done) (.stop)) (.stop)) (.stop)) (.e 10 (.e 9 (.e 12 (.e 13 (.done) (.stop)) (.stop)) (.e 12 (.e 9 (.e 13 (.done) (.stop)) (.stop)) (.stop))) (.stop))) (.stop))))) (.e 10 (.e 6 (.q 8 (.e 9 (.e 11 (.e 12 (.e 13 (.done) (.stop)) (.stop)) (.stop)) (.e 11 (.e 9 (.e 12 (.e 13 (.done) (.stop)) (.stop)) (.e 12 (.e 9 (.e 13 (.done) (.stop)) (.stop)) (.stop))) (.stop)))) (.e 11 (.e 6 (.q 8 (.e 9 (.e 12 (.e 13 (.done) (.stop)) (.stop)) (.e 12 (.e 9 (.e 13 (.done) (.stop)) (.stop)) (.stop)))) (.e 12 (.e 6 (.q 8 (.e 9 (.e 13 (.done) (.stop)) (.stop))) (.stop)) (.stop))) (.stop))) (.e 11 (.e 6 (.q 8 (.e 9 (.e 10 (.e 12 (.e 13 (.done) (.stop)) (.stop)) (.stop)) (.e 10 (.e 9 (.e 12 (.e 13 (.done) (.stop)) (.stop)) (.e 12 (.e 9 (.e 13 (.done) (.stop)) (.stop)) (.stop))) (.stop)))) (.e 10 (.e 6 (.q 8 (.e 9 (.e 12 (.e 13 (.done) (.stop)) (.stop)) (.e 12 (.e 9 (.e 13 (.done) (.stop)) (.stop)) (.stop)))) (.e 12 (.e 6 (.q 8 (.e 9 (.e 13 (.done) (.stop)) (.stop))) (.stop)) (.stop))) (.stop))) (.stop))))))))))) mixed (by kernel_rfl) (by kernel_rfl) ?_
          refine P_p rfl rfl (Ev_field rfl fld26_1 rfl) rfl ?_
          refine P_q rfl rfl (Ev_load1 rfl (i := 4) rfl rfl one24) rfl ?_
          refine P_p rfl rfl (Ev_move rfl) rfl ?_
          have hw184 := Has.low (E := []) ha0' hK
          obtain ⟨b177, o178, j179, hA180, hj181, hl182, hp183⟩ := Has.at_idx hw184 h152
          refine P_p rfl rfl (Ev_index rfl rfl hA180 (j := j179) hj181 hl182 slc24) rfl ?_
          refine P_q rfl rfl (Ev_loadPK0 rfl hp183 (SubE.cons2 (i := 5) rfl (SubE.nil)) rfl agg41) rfl ?_
          refine P_p rfl rfl (Ev_field rfl fld26_1 rfl) rfl ?_
          refine P_p rfl rfl (Ev_move rfl) rfl ?_
          refine P_x rfl (Wx_val (Ev_load1 rfl (i := 3) rfl rfl one24) rfl ?_) ?_
          · skip
            have hw192 := Has.low (E := []) ha1' hK
            obtain ⟨b185, o186, j187, hA188, hj189, hl190, hp191⟩ := Has.at_idx hw192 h163
            refine P_p rfl rfl (Ev_index rfl rfl hA188 (j := j187) hj189 hl190 slc24) rfl ?_
            refine P_x rfl (Wx_val (Ev_loadPK0 rfl hp191 (SubE.cons2 (i := 5) rfl (SubE.nil)) rfl agg41) rfl ?_) ?_
            · skip
              refine P_x rfl (Wx_alloc zer41 rfl (fun g193 => ?_)) ?_
              · skip
                refine P_x rfl (Wx_alloc zer41 rfl (fun g194 => ?_)) ?_
                rotate_left; exact P_stop
                refine P_h rfl rfl (Wh_store rfl rfl rfl (.there (.here)) (.put (.put (.put (.done)))) rfl (List.cons_ne_nil _ _) agg41.2 ?_) ?_
                rotate_left; exact P_stop
                refine P_h rfl rfl (Wh_store rfl rfl rfl (.here) (.put (.put (.put (.done)))) rfl (List.cons_ne_nil _ _) agg41.2 ?_) ?_
                rotate_left; exact P_stop
                refine P_done ?_
                exact T_metP (x151.Void, x151.Z.Lo, x151.Z.Hi, x162.Void, x162.Z.Lo, x162.Z.Hi) (g193, g194) hx176 trivial (by exact .cons rfl (.cons rfl (.cons rfl (.cons rfl (.cons rfl (.cons rfl (.cons rfl (.nil)))))))) (by exact .pick 0 rfl (.pick 0 rfl (.pick 0 rfl (.pick 0 rfl (.pick 0 rfl (.pick 0 rfl (.pick 0 rfl (.refl))))))))
              · skip
                refine P_x rfl (Wx_alloc zer41 rfl (fun g195 => ?_)) ?_
                rotate_left; exact P_stop
                refine P_x rfl (Wx_alloc zer41 rfl (fun g196 => ?_)) ?_
                rotate_left; exact P_stop
                refine P_h rfl rfl (Wh_store rfl rfl rfl (.here) (.put (.put (.put (.done)))) rfl (List.cons_ne_nil _ _) agg41.2 ?_) ?_
                rotate_left; exact P_stop
                refine P_h rfl rfl (Wh_store rfl rfl rfl (.there (.here)) (.put (.put (.put (.done)))) rfl (List.cons_ne_nil _ _) agg41.2 ?_) ?_
                rotate_left; exact P_stop
                refine P_done ?_
                exact T_metP (x151.Void, x151.Z.Lo, x151.Z.Hi, x162.Void, x162.Z.Lo, x162.Z.Hi) (g196, g195) hx176 trivial (by exact .cons rfl (.cons rfl (.cons rfl (.cons rfl (.cons rfl (.cons rfl (.cons rfl (.nil)))))))) (by exact .pick 1 rfl (.pick 0 rfl (.pick 0 rfl (.pick 0 rfl (.pick 0 rfl (.pick 0 rfl (.pick 0 rfl (.refl))))))))
            · skip
              refine P_x rfl (Wx_alloc zer41 rfl (fun g197 => ?_)) ?_
              · skip
                refine P_x rfl (Wx_val (Ev_loadPK0 rfl hp191 (SubE.cons2 (i := 6) rfl (SubE.nil)) rfl agg41) rfl ?_) ?_
                · skip
                  refine P_x rfl (Wx_alloc zer41 rfl (fun g198 => ?_)) ?_
                  rotate_left; exact P_stop
                  refine P_h rfl rfl (Wh_store rfl rfl rfl (.there (.here)) (.put (.put (.put (.done)))) rfl (List.cons_ne_nil _ _) agg41.2 ?_) ?_
                  rotate_left; exact P_stop
                  refine P_h rfl rfl (Wh_store rfl rfl rfl (.here) (.put (.put (.put (.done)))) rfl (List.cons_ne_nil _ _) agg41.2 ?_) ?_
                  rotate_left; exact P_stop
                  refine P_done ?_
                  exact T_metP (x151.Void, x151.Z.Lo, x151.Z.Hi, x162.Void, x162.Z.Lo, x162.Z.Hi) (g197, g198) hx176 trivial (by exact .cons rfl (.cons rfl (.cons rfl (.cons rfl (.cons rfl (.cons rfl (.cons rfl (.nil)))))))) (by exact .pick 0 rfl (.pick 0 rfl (.pick 0 rfl (.pick 0 rfl (.pick 0 rfl (.pick 0 rfl (.pick 0 rfl (.refl))))))))
                · skip
                  refine P_x rfl (Wx_alloc zer41 rfl (fun g199 => ?_)) ?_
                  rotate_left; exact P_stop
                  refine P_x rfl (Wx_val (Ev_loadPK0 rfl hp191 (SubE.cons2 (i := 7) rfl (SubE.nil)) rfl agg41) rfl ?_) ?_
                  · skip
                    refine P_h rfl rfl (Wh_store rfl rfl rfl (.there (.here)) (.put (.put (.put (.done)))) rfl (List.cons_ne_nil _ _) agg41.2 ?_) ?_
                    rotate_left; exact P_stop
                    refine P_h rfl rfl (Wh_store rfl rfl rfl (.here) (.put (.put (.put (.done)))) rfl (List.cons_ne_nil _ _) agg41.2 ?_) ?_
                    rotate_left; exact P_stop
                    refine P_done ?_
                    exact T_metP (x151.Void, x151.Z.Lo, x151.Z.Hi, x162.Void, x162.Z.Lo, x162.Z.Hi) (g197, g199) hx176 trivial (by exact .cons rfl (.cons rfl (.cons rfl (.cons rfl (.cons rfl (.cons rfl (.cons rfl (.nil)))))))) (by exact .pick 0 rfl (.pick 0 rfl (.pick 0 rfl (.pick 0 rfl (.pick 0 rfl (.pick 0 rfl (.pick 0 rfl (.refl))))))))
                  · skip
                    refine P_h rfl rfl (Wh_store rfl rfl rfl (.there (.here)) (.put (.put (.put (.done)))) rfl (List.cons_ne_nil _ _) agg41.2 ?_) ?_
                    rotate_left; exact P_stop
                    refine P_x rfl (Wx_val (Ev_loadPK0 rfl hp191 (SubE.cons2 (i := 7) rfl (SubE.nil)) rfl agg41) rfl ?_) ?_
                    rotate_left; exact P_stop
                    refine P_h rfl rfl (Wh_store rfl rfl rfl (.here) (.put (.put (.put (.done)))) rfl (List.cons_ne_nil _ _) agg41.2 ?_) ?_
                    rotate_left; exact P_stop
                    refine P_done ?_
                    exact T_metP (x151.Void, x151.Z.Lo, x151.Z.Hi, x162.Void, x162.Z.Lo, x162.Z.Hi) (g197, g199) hx176 trivial (by exact .cons rfl (.cons rfl (.cons rfl (.cons rfl (.cons rfl (.cons rfl (.cons rfl (.nil)))))))) (by exact .pick 0 rfl (.pick 0 rfl (.pick 0 rfl (.pick 0 rfl (.pick 0 rfl (.pick 0 rfl (.pick 0 rfl (.refl))))))))
              · skip
                refine P_x rfl (Wx_alloc zer41 rfl (fun g200 => ?_)) ?_
                rotate_left; exact P_stop
                refine P_x rfl (Wx_val (Ev_loadPK0 rfl hp191 (SubE.cons2 (i := 6) rfl (SubE.nil)) rfl agg41) rfl ?_) ?_
                · skip
                  refine P_x rfl (Wx_alloc zer41 rfl (fun g201 => ?_)) ?_
                  rotate_left; exact P_stop
                  refine P_h rfl rfl (Wh_store rfl rfl rfl (.here) (.put (.put (.put (.done)))) rfl (List.cons_ne_nil _ _) agg41.2 ?_) ?_
                  rotate_left; exact P_stop
                  refine P_h rfl rfl (Wh_store rfl rfl rfl (.there (.here)) (.put (.put (.put (.done)))) rfl (List.cons_ne_nil _ _) agg41.2 ?_) ?_
                  rotate_left; exact P_stop
                  refine P_done ?_
                  exact T_metP (x151.Void, x151.Z.Lo, x151.Z.Hi, x162.Void, x162.Z.Lo, x162.Z.Hi) (g201, g200) hx176 trivial (by exact .cons rfl (.cons rfl (.cons rfl (.cons rfl (.cons rfl (.cons rfl (.cons rfl (.nil)))))))) (by exact .pick 1 rfl (.pick 0 rfl (.pick 0 rfl (.pick 0 rfl (.pick 0 rfl (.pick 0 rfl (.pick 0 rfl (.refl))))))))
                · skip
                  refine P_x rfl (Wx_alloc zer41 rfl (fun g202 => ?_)) ?_
                  rotate_left; exact P_stop
                  refine P_x rfl (Wx_val (Ev_loadPK0 rfl hp191 (SubE.cons2 (i := 7) rfl (SubE.nil)) rfl agg41) rfl ?_) ?_
                  · skip
                    refine P_h rfl rfl (Wh_store rfl rfl rfl (.here) (.put (.put (.put (.done)))) rfl (List.cons_ne_nil _ _) agg41.2 ?_) ?_
                    rotate_left; exact P_stop
                    refine P_h rfl rfl (Wh_store rfl rfl rfl (.there (.here)) (.put (.put (.put (.done)))) rfl (List.cons_ne_nil _ _) agg41.2 ?_) ?_
                    rotate_left; exact P_stop
                    refine P_done ?_
                    exact T_metP (x151.Void, x151.Z.Lo, x151.Z.Hi, x162.Void, x162.Z.Lo, x162.Z.Hi) (g202, g200) hx176 trivial (by exact .cons rfl (.cons rfl (.cons rfl (.cons rfl (.cons rfl (.cons rfl (.cons rfl (.nil)))))))) (by exact .pick 1 rfl (.pick 0 rfl (.pick 0 rfl (.pick 0 rfl (.pick 0 rfl (.pick 0 rfl (.pick 0 rfl (.refl))))))))
                  · skip
                    refine P_h rfl rfl (Wh_store rfl rfl rfl (.here) (.put (.put (.put (.done)))) rfl (List.cons_ne_nil _ _) agg41.2 ?_) ?_
                    rotate_left; exact P_stop
                    refine P_x rfl (Wx_val (Ev_loadPK0 rfl hp191 (SubE.cons2 (i := 7) rfl (SubE.nil)) rfl agg41) rfl ?_) ?_
                    rotate_left; exact P_stop
                    refine P_h rfl rfl (Wh_store rfl rfl rfl (.there (.here)) (.put (.put (.put (.done)))) rfl (List.cons_ne_nil _ _) agg41.2 ?_) ?_
                    rotate_left; exact P_stop
                    refine P_done ?_
                    exact T_metP (x151.Void, x151.Z.Lo, x151.Z.Hi, x162.Void, x162.Z.Lo, x162.Z.Hi) (g202, g200) hx176 trivial (by exact .cons rfl (.cons rfl (.cons rfl (.cons rfl (.cons rfl (.cons rfl (.cons rfl (.nil)))))))) (by exact .pick 1 rfl (.pick 0 rfl (.pick 0 rfl (.pick 0 rfl (.pick 0 rfl (.pick 0 rfl (.pick 0 rfl (.refl))))))))
          · skip
            refine P_x rfl (Wx_alloc zer41 rfl (fun g203 => ?_)) ?_
            · skip
              refine P_x rfl (Wx_val (Ev_load1 rfl (i := 4) rfl rfl one24) rfl ?_) ?_
              · skip
                have hw211 := Has.low (E := []) ha1' hK
                obtain ⟨b204, o205, j206, hA207, hj208, hl209, hp210⟩ := Has.at_idx hw211 h163
                refine P_p rfl rfl (Ev_index rfl rfl hA207 (j := j206) hj208 hl209 slc24) rfl ?_
                refine P_x rfl (Wx_val (Ev_loadPK0 rfl hp210 (SubE.cons2 (i := 6) rfl (SubE.nil)) rfl agg41) rfl ?_) ?_
                · skip
                  refine P_x rfl (Wx_alloc zer41 rfl (fun g212 => ?_)) ?_
                  rotate_left; exact P_stop
                  refine P_h rfl rfl (Wh_store rfl rfl rfl (.there (.here)) (.put (.put (.put (.done)))) rfl (List.cons_ne_nil _ _) agg41.2 ?_) ?_
                  rotate_left; exact P_stop
                  refine P_h rfl rfl (Wh_store rfl rfl rfl (.here) (.put (.put (.put (.done)))) rfl (List.cons_ne_nil _ _) agg41.2 ?_) ?_
                  rotate_left; exact P_stop
                  refine P_done ?_
                  exact T_metP (x151.Void, x151.Z.Lo, x151.Z.Hi, x162.Void, x162.Z.Lo, x162.Z.Hi) (g203, g212) hx176 trivial (by exact .cons rfl (.cons rfl (.cons rfl (.cons rfl (.cons rfl (.cons rfl (.cons rfl (.nil)))))))) (by exact .pick 0 rfl (.pick 0 rfl (.pick 0 rfl (.pick 0 rfl (.pick 0 rfl (.pick 0 rfl (.pick 0 rfl (.refl))))))))
                · skip
                  refine P_x rfl (Wx_alloc zer41 rfl (fun g213 => ?_)) ?_
                  rotate_left; exact P_stop
                  refine P_x rfl (Wx_val (Ev_loadPK0 rfl hp210 (SubE.cons2 (i := 7) rfl (SubE.nil)) rfl agg41) rfl ?_) ?_
                  · skip
                    refine P_h rfl rfl (Wh_store rfl rfl rfl (.there (.here)) (.put (.put (.put (.done)))) rfl (List.cons_ne_nil _ _) agg41.2 ?_) ?_
                    rotate_left; exact P_stop
                    refine P_h rfl rfl (Wh_store rfl rfl rfl (.here) (.put (.put (.put (.done)))) rfl (List.cons_ne_nil _ _) agg41.2 ?_) ?_
                    rotate_left; exact P_stop
                    refine P_done ?_
                    exact T_metP (x151.Void, x151.Z.Lo, x151.Z.Hi, x162.Void, x162.Z.Lo, x162.Z.Hi) (g203, g213) hx176 trivial (by exact .cons rfl (.cons rfl (.cons rfl (.cons rfl (.cons rfl (.cons rfl (.cons rfl (.nil)))))))) (by exact .pick 0 rfl (.pick 0 rfl (.pick 0 rfl (.pick 0 rfl (.pick 0 rfl (.pick 0 rfl (.pick 0 rfl (.refl))))))))
                  · skip
                    refine P_h rfl rfl (Wh_store rfl rfl rfl (.there (.here)) (.put (.put (.put (.done)))) rfl (List.cons_ne_nil _ _) agg41.2 ?_) ?_
                    rotate_left; exact P_stop
                    refine P_x rfl (Wx_val (Ev_loadPK0 rfl hp210 (SubE.cons2 (i := 7) rfl (SubE.nil)) rfl agg41) rfl ?_) ?_
                    rotate_left; exact P_stop
                    refine P_h rfl rfl (Wh_store rfl rfl rfl (.here) (.put (.put (.put (.done)))) rfl (List.cons_ne_nil _ _) agg41.2 ?_) ?_
                    rotate_left; exact P_stop
                    refine P_done ?_
                    exact T_metP (x151.Void, x151.Z.Lo, x151.Z.Hi, x162.Void, x162.Z.Lo, x162.Z.Hi) (g203, g213) hx176 trivial (by exact .cons rfl (.cons rfl (.cons rfl (.cons rfl (.cons rfl (.cons rfl (.cons rfl (.nil)))))))) (by exact .pick 0 rfl (.pick 0 rfl (.pick 0 rfl (.pick 0 rfl (.pick 0 rfl (.pick 0 rfl (.pick 0 rfl (.refl))))))))
              · skip
                refine P_x rfl (Wx_alloc zer41 rfl (fun g214 => ?_)) ?_
                rotate_left; exact P_stop
                refine P_x rfl (Wx_val (Ev_load1 rfl (i := 5) rfl rfl one24) rfl ?_) ?_
                · skip
                  have hw222 := Has.low (E := []) ha1' hK
                  obtain ⟨b215, o216, j217, hA218, hj219, hl220, hp221⟩ := Has.at_idx hw222 h163
                  refine P_p rfl rfl (Ev_index rfl rfl hA218 (j := j217) hj219 hl220 slc24) rfl ?_
                  refine P_x rfl (Wx_val (Ev_loadPK0 rfl hp221 (SubE.cons2 (i := 7) rfl (SubE.nil)) rfl agg41) rfl ?_) ?_
                  · skip
                    refine P_h rfl rfl (Wh_store rfl rfl rfl (.there (.here)) (.put (.put (.put (.done)))) rfl (List.cons_ne_nil _ _) agg41.2 ?_) ?_
                    rotate_left; exact P_stop
                    refine P_h rfl rfl (Wh_store rfl rfl rfl (.here) (.put (.put (.put (.done)))) rfl (List.cons_ne_nil _ _) agg41.2 ?_) ?_
                    rotate_left; exact P_stop
                    refine P_done ?_
                    exact T_metP (x151.Void, x151.Z.Lo, x151.Z.Hi, x162.Void, x162.Z.Lo, x162.Z.Hi) (g203, g214) hx176 trivial (by exact .cons rfl (.cons rfl (.cons rfl (.cons rfl (.cons rfl (.cons rfl (.cons rfl (.nil)))))))) (by exact .pick 0 rfl (.pick 0 rfl (.pick 0 rfl (.pick 0 rfl (.pick 0 rfl (.pick 0 rfl (.pick 0 rfl (.refl))))))))
                  · skip
                    refine P_h rfl rfl (Wh_store rfl rfl rfl (.there (.here)) (.put (.put (.put (.done)))) rfl (List.cons_ne_nil _ _) agg41.2 ?_) ?_
                    rotate_left; exact P_stop
                    refine P_x rfl (Wx_val (Ev_loadPK0 rfl hp221 (SubE.cons2 (i := 7) rfl (SubE.nil)) rfl agg41) rfl ?_) ?_
                    rotate_left; exact P_stop
                    refine P_h rfl rfl (Wh_store rfl rfl rfl (.here) (.put (.put (.put (.done)))) rfl (List.cons_ne_nil _ _) agg41.2 ?_) ?_
                    rotate_left; exact P_stop
                    refine P_done ?_
                    exact T_metP (x151.Void, x151.Z.Lo, x151.Z.Hi, x162.Void, x162.Z.Lo, x162.Z.Hi) (g203, g214) hx176 trivial (by exact .cons rfl (.cons rfl (.cons rfl (.cons rfl (.cons rfl (.cons rfl (.cons rfl (.nil)))))))) (by exact .pick 0 rfl (.pick 0 rfl (.pick 0 rfl (.pick 0 rfl (.pick 0 rfl (.pick 0 rfl (.pick 0 rfl (.refl))))))))
                · skip
                  refine P_h rfl rfl (Wh_store rfl rfl rfl (.there (.here)) (.put (.put (.put (.done)))) rfl (List.cons_ne_nil _ _) agg41.2 ?_) ?_
                  rotate_left; exact P_stop
                  refine P_x rfl (Wx_val (Ev_load1 rfl (i := 5) rfl rfl one24) rfl ?_) ?_
                  rotate_left; exact P_stop
                  have hw230 := Has.low (E := []) ha1' hK
                  obtain ⟨b223, o224, j225, hA226, hj227, hl228, hp229⟩ := Has.at_idx hw230 h163
                  refine P_p rfl rfl (Ev_index rfl rfl hA226 (j := j225) hj227 hl228 slc24) rfl ?_
                  refine P_x rfl (Wx_val (Ev_loadPK0 rfl hp229 (SubE.cons2 (i := 7) rfl (SubE.nil)) rfl agg41) rfl ?_) ?_
                  rotate_left; exact P_stop
                  refine P_h rfl rfl (Wh_store rfl rfl rfl (.here) (.put (.put (.put (.done)))) rfl (List.cons_ne_nil _ _) agg41.2 ?_) ?_
                  rotate_left; exact P_stop
                  refine P_done ?_
                  exact T_metP (x151.Void, x151.Z.Lo, x151.Z.Hi, x162.Void, x162.Z.Lo, x162.Z.Hi) (g203, g214) hx176 trivial (by exact .cons rfl (.cons rfl (.cons rfl (.cons rfl (.cons rfl (.cons rfl (.cons rfl (.nil)))))))) (by exact .pick 0 rfl (.pick 0 rfl (.pick 0 rfl (.pick 0 rfl (.pick 0 rfl (.pick 0 rfl (.pick 0 rfl (.refl))))))))
            · skip
              refine P_x rfl (Wx_alloc zer41 rfl (fun g231 => ?_)) ?_
              rotate_left; exact P_stop
              refine P_x rfl (Wx_val (Ev_load1 rfl (i := 4) rfl rfl one24) rfl ?_) ?_
              · skip
                have hw239 := Has.low (E := []) ha1' hK
                obtain ⟨b232, o233, j234, hA235, hj236, hl237, hp238⟩ := Has.at_idx hw239 h163
                refine P_p rfl rfl (Ev_index rfl rfl hA235 (j := j234) hj236 hl237 slc24) rfl ?_
                refine P_x rfl (Wx_val (Ev_loadPK0 rfl hp238 (SubE.cons2 (i := 6) rfl (SubE.nil)) rfl agg41) rfl ?_) ?_
                · skip
                  refine P_x rfl (Wx_alloc zer41 rfl (fun g240 => ?_)) ?_
                  rotate_left; exact P_stop
                  refine P_h rfl rfl (Wh_store rfl rfl rfl (.here) (.put (.put (.put (.done)))) rfl (List.cons_ne_nil _ _) agg41.2 ?_) ?_
                  rotate_left; exact P_stop
                  refine P_h rfl rfl (Wh_store rfl rfl rfl (.there (.here)) (.put (.put (.put (.done)))) rfl (List.cons_ne_nil _ _) agg41.2 ?_) ?_
                  rotate_left; exact P_stop
                  refine P_done ?_
                  exact T_metP (x151.Void, x151.Z.Lo, x151.Z.Hi, x162.Void, x162.Z.Lo, x162.Z.Hi) (g240, g231) hx176 trivial (by exact .cons rfl (.cons rfl (.cons rfl (.cons rfl (.cons rfl (.cons rfl (.cons rfl (.nil)))))))) (by exact .pick 1 rfl (.pick 0 rfl (.pick 0 rfl (.pick 0 rfl (.pick 0 rfl (.pick 0 rfl (.pick 0 rfl (.refl))))))))
                · skip
                  refine P_x rfl (Wx_alloc zer41 rfl (fun g241 => ?_)) ?_
                  rotate_left; exact P_stop
                  refine P_x rfl (Wx_val (Ev_loadPK0 rfl hp238 (SubE.cons2 (i := 7) rfl (SubE.nil)) rfl agg41) rfl ?_) ?_
                  · skip
                    refine P_h rfl rfl (Wh_store rfl rfl rfl (.here) (.put (.put (.put (.done)))) rfl (List.cons_ne_nil _ _) agg41.2 ?_) ?_
                    rotate_left; exact P_stop
                    refine P_h rfl rfl (Wh_store rfl rfl rfl (.there (.here)) (.put (.put (.put (.done)))) rfl (List.cons_ne_nil _ _) agg41.2 ?_) ?_
                    rotate_left; exact P_stop
                    refine P_done ?_
                    exact T_metP (x151.Void, x151.Z.Lo, x151.Z.Hi, x162.Void, x162.Z.Lo, x162.Z.Hi) (g241, g231) hx176 trivial (by exact .cons rfl (.cons rfl (.cons rfl (.cons rfl (.cons rfl (.cons rfl (.cons rfl (.nil)))))))) (by exact .pick 1 rfl (.pick 0 rfl (.pick 0 rfl (.pick 0 rfl (.pick 0 rfl (.pick 0 rfl (.pick 0 rfl (.refl))))))))
                  · skip
                    refine P_h rfl rfl (Wh_store rfl rfl rfl (.here) (.put (.put (.put (.done)))) rfl (List.cons_ne_nil _ _) agg41.2 ?_) ?_
                    rotate_left; exact P_stop
                    refine P_x rfl (Wx_val (Ev_loadPK0 rfl hp238 (SubE.cons2 (i := 7) rfl (SubE.nil)) rfl agg41) rfl ?_) ?_
                    rotate_left; exact P_stop
                    refine P_h rfl rfl (Wh_store rfl rfl rfl (.there (.here)) (.put (.put (.put (.done)))) rfl (List.cons_ne_nil _ _) agg41.2 ?_) ?_
                    rotate_left; exact P_stop
                    refine P_done ?_
                    exact T_metP (x151.Void, x151.Z.Lo, x151.Z.Hi, x162.Void, x162.Z.Lo, x162.Z.Hi) (g241, g231) hx176 trivial (by exact .cons rfl (.cons rfl (.cons rfl (.cons rfl (.cons rfl (.cons rfl (.cons rfl (.nil)))))))) (by exact .pick 1 rfl (.pick 0 rfl (.pick 0 rfl (.pick 0 rfl (.pick 0 rfl (.pick 0 rfl (.pick 0 rfl (.refl))))))))
              · skip
                refine P_x rfl (Wx_alloc zer41 rfl (fun g242 => ?_)) ?_
                rotate_left; exact P_stop
                refine P_x rfl (Wx_val (Ev_load1 rfl (i := 5) rfl rfl one24) rfl ?_) ?_
                · skip
                  have hw250 := Has.low (E := []) ha1' hK
                  obtain ⟨b243, o244, j245, hA246, hj247, hl248, hp249⟩ := Has.at_idx hw250 h163
                  refine P_p rfl rfl (Ev_index rfl rfl hA246 (j := j245) hj247 hl248 slc24) rfl ?_
                  refine P_x rfl (Wx_val (Ev_loadPK0 rfl hp249 (SubE.cons2 (i := 7) rfl (SubE.nil)) rfl agg41) rfl ?_) ?_
                  · skip
                    refine P_h rfl rfl (Wh_store rfl rfl rfl (.here) (.put (.put (.put (.done)))) rfl (List.cons_ne_nil _ _) agg41.2 ?_) ?_
                    rotate_left; exact P_stop
                    refine P_h rfl rfl (Wh_store rfl rfl rfl (.there (.here)) (.put (.put (.put (.done)))) rfl (List.cons_ne_nil _ _) agg41.2 ?_) ?_
                    rotate_left; exact P_stop
                    refine P_done ?_
                    exact T_metP (x151.Void, x151.Z.Lo, x151.Z.Hi, x162.Void, x162.Z.Lo, x162.Z.Hi) (g242, g231) hx176 trivial (by exact .cons rfl (.cons rfl (.cons rfl (.cons rfl (.cons rfl (.cons rfl (.cons rfl (.nil)))))))) (by exact .pick 1 rfl (.pick 0 rfl (.pick 0 rfl (.pick 0 rfl (.pick 0 rfl (.pick 0 rfl (.pick 0 rfl (.refl))))))))
                  · skip
                    refine P_h rfl rfl (Wh_store rfl rfl rfl (.here) (.put (.put (.put (.done)))) rfl (List.cons_ne_nil _ _) agg41.2 ?_) ?_
                    rotate_left; exact P_stop
                    refine P_x rfl (Wx_val (Ev_loadPK0 rfl hp249 (SubE.cons2 (i := 7) rfl (SubE.nil)) rfl agg41) rfl ?_) ?_
                    rotate_left; exact P_stop
                    refine P_h rfl rfl (Wh_store rfl rfl rfl (.there (.here)) (.put (.put (.put (.done)))) rfl (List.cons_ne_nil _ _) agg41.2 ?_) ?_
                    rotate_left; exact P_stop
                    refine P_done ?_
                    exact T_metP (x151.Void, x151.Z.Lo, x151.Z.Hi, x162.Void, x162.Z.Lo, x162.Z.Hi) (g242, g231) hx176 trivial (by exact .cons rfl (.cons rfl (.cons rfl (.cons rfl (.cons rfl (.cons rfl (.cons rfl (.nil)))))))) (by exact .pick 1 rfl (.pick 0 rfl (.pick 0 rfl (.pick 0 rfl (.pick 0 rfl (.pick 0 rfl (.pick 0 rfl (.refl))))))))
                · skip
                  refine P_h rfl rfl (Wh_store rfl rfl rfl (.here) (.put (.put (.put (.done)))) rfl (List.cons_ne_nil _ _) agg41.2 ?_) ?_
                  rotate_left; exact P_stop
                  refine P_x rfl (Wx_val (Ev_load1 rfl (i := 5) rfl rfl one24) rfl ?_) ?_
                  rotate_left; exact P_stop
                  have hw258 := Has.low (E := []) ha1' hK
                  obtain ⟨b251, o252, j253, hA254, hj255, hl256, hp257⟩ := Has.at_idx hw258 h163
                  refine P_p rfl rfl (Ev_index rfl rfl hA254 (j := j253) hj255 hl256 slc24) rfl ?_
                  refine P_x rfl (Wx_val (Ev_loadPK0 rfl hp257 (SubE.cons2 (i := 7) rfl (SubE.nil)) rfl agg41) rfl ?_) ?_
                  rotate_left; exact P_stop
                  refine P_h rfl rfl (Wh_store rfl rfl rfl (.there (.here)) (.put (.put (.put (.done)))) rfl (List.cons_ne_nil _ _) agg41.2 ?_) ?_
                  rotate_left; exact P_stop
                  refine P_done ?_
                  exact T_metP (x151.Void, x151.Z.Lo, x151.Z.Hi, x162.Void, x162.Z.Lo, x162.Z.Hi) (g242, g231) hx176 trivial (by exact .cons rfl (.cons rfl (.cons rfl (.cons rfl (.cons rfl (.cons rfl (.cons rfl (.nil)))))))) (by exact .pick 1 rfl (.pick 0 rfl (.pick 0 rfl (.pick 0 rfl (.pick 0 rfl (.pick 0 rfl (.pick 0 rfl (.refl))))))))
      · have hx150 := ite_f h148 hx146
        refine T_condF rfl ?_
        refine T_exit ?_
        refine T_outX ?_
        obtain rfl := exit_eq ht146 hx150
        refine T_outX ?_
        refine T_here ?_
        exact T_metP s146.1 (y146.1, y146.2) ho146 trivial (by exact .cons rfl (.cons rfl (.nil))) (by exact .pick 0 rfl (.pick 0 rfl (.pick 0 rfl (.drop 0 rfl (.drop 0 rfl (.refl))))))
set_option maxRecDepth 100000 in
theorem model_Consistent_1_ok (p0 : Int)  {r : Bool} (hx : model_Consistent_1 p0 = some r) (w : World) : CtL Try.prog 69 [.int .i64 (p0)] w fun v Ln => v = .bool (r) ∧ Ln = [] ∧ True := by
  refine CtL.mk 9 Try.func69 rfl Try.ntmps69 (by kernel_rfl) rfl ?_
  show T 9 _ [(0, .int .i64 (p0))] _
  unfold model_Consistent_1 at hx
  refine T_seq ?_
  refine T_reg ?_
  refine T_val (Ev_assign rfl) rfl ?_
  refine T_nil ?_
  refine T_next ?_
  obtain ⟨j2, hj2, hx⟩ := jn_some hx
  refine T_cutP (τ := Bool) (γ := Unit) (J := j2) (out := r) (fun s2 y2 => [(2, .bool (s2))]) (fun s2 y2 => [] ++ [.old w]) (fun s2 y2 => True) ?_ ?_
  · intro s2 y2 hx4 hG5
    subst hj2
    refine T_retc ?_
    obtain rfl := Option.some.inj hx4
    exact T_retP (rs := [.tmp 2]) Try.results69 (.tmp rfl (.nil)) (Ln := []) ⟨rfl, rfl, trivial⟩ (loNil) (by exact .refl)
  · skip
    refine T_reg ?_
    refine T_val (Ev_move rfl) rfl ?_
    refine T_val (Ev_eql rfl rfl) rfl ?_
    refine T_val (Ev_move rfl) rfl ?_
    refine T_caseP (s := 5) rfl (fun h1 => ?_) (fun h1 => ?_)
    · have hx2 := ite_t h1 hx
      refine T_skipG rfl rfl rfl rfl rfl ?_
      refine T_skipG rfl rfl rfl rfl rfl ?_
      refine T_val (Ev_pickT rfl rfl) rfl ?_
      refine T_val (Ev_assign rfl) rfl ?_
      refine T_nil ?_
      exact T_metP true () hx2 trivial (by exact .cons rfl (.nil)) (by exact .refl)
    · have hx3 := ite_f h1 hx
      refine T_valG rfl rfl rfl (Ev_move rfl) rfl ?_
      refine T_valG rfl rfl rfl (Ev_eql rfl rfl) rfl ?_
      refine T_val (Ev_pickF rfl rfl) rfl ?_
      refine T_val (Ev_assign rfl) rfl ?_
      refine T_nil ?_
      exact T_metP (decide (p0 = (-1))) () hx3 trivial (by exact .cons rfl (.nil)) (by exact .refl)
set_option maxRecDepth 100000 in
theorem slices_IndexFunc_69_ok (p0 : List Int) {K : List Ent} {A0_0 : Option Addr} {c0_0 : Nat} (ha0 : Has K A0_0 (p0).length c0_0 1 e_i64 (p0)) {r : Int} (hx : slices_IndexFunc_69 p0 = some r) (w : World) (hK : ∀ e ∈ K, Ent.ok w e) : CtL Try.prog 103 [.slice (A0_0) ((p0).length) (c0_0), .func (.func 69) #[] #[]] w fun v Ln => v = .int .i64 (r) ∧ Ln = [] ∧ True := by
  have ha0' := Has.up0 ha0
  refine CtL.mk 19 Try.func103 rfl Try.ntmps103 (by kernel_rfl) rfl ?_
  show T 19 _ [(0, .slice (A0_0) ((p0).length) (c0_0)), (1, .func (.func 69) #[] #[])] _
  unfold slices_IndexFunc_69 at hx
  refine T_seq ?_
  refine T_reg ?_
  refine T_val (Ev_assign rfl) rfl ?_
  refine T_nil ?_
  refine T_next ?_
  obtain ⟨j2, hj2, hx⟩ := jn_some hx
  refine T_cutP (τ := Unit) (γ := Unit) (J := j2) (out := r) (fun s2 y2 => []) (fun s2 y2 => [] ++ [.old w]) (fun s2 y2 => True) ?_ ?_
  · intro s2 y2 hx43 hG44
    subst hj2
    refine T_seq ?_
    refine T_reg ?_
    refine T_val (Ev_assign rfl) rfl ?_
    refine T_nil ?_
    refine T_next ?_
    refine T_retc ?_
    obtain rfl := Option.some.inj hx43
    exact T_retP (rs := [.tmp 4]) Try.results103 (.tmp rfl (.nil)) (Ln := []) ⟨rfl, rfl, trivial⟩ (loNil) (by exact .refl)
  · skip
    refine T_seq ?_
    refine T_reg ?_
    refine T_val (Ev_move rfl) rfl ?_
    refine T_val (Ev_len rfl 3 Try.underlying27) rfl ?_
    refine T_val (Ev_move rfl) rfl ?_
    refine T_nil ?_
    refine T_next ?_
    refine T_block ?_
    obtain ⟨t22, hl22, ho22⟩ := bnd_some hx
    refine T_loopP (σ := Int) (γ := Unit) hl22 (fun s22 y22 => [(0, .slice (A0_0) ((p0).length) (c0_0)), (1, .func (.func 69) #[] #[]), (7, .int .i64 ((((p0).length : Nat) : Int))), (8, .int .i64 (s22))]) (fun s22 y22 => [] ++ [.old w]) (fun s22 y22 => True) () trivial (by exact .cons rfl (.cons rfl (.cons rfl (.cons rfl (.nil))))) (by exact .refl) ?_
    intro s22 y22 hG22 x22 hx22 ht22
    unfold slices_IndexFunc_69_l2 at hx22
    refine T_seq ?_
    refine T_reg ?_
    refine T_val (Ev_lss rfl rfl) rfl ?_
    refine T_nil ?_
    refine T_next ?_
    refine T_seq ?_
    refine T_caseP (s := 9) rfl (fun h23 => ?_) (fun h23 => ?_)
    · have hx24 := ite_t h23 hx22
      refine T_condT rfl ?_
      refine T_skip ?_
      refine T_next ?_
      refine T_seq ?_
      refine T_block ?_
      refine T_seq ?_
      refine T_reg ?_
      refine T_val (Ev_move rfl) rfl ?_
      refine T_val (Ev_assign rfl) rfl ?_
      refine T_nil ?_
      refine T_next ?_
      refine T_seq ?_
      refine T_reg ?_
      refine T_val (Ev_move rfl) rfl ?_
      refine T_val (Ev_move rfl) rfl ?_
      refine T_val (Ev_move rfl) rfl ?_
      obtain ⟨x26, h27, hx28⟩ := bnd_some hx24
      have hw36 := Has.low (E := []) ha0' hK
      obtain ⟨b29, o30, j31, hA32, hj33, hl34, hp35⟩ := Has.at_idx hw36 h27
      refine T_val (Ev_index rfl rfl hA32 (j := j31) hj33 hl34 slc27) rfl ?_
      refine T_val (Ev_loadP0 rfl hp35 (SubE.cons2 (i := 0) rfl (SubE.nil)) rfl one3) rfl ?_
      obtain ⟨r37, h38, hx39⟩ := bnd_some hx28
      refine T_x (Wx_callF rfl rfl (fun w1 hw1 => model_Consistent_1_ok x26  h38 w1) rfl ?_)
      rintro _ _ hlo ⟨rfl, rfl, -⟩
      refine T_app0 ?_
      refine T_nil ?_
      refine T_next ?_
      refine T_caseB (s := 16) rfl (fun h40 => ?_) (fun h40 => ?_)
      · have hx41 := ite_t h40 hx39
        refine T_condT rfl ?_
        refine T_seq ?_
        refine T_reg ?_
        refine T_val (Ev_move rfl) rfl ?_
        refine T_val (Ev_assign rfl) rfl ?_
        refine T_nil ?_
        refine T_next ?_
        refine T_retc ?_
        refine T_inR ?_
        refine T_outR ?_
        obtain rfl := exit_eq ht22 hx41
        refine T_outR ?_
        refine T_inR ?_
        refine T_outR ?_
        obtain rfl := Option.some.inj ho22
        exact T_retP (rs := [.tmp 4]) Try.results103 (.tmp rfl (.nil)) (Ln := []) ⟨rfl, rfl, trivial⟩ (loNil) (by exact .refl)
      · have hx42 := ite_bf h40 hx39
        refine T_condF rfl ?_
        refine T_skip ?_
        refine T_inN ?_
        refine T_next ?_
        refine T_reg ?_
        refine T_val (Ev_add_w64 rfl rfl) rfl ?_
        refine T_val (Ev_move rfl) rfl ?_
        refine T_nil ?_
        exact T_roundP (w64 (s22 + 1)) () hx42 trivial (by exact .cons rfl (.cons rfl (.cons rfl (.cons rfl (.nil))))) (by exact .refl)
    · have hx25 := ite_f h23 hx22
      refine T_condF rfl ?_
      refine T_exit ?_
      refine T_outX ?_
      obtain rfl := exit_eq ht22 hx25
      refine T_outX ?_
      refine T_here ?_
      exact T_metP () () ho22 trivial (by exact .nil) (by exact .refl)
set_option maxRecDepth 100000 in
theorem slices_ContainsFunc_69_ok (p0 : List Int) {K : List Ent} {A0_0 : Option Addr} {c0_0 : Nat} (ha0 : Has K A0_0 (p0).length c0_0 1 e_i64 (p0)) {r : Bool} (hx : slices_ContainsFunc_69 p0 = some r) (w : World) (hK : ∀ e ∈ K, Ent.ok w e) : CtL Try.prog 70 [.slice (A0_0) ((p0).length) (c0_0), .func (.func 69) #[] #[]] w fun v Ln => v = .bool (r) ∧ Ln = [] ∧ True := by
  have ha0' := Has.up0 ha0
  refine CtL.mk 9 Try.func70 rfl Try.ntmps70 (by kernel_rfl) rfl ?_
  show T 9 _ [(0, .slice (A0_0) ((p0).length) (c0_0)), (1, .func (.func 69) #[] #[])] _
  unfold slices_ContainsFunc_69 at hx
  refine T_seq ?_
  refine T_reg ?_
  refine T_val (Ev_assign rfl) rfl ?_
  refine T_nil ?_
  refine T_next ?_
  refine T_seq ?_
  refine T_reg ?_
  refine T_val (Ev_move rfl) rfl ?_
  refine T_val (Ev_move rfl) rfl ?_
  obtain ⟨r1, h2, hx3⟩ := bnd_some hx
  refine T_x (Wx_callL rfl (fun w1 hw1 => slices_IndexFunc_69_ok p0 (Has.len' ha0') h2 w1 (okApp (K := K) (K2 := []) hK (by exact (SubE.cons2 (i := 0) rfl (SubE.nil))) (by exact (SubE.nil)) hw1)) rfl ?_)
  rintro _ _ hlo ⟨rfl, rfl, -⟩
  refine T_app0 ?_
  refine T_val (Ev_geq rfl rfl) rfl ?_
  refine T_val (Ev_assign rfl) rfl ?_
  refine T_nil ?_
  refine T_next ?_
  refine T_retc ?_
  obtain rfl := Option.some.inj hx3
  exact T_retP (rs := [.tmp 4]) Try.results70 (.tmp rfl (.nil)) (Ln := []) ⟨rfl, rfl, trivial⟩ (loNil) (by exact .refl)
set_option maxRecDepth 100000 in
theorem model_Consistent_ok (p0 : S_api_Grid) (p1 : S_api_Grid) {K : List Ent} {A0_0 : Option Addr} {c0_0 : Nat} {A0_1 : Option Addr} {c0_1 : Nat} (ha0 : Has K A0_0 (p0.Cells).length c0_0 3 e_api_Cell (p0.Cells)) (ha1 : Has K A0_1 (p1.Cells).length c0_1 3 e_api_Cell (p1.Cells)) {r : Bool × Int} (hx : model_Consistent p0 p1 = some r) (w : World) (hK : ∀ e ∈ K, Ent.ok w e) : CtL Try.prog 31 [.agg #[.int .i64 (p0.Raster.X0), .int .i64 (p0.Raster.Y0), .int .i64 (p0.Raster.Step), .int .i64 (p0.Raster.NX), .int .i64 (p0.Raster.NY), .slice (A0_0) ((p0.Cells).length) (c0_0)], .agg #[.int .i64 (p1.Raster.X0), .int .i64 (p1.Raster.Y0), .int .i64 (p1.Raster.Step), .int .i64 (p1.Raster.NX), .int .i64 (p1.Raster.NY), .slice (A0_1) ((p1.Cells).length) (c0_1)]] w fun v Ln => v = .tuple #[.bool (r.1), .int .i64 (r.2)] ∧ Ln = [] ∧ True := by
  have ha0' := Has.up0 ha0
  have ha1' := Has.up0 ha1
  refine CtL.mk 20 Try.func31 rfl Try.ntmps31 (by kernel_rfl) rfl ?_
  show T 20 _ [(0, .agg #[.int .i64 (p0.Raster.X0), .int .i64 (p0.Raster.Y0), .int .i64 (p0.Raster.Step), .int .i64 (p0.Raster.NX), .int .i64 (p0.Raster.NY), .slice (A0_0) ((p0.Cells).length) (c0_0)]), (1, .agg #[.int .i64 (p1.Raster.X0), .int .i64 (p1.Raster.Y0), .int .i64 (p1.Raster.Step), .int .i64 (p1.Raster.NX), .int .i64 (p1.Raster.NY), .slice (A0_1) ((p1.Cells).length) (c0_1)])] _
  unfold model_Consistent at hx
  refine T_seq ?_
  refine T_reg ?_
  refine T_x (Wx_box rfl rfl rfl (fun g1 => ?_))
  refine T_x (Wx_box rfl rfl rfl (fun g2 => ?_))
  refine T_val (Ev_assign rfl) rfl ?_
  refine T_val (Ev_assign rfl) rfl ?_
  refine T_nil ?_
  refine T_next ?_
  refine T_seq ?_
  refine T_seq ?_
  refine T_reg ?_
  refine T_val (Ev_loadK rfl (i := 1) rfl rfl agg26) rfl ?_
  refine T_val (Ev_loadK rfl (i := 0) rfl rfl agg26) rfl ?_
  obtain ⟨r3, h4, hx5⟩ := bnd_some hx
  refine T_x (Wx_callL rfl (fun w1 hw1 => model_pair_ok p0 p1 (Has.len' ha0') (Has.len' ha1') h4 w1 (okApp (K := K) (K2 := []) hK (by exact (SubE.cons2 (i := 2) rfl (SubE.nil))) (by exact (SubE.nil)) hw1)) rfl ?_)
  rintro _ _ hlo ⟨rfl, rfl, -⟩
  refine T_app0 ?_
  refine T_val (Ev_assign rfl) rfl ?_
  refine T_nil ?_
  refine T_next ?_
  refine T_seq ?_
  refine T_reg ?_
  refine T_val (Ev_move rfl) rfl ?_
  refine T_val (Ev_neq rfl rfl) rfl ?_
  refine T_nil ?_
  refine T_next ?_
  refine T_caseNP (s := 12) rfl (fun h6 => ?_) (fun h6 => ?_)
  · have hx7 := ite_f h6 hx5
    refine T_condT rfl ?_
    refine T_seq ?_
    refine T_reg ?_
    refine T_val (Ev_move rfl) rfl ?_
    refine T_val (Ev_assign rfl) rfl ?_
    refine T_val (Ev_assign rfl) rfl ?_
    refine T_nil ?_
    refine T_next ?_
    refine T_retc ?_
    refine T_outR ?_
    obtain rfl := Option.some.inj hx7
    exact T_retP (rs := [.tmp 4, .tmp 5]) Try.results31 (.tmp rfl (.tmp rfl (.nil))) (Ln := []) ⟨rfl, rfl, trivial⟩ (loNil) (by exact .drop 0 rfl (.drop 0 rfl (.refl)))
  · have hx8 := ite_t h6 hx5
    refine T_condF rfl ?_
    refine T_skip ?_
    refine T_next ?_
    refine T_seq ?_
    refine T_reg ?_
    refine T_val (Ev_assign rfl) rfl ?_
    refine T_nil ?_
    refine T_next ?_
    refine T_seq ?_
    refine T_reg ?_
    refine T_val (Ev_loadK rfl (i := 1) rfl rfl agg26) rfl ?_
    refine T_val (Ev_loadK rfl (i := 0) rfl rfl agg26) rfl ?_
    obtain ⟨r9, h10, hx11⟩ := bnd_some hx8
    refine T_x (Wx_callL rfl (fun w1 hw1 => model_states_ok p0 p1 (Has.len' ha0') (Has.len' ha1') h10 w1 (okApp (K := K) (K2 := []) hK (by exact (SubE.cons2 (i := 2) rfl (SubE.nil))) (by exact (SubE.nil)) hw1)) rfl ?_)
    rintro _ _ hlo ⟨A12, c13, rfl, rfl, -⟩
    refine T_app1 ?_
    refine T_val (Ev_move rfl) rfl ?_
    refine T_rowP (k := 0) rfl (by decide) (fun _ => rfl) (fun hn14 hs15 => ?_)
    obtain ⟨r16, h17, hx18⟩ := bnd_some hx11
    refine T_x (Wx_callL rfl (fun w1 hw1 => slices_ContainsFunc_69_ok r9 (Has.len' hs15) h17 w1 (okAll (K := ([.r (A12) ((r9).length) (c13) 3 1 ((r9).flatMap e_i64)] : List Ent)) (by exact (SubE.cons2 (i := 0) rfl (SubE.nil))) hw1)) rfl ?_)
    rintro _ _ hlo ⟨rfl, rfl, -⟩
    refine T_app0 ?_
    refine T_val (Ev_not rfl) rfl ?_
    refine T_val (Ev_assign rfl) rfl ?_
    refine T_val (Ev_assign rfl) rfl ?_
    refine T_nil ?_
    refine T_next ?_
    refine T_retc ?_
    obtain rfl := Option.some.inj hx18
    exact T_retP (rs := [.tmp 4, .tmp 5]) Try.results31 (.tmp rfl (.tmp rfl (.nil))) (Ln := []) ⟨rfl, rfl, trivial⟩ (loNil) (by exact .drop 0 rfl (.drop 0 rfl (.drop 0 rfl (.refl))))
set_option maxRecDepth 100000 in
theorem lidarlaw09_ModelCompares_ok (p0 : S_api_Grid) (p1 : S_api_Grid) {K : List Ent} {A0_0 : Option Addr} {c0_0 : Nat} {A0_1 : Option Addr} {c0_1 : Nat} (ha0 : Has K A0_0 (p0.Cells).length c0_0 3 e_api_Cell (p0.Cells)) (ha1 : Has K A0_1 (p1.Cells).length c0_1 3 e_api_Cell (p1.Cells)) {r : Bool} (hx : lidarlaw09_ModelCompares p0 p1 = some r) (w : World) (hK : ∀ e ∈ K, Ent.ok w e) : CtL Try.prog 6 [.agg #[.int .i64 (p0.Raster.X0), .int .i64 (p0.Raster.Y0), .int .i64 (p0.Raster.Step), .int .i64 (p0.Raster.NX), .int .i64 (p0.Raster.NY), .slice (A0_0) ((p0.Cells).length) (c0_0)], .agg #[.int .i64 (p1.Raster.X0), .int .i64 (p1.Raster.Y0), .int .i64 (p1.Raster.Step), .int .i64 (p1.Raster.NX), .int .i64 (p1.Raster.NY), .slice (A0_1) ((p1.Cells).length) (c0_1)]] w fun v Ln => v = .bool (r) ∧ Ln = [] ∧ True := by
  have ha0' := Has.up0 ha0
  have ha1' := Has.up0 ha1
  refine CtL.mk 122 Try.func6 rfl Try.ntmps6 (by kernel_rfl) rfl ?_
  show T 122 _ [(0, .agg #[.int .i64 (p0.Raster.X0), .int .i64 (p0.Raster.Y0), .int .i64 (p0.Raster.Step), .int .i64 (p0.Raster.NX), .int .i64 (p0.Raster.NY), .slice (A0_0) ((p0.Cells).length) (c0_0)]), (1, .agg #[.int .i64 (p1.Raster.X0), .int .i64 (p1.Raster.Y0), .int .i64 (p1.Raster.Step), .int .i64 (p1.Raster.NX), .int .i64 (p1.Raster.NY), .slice (A0_1) ((p1.Cells).length) (c0_1)])] _
  unfold lidarlaw09_ModelCompares at hx
  refine T_seq ?_
  refine T_reg ?_
  refine T_x (Wx_box rfl rfl rfl (fun g1 => ?_))
  refine T_x (Wx_box rfl rfl rfl (fun g2 => ?_))
  refine T_val (Ev_assign rfl) rfl ?_
  refine T_nil ?_
  refine T_next ?_
  refine T_seq ?_
  obtain ⟨j3, hj3, hx⟩ := jn_some hx
  refine T_cutP (τ := Bool) (γ := Unit) (J := j3) (out := r) (fun s3 y3 => [(2, .pointer (some ⟨g1, 0, none⟩)), (3, .pointer (some ⟨g2, 0, none⟩)), (21, .bool (s3))]) (fun s3 y3 => [.m g2 26 [.int .i64 (p1.Raster.X0), .int .i64 (p1.Raster.Y0), .int .i64 (p1.Raster.Step), .int .i64 (p1.Raster.NX), .int .i64 (p1.Raster.NY), .slice (A0_1) ((p1.Cells).length) (c0_1)], .m g1 26 [.int .i64 (p0.Raster.X0), .int .i64 (p0.Raster.Y0), .int .i64 (p0.Raster.Step), .int .i64 (p0.Raster.NX), .int .i64 (p0.Raster.NY), .slice (A0_0) ((p0.Cells).length) (c0_0)]] ++ [.old w]) (fun s3 y3 => True) ?_ ?_
  · intro s3 y3 hx12 hG13
    subst hj3
    refine T_caseB (s := 21) rfl (fun h14 => ?_) (fun h14 => ?_)
    · have hx15 := ite_t h14 hx12
      refine T_condT rfl ?_
      refine T_seq ?_
      refine T_reg ?_
      obtain ⟨r16, h17, hx18⟩ := bnd_some hx15
      refine T_x (Wx_callL rfl (fun w1 hw1 => lidarlaw09_first_ok  h17 w1) rfl ?_)
      rintro _ _ hlo ⟨rfl, rfl, -⟩
      refine T_app0 ?_
      refine T_val (Ev_assign rfl) rfl ?_
      refine T_nil ?_
      refine T_next ?_
      refine T_retc ?_
      refine T_outR ?_
      obtain rfl := Option.some.inj hx18
      exact T_retP (rs := [.tmp 4]) Try.results6 (.tmp rfl (.nil)) (Ln := []) ⟨rfl, rfl, trivial⟩ (loNil) (by exact .drop 0 rfl (.drop 0 rfl (.refl)))
    · have hx19 := ite_bf h14 hx12
      refine T_condF rfl ?_
      refine T_skip ?_
      refine T_next ?_
      refine T_seq ?_
      refine T_reg ?_
      refine T_val (Ev_loadK rfl (i := 1) rfl rfl agg26) rfl ?_
      refine T_val (Ev_loadK rfl (i := 0) rfl rfl agg26) rfl ?_
      obtain ⟨r20, h21, hx22⟩ := bnd_some hx19
      refine T_x (Wx_callL rfl (fun w1 hw1 => model_Compare_ok p0 p1 (Has.len' ha0') (Has.len' ha1') h21 w1 (okApp (K := K) (K2 := []) hK (by exact (SubE.cons2 (i := 2) rfl (SubE.nil))) (by exact (SubE.nil)) hw1)) rfl ?_)
      rintro _ _ hlo ⟨A23, c24, rfl, rfl, -⟩
      refine T_app1 ?_
      refine T_val (Ev_move rfl) rfl ?_
      refine T_val (Ev_extract rfl rfl) rfl ?_
      refine T_val (Ev_extract rfl rfl) rfl ?_
      refine T_val (Ev_assign rfl) rfl ?_
      refine T_val (Ev_assign rfl) rfl ?_
      refine T_nil ?_
      refine T_next ?_
      refine T_seq ?_
      refine T_reg ?_
      refine T_val (Ev_loadK rfl (i := 2) rfl rfl agg26) rfl ?_
      refine T_val (Ev_loadK rfl (i := 1) rfl rfl agg26) rfl ?_
      obtain ⟨r25, h26, hx27⟩ := bnd_some hx22
      refine T_x (Wx_callL rfl (fun w1 hw1 => model_Consistent_ok p0 p1 (Has.len' ha0') (Has.len' ha1') h26 w1 (okApp (K := K) (K2 := []) hK (by exact (SubE.cons2 (i := 3) rfl (SubE.nil))) (by exact (SubE.nil)) hw1)) rfl ?_)
      rintro _ _ hlo ⟨rfl, rfl, -⟩
      refine T_app0 ?_
      refine T_val (Ev_move rfl) rfl ?_
      refine T_val (Ev_extract rfl rfl) rfl ?_
      refine T_val (Ev_extract rfl rfl) rfl ?_
      refine T_val (Ev_assign rfl) rfl ?_
      refine T_val (Ev_assign rfl) rfl ?_
      refine T_nil ?_
      refine T_next ?_
      refine T_seq ?_
      refine T_reg ?_
      refine T_val (Ev_loadK rfl (i := 2) rfl rfl agg26) rfl ?_
      refine T_val (Ev_loadK rfl (i := 1) rfl rfl agg26) rfl ?_
      obtain ⟨r28, h29, hx30⟩ := bnd_some hx27
      refine T_x (Wx_callL rfl (fun w1 hw1 => model_Common_ok p0 p1 (Has.len' ha0') (Has.len' ha1') h29 w1 (okApp (K := K) (K2 := []) hK (by exact (SubE.cons2 (i := 3) rfl (SubE.nil))) (by exact (SubE.nil)) hw1)) rfl ?_)
      rintro _ _ hlo ⟨A31, c32, rfl, rfl, -⟩
      refine T_app1 ?_
      refine T_val (Ev_move rfl) rfl ?_
      refine T_val (Ev_extract rfl rfl) rfl ?_
      refine T_val (Ev_extract rfl rfl) rfl ?_
      refine T_x (Wx_alloc zer26 rfl (fun g33 => ?_))
      refine T_h (Wh_store rfl rfl rfl (.here) (.put (.put (.put (.put (.put (.put (.done))))))) rfl (List.cons_ne_nil _ _) agg26.2 ?_)
      refine T_val (Ev_assign rfl) rfl ?_
      refine T_nil ?_
      refine T_next ?_
      refine T_seq ?_
      refine T_reg ?_
      refine T_val (Ev_loadK rfl (i := 4) rfl rfl agg26) rfl ?_
      refine T_val (Ev_loadK rfl (i := 3) rfl rfl agg26) rfl ?_
      obtain ⟨r34, h35, hx36⟩ := bnd_some hx30
      refine T_x (Wx_callL rfl (fun w1 hw1 => lidarref09_Common_ok p0 p1 (Has.len' ha0') (Has.len' ha1') h35 w1 (okApp (K := K) (K2 := []) hK (by exact (SubE.cons2 (i := 5) rfl (SubE.nil))) (by exact (SubE.nil)) hw1)) rfl ?_)
      rintro _ _ hlo ⟨A37, c38, rfl, rfl, -⟩
      refine T_app1 ?_
      refine T_val (Ev_move rfl) rfl ?_
      refine T_val (Ev_extract rfl rfl) rfl ?_
      refine T_val (Ev_extract rfl rfl) rfl ?_
      refine T_x (Wx_alloc zer26 rfl (fun g39 => ?_))
      refine T_h (Wh_store rfl rfl rfl (.here) (.put (.put (.put (.put (.put (.put (.done))))))) rfl (List.cons_ne_nil _ _) agg26.2 ?_)
      refine T_val (Ev_assign rfl) rfl ?_
      refine T_nil ?_
      refine T_next ?_
      refine T_seq ?_
      obtain ⟨j10, hj10, hx36⟩ := jn_some hx36
      refine T_cutP (τ := Bool) (γ := Unit) (J := j10) (out := r) (fun s10 y10 => [(2, .pointer (some ⟨g1, 0, none⟩)), (3, .pointer (some ⟨g2, 0, none⟩)), (5, .slice (A23) ((r20.1).length) (c24)), (7, .bool (r25.1)), (12, .int .i64 (r34.2)), (65, .bool (s10))]) (fun s10 y10 => [.r (A23) ((r20.1).length) (c24) 3 1 ((r20.1).flatMap e_i64), .m g2 26 [.int .i64 (p1.Raster.X0), .int .i64 (p1.Raster.Y0), .int .i64 (p1.Raster.Step), .int .i64 (p1.Raster.NX), .int .i64 (p1.Raster.NY), .slice (A0_1) ((p1.Cells).length) (c0_1)], .m g1 26 [.int .i64 (p0.Raster.X0), .int .i64 (p0.Raster.Y0), .int .i64 (p0.Raster.Step), .int .i64 (p0.Raster.NX), .int .i64 (p0.Raster.NY), .slice (A0_0) ((p0.Cells).length) (c0_0)]] ++ [.old w]) (fun s10 y10 => True) ?_ ?_
      · intro s10 y10 hx56 hG57
        subst hj10
        refine T_caseB (s := 65) rfl (fun h58 => ?_) (fun h58 => ?_)
        · have hx59 := ite_t h58 hx56
          refine T_condT rfl ?_
          refine T_seq ?_
          refine T_reg ?_
          refine T_val (Ev_assign rfl) rfl ?_
          refine T_nil ?_
          refine T_next ?_
          refine T_retc ?_
          refine T_outR ?_
          obtain rfl := Option.some.inj hx59
          exact T_retP (rs := [.tmp 4]) Try.results6 (.tmp rfl (.nil)) (Ln := []) ⟨rfl, rfl, trivial⟩ (loNil) (by exact .drop 0 rfl (.drop 0 rfl (.drop 0 rfl (.refl))))
        · have hx60 := ite_bf h58 hx56
          refine T_condF rfl ?_
          refine T_skip ?_
          refine T_next ?_
          refine T_seq ?_
          refine T_seq ?_
          refine T_reg ?_
          refine T_val (Ev_move rfl) rfl ?_
          refine T_val (Ev_neq rfl rfl) rfl ?_
          refine T_nil ?_
          refine T_next ?_
          refine T_caseNP (s := 67) rfl (fun h61 => ?_) (fun h61 => ?_)
          · have hx62 := ite_f h61 hx60
            refine T_condT rfl ?_
            obtain ⟨j14, hj14, hx62⟩ := jn_some hx62
            refine T_cutP (τ := Bool) (γ := Unit) (J := j14) (out := r) (fun s14 y14 => [(4, .bool (s14))]) (fun s14 y14 => [] ++ [.old w]) (fun s14 y14 => True) ?_ ?_
            · intro s14 y14 hx72 hG73
              subst hj14
              refine T_retc ?_
              refine T_outR ?_
              obtain rfl := Option.some.inj hx72
              exact T_retP (rs := [.tmp 4]) Try.results6 (.tmp rfl (.nil)) (Ln := []) ⟨rfl, rfl, trivial⟩ (loNil) (by exact .refl)
            · skip
              refine T_reg ?_
              refine T_val (Ev_move rfl) rfl ?_
              refine T_val (Ev_len rfl 3 Try.underlying27) rfl ?_
              refine T_val (Ev_eql rfl rfl) rfl ?_
              refine T_val (Ev_move rfl) rfl ?_
              refine T_caseP (s := 71) rfl (fun h63 => ?_) (fun h63 => ?_)
              · have hx64 := ite_t h63 hx62
                refine T_valG rfl rfl rfl (Ev_move rfl) rfl ?_
                refine T_valG rfl rfl rfl (Ev_not rfl) rfl ?_
                refine T_val (Ev_pickT rfl rfl) rfl ?_
                refine T_val (Ev_move rfl) rfl ?_
                refine T_caseNB (s := 75) rfl (fun h65 => ?_) (fun h65 => ?_)
                · have hx66 := ite_bf h65 hx64
                  obtain ⟨r67, h68, hx69⟩ := bnd_some hx66
                  refine T_xG rfl rfl rfl (Wx_callL rfl (fun w1 hw1 => lidarlaw09_first_ok  h68 w1) rfl ?_)
                  rintro _ _ hlo ⟨rfl, rfl, -⟩
                  refine T_app0 ?_
                  refine T_val (Ev_pickT rfl rfl) rfl ?_
                  refine T_val (Ev_assign rfl) rfl ?_
                  refine T_nil ?_
                  exact T_metP r67 () hx69 trivial (by exact .cons rfl (.nil)) (by exact .drop 0 rfl (.drop 0 rfl (.drop 0 rfl (.refl))))
                · have hx70 := ite_t h65 hx64
                  refine T_skipG rfl rfl rfl rfl rfl ?_
                  refine T_val (Ev_pickF rfl rfl) rfl ?_
                  refine T_val (Ev_assign rfl) rfl ?_
                  refine T_nil ?_
                  exact T_metP false () hx70 trivial (by exact .cons rfl (.nil)) (by exact .drop 0 rfl (.drop 0 rfl (.drop 0 rfl (.refl))))
              · have hx71 := ite_f h63 hx62
                refine T_skipG rfl rfl rfl rfl rfl ?_
                refine T_skipG rfl rfl rfl rfl rfl ?_
                refine T_val (Ev_pickF rfl rfl) rfl ?_
                refine T_val (Ev_move rfl) rfl ?_
                refine T_skipG rfl rfl rfl rfl rfl ?_
                refine T_val (Ev_pickF rfl rfl) rfl ?_
                refine T_val (Ev_assign rfl) rfl ?_
                refine T_nil ?_
                exact T_metP false () hx71 trivial (by exact .cons rfl (.nil)) (by exact .drop 0 rfl (.drop 0 rfl (.drop 0 rfl (.refl))))
          · have hx74 := ite_t h61 hx60
            refine T_condF rfl ?_
            refine T_skip ?_
            refine T_next ?_
            refine T_seq ?_
            refine T_seq ?_
            refine T_reg ?_
            refine T_val (Ev_move rfl) rfl ?_
            refine T_val (Ev_len rfl 3 Try.underlying27) rfl ?_
            refine T_val (Ev_field rfl fld26_1 rfl) rfl ?_
            refine T_val (Ev_load1 rfl (i := 2) rfl rfl one24) rfl ?_
            refine T_val (Ev_len rfl 41 Try.underlying24) rfl ?_
            refine T_val (Ev_neq rfl rfl) rfl ?_
            refine T_nil ?_
            refine T_next ?_
            refine T_caseNP (s := 83) rfl (fun h75 => ?_) (fun h75 => ?_)
            · have hx76 := ite_f h75 hx74
              refine T_condT rfl ?_
              refine T_seq ?_
              refine T_reg ?_
              refine T_val (Ev_assign rfl) rfl ?_
              refine T_nil ?_
              refine T_next ?_
              refine T_retc ?_
              refine T_outR ?_
              obtain rfl := Option.some.inj hx76
              exact T_retP (rs := [.tmp 4]) Try.results6 (.tmp rfl (.nil)) (Ln := []) ⟨rfl, rfl, trivial⟩ (loNil) (by exact .drop 0 rfl (.drop 0 rfl (.drop 0 rfl (.refl))))
            · have hx77 := ite_t h75 hx74
              refine T_condF rfl ?_
              refine T_skip ?_
              refine T_next ?_
              refine T_seq ?_
              refine T_reg ?_
              refine T_val (Ev_assign rfl) rfl ?_
              refine T_nil ?_
              refine T_next ?_
              obtain ⟨j19, hj19, hx77⟩ := jn_some hx77
              refine T_cutP (τ := Bool) (γ := Unit) (J := j19) (out := r) (fun s19 y19 => [(7, .bool (r25.1)), (13, .bool (s19))]) (fun s19 y19 => [] ++ [.old w]) (fun s19 y19 => True) ?_ ?_
              · intro s19 y19 hx180 hG181
                subst hj19
                obtain ⟨j35, hj35, hx180⟩ := jn_some hx180
                refine T_cutP (τ := Bool) (γ := Unit) (J := j35) (out := r) (fun s35 y35 => [(4, .bool (s35))]) (fun s35 y35 => [] ++ [.old w]) (fun s35 y35 => True) ?_ ?_
                · intro s35 y35 hx188 hG189
                  subst hj35
                  refine T_retc ?_
                  obtain rfl := Option.some.inj hx188
                  exact T_retP (rs := [.tmp 4]) Try.results6 (.tmp rfl (.nil)) (Ln := []) ⟨rfl, rfl, trivial⟩ (loNil) (by exact .refl)
                · skip
                  refine T_reg ?_
                  refine T_val (Ev_move rfl) rfl ?_
                  refine T_val (Ev_move rfl) rfl ?_
                  refine T_val (Ev_eqlB rfl rfl (by kernel_rfl)) rfl ?_
                  refine T_val (Ev_move rfl) rfl ?_
                  refine T_caseB (s := 119) rfl (fun h182 => ?_) (fun h182 => ?_)
                  · have hx183 := ite_t h182 hx180
                    obtain ⟨r184, h185, hx186⟩ := bnd_some hx183
                    refine T_xG rfl rfl rfl (Wx_callL rfl (fun w1 hw1 => lidarlaw09_first_ok  h185 w1) rfl ?_)
                    rintro _ _ hlo ⟨rfl, rfl, -⟩
                    refine T_app0 ?_
                    refine T_val (Ev_pickT rfl rfl) rfl ?_
                    refine T_val (Ev_assign rfl) rfl ?_
                    refine T_nil ?_
                    exact T_metP r184 () hx186 trivial (by exact .cons rfl (.nil)) (by exact .refl)
                  · have hx187 := ite_bf h182 hx180
                    refine T_skipG rfl rfl rfl rfl rfl ?_
                    refine T_val (Ev_pickF rfl rfl) rfl ?_
                    refine T_val (Ev_assign rfl) rfl ?_
                    refine T_nil ?_
                    exact T_metP false () hx187 trivial (by exact .cons rfl (.nil)) (by exact .refl)
              · skip
                refine T_seq ?_
                refine T_reg ?_
                refine T_val (Ev_assign rfl) rfl ?_
                refine T_nil ?_
                refine T_next ?_
                refine T_block ?_
                obtain ⟨t129, hl129, ho129⟩ := bnd_some hx77
                refine T_loopP (σ := Bool × Int) (γ := Unit) hl129 (fun s129 y129 => [(2, .pointer (some ⟨g1, 0, none⟩)), (3, .pointer (some ⟨g2, 0, none⟩)), (5, .slice (A23) ((r20.1).length) (c24)), (7, .bool (r25.1)), (13, .bool (s129.1)), (14, .int .i64 (s129.2))]) (fun s129 y129 => [.r (A23) ((r20.1).length) (c24) 3 1 ((r20.1).flatMap e_i64), .m g2 26 [.int .i64 (p1.Raster.X0), .int .i64 (p1.Raster.Y0), .int .i64 (p1.Raster.Step), .int .i64 (p1.Raster.NX), .int .i64 (p1.Raster.NY), .slice (A0_1) ((p1.Cells).length) (c0_1)], .m g1 26 [.int .i64 (p0.Raster.X0), .int .i64 (p0.Raster.Y0), .int .i64 (p0.Raster.Step), .int .i64 (p0.Raster.NX), .int .i64 (p0.Raster.NY), .slice (A0_0) ((p0.Cells).length) (c0_0)]] ++ [.old w]) (fun s129 y129 => True) () trivial (by exact .cons rfl (.cons rfl (.cons rfl (.cons rfl (.cons rfl (.cons rfl (.nil))))))) (by exact .pick 0 rfl (.pick 0 rfl (.pick 0 rfl (.refl)))) ?_
                intro s129 y129 hG129 x129 hx129 ht129
                unfold lidarlaw09_ModelCompares_l15 at hx129
                refine T_seq ?_
                refine T_seq ?_
                refine T_reg ?_
                refine T_val (Ev_move rfl) rfl ?_
                refine T_val (Ev_move rfl) rfl ?_
                refine T_val (Ev_len rfl 3 Try.underlying27) rfl ?_
                refine T_val (Ev_lss rfl rfl) rfl ?_
                refine T_nil ?_
                refine T_next ?_
                refine T_caseP (s := 87) rfl (fun h130 => ?_) (fun h130 => ?_)
                · have hx131 := ite_t h130 hx129
                  refine T_condT rfl ?_
                  refine T_skip ?_
                  refine T_next ?_
                  refine T_seq ?_
                  refine T_block ?_
                  refine T_seq ?_
                  refine T_draw [0, 1, 0, 0, 1, 0, 1, 0, 0, 1, 2, 2] [[], [0], [], [0, 1, 2], [0, 1, 2, 3], [], [5], [], [5, 6, 7], [5, 6, 7, 8], [0, 1, 2, 3, 4, 5, 6, 7, 8, 9], [0, 1, 2, 3, 4, 5, 6, 7, 8, 9, 10]] (.q 0 (.q 1 (.q 2 (.q 3 (.q 4 (.q 5 (.q 6 (.q 7 (.q 8 (.q 9 (.e 10 (.e 11 (.done) (.stop)) (.stop)))))))))))) mixed (by kernel_rfl) (by kernel_rfl) ?_
                  refine P_p rfl rfl (Ev_field rfl fld26_1 rfl) rfl ?_
                  refine P_q rfl rfl (Ev_load1 rfl (i := 2) rfl rfl one24) rfl ?_
                  refine P_p rfl rfl (Ev_move rfl) rfl ?_
                  obtain ⟨x133, h134, hx135⟩ := bnd_some hx131
                  have hw143 := Has.low (E := []) ha0' hK
                  obtain ⟨b136, o137, j138, hA139, hj140, hl141, hp142⟩ := Has.at_idx hw143 h134
                  refine P_p rfl rfl (Ev_index rfl rfl hA139 (j := j138) hj140 hl141 slc24) rfl ?_
                  refine P_q rfl rfl (Ev_loadPK0 rfl hp142 (SubE.cons2 (i := 3) rfl (SubE.nil)) rfl agg41) rfl ?_
                  refine P_p rfl rfl (Ev_field rfl fld26_1 rfl) rfl ?_
                  refine P_q rfl rfl (Ev_load1 rfl (i := 1) rfl rfl one24) rfl ?_
                  refine P_p rfl rfl (Ev_move rfl) rfl ?_
                  obtain ⟨x144, h145, hx146⟩ := bnd_some hx135
                  have hw154 := Has.low (E := []) ha1' hK
                  obtain ⟨b147, o148, j149, hA150, hj151, hl152, hp153⟩ := Has.at_idx hw154 h145
                  refine P_p rfl rfl (Ev_index rfl rfl hA150 (j := j149) hj151 hl152 slc24) rfl ?_
                  refine P_q rfl rfl (Ev_loadPK0 rfl hp153 (SubE.cons2 (i := 3) rfl (SubE.nil)) rfl agg41) rfl ?_
                  obtain ⟨r155, h156, hx157⟩ := bnd_some hx146
                  refine P_x rfl (Wx_callL rfl (fun w1 hw1 => lidarref09_State_ok x133 x144  h156 w1) rfl ?_) ?_
                  rotate_left; exact P_stop
                  rintro _ _ hlo ⟨rfl, rfl, -⟩
                  refine T_app0 ?_
                  refine P_x rfl (Wx_val (Ev_assign rfl) rfl ?_) ?_
                  rotate_left; exact P_stop
                  refine P_done ?_
                  refine T_next ?_
                  obtain ⟨j32, hj32, hx157⟩ := jn_some hx157
                  refine T_cutP (τ := Bool) (γ := Unit) (J := j32) (out := x129) (fun s32 y32 => [(2, .pointer (some ⟨g1, 0, none⟩)), (3, .pointer (some ⟨g2, 0, none⟩)), (5, .slice (A23) ((r20.1).length) (c24)), (7, .bool (r25.1)), (13, .bool (s32)), (14, .int .i64 (s129.2)), (15, .int .i64 (r155))]) (fun s32 y32 => [.r (A23) ((r20.1).length) (c24) 3 1 ((r20.1).flatMap e_i64), .m g2 26 [.int .i64 (p1.Raster.X0), .int .i64 (p1.Raster.Y0), .int .i64 (p1.Raster.Step), .int .i64 (p1.Raster.NX), .int .i64 (p1.Raster.NY), .slice (A0_1) ((p1.Cells).length) (c0_1)], .m g1 26 [.int .i64 (p0.Raster.X0), .int .i64 (p0.Raster.Y0), .int .i64 (p0.Raster.Step), .int .i64 (p0.Raster.NX), .int .i64 (p0.Raster.NY), .slice (A0_0) ((p0.Cells).length) (c0_0)]] ++ [.old w]) (fun s32 y32 => True) ?_ ?_
                  · intro s32 y32 hx164 hG165
                    subst hj32
                    refine T_seq ?_
                    refine T_reg ?_
                    refine T_val (Ev_move rfl) rfl ?_
                    refine T_val (Ev_move rfl) rfl ?_
                    obtain ⟨x166, h167, hx168⟩ := bnd_some hx164
                    refine T_idxR (k := 0) rfl (by decide) (fun _ => rfl) h167 (fun b169 j171 hA172 hj173 hl174 hm176 hp175 => ?_)
                    refine T_val (Ev_index rfl rfl hA172 (j := j171) hj173 hl174 slc27) rfl ?_
                    refine T_val (Ev_loadP0 rfl hp175 (SubE.cons2 (i := 0) rfl (SubE.nil)) rfl one3) rfl ?_
                    refine T_val (Ev_move rfl) rfl ?_
                    refine T_val (Ev_neq rfl rfl) rfl ?_
                    refine T_nil ?_
                    refine T_next ?_
                    refine T_caseNP (s := 115) rfl (fun h177 => ?_) (fun h177 => ?_)
                    · have hx178 := ite_f h177 hx168
                      refine T_condT rfl ?_
                      refine T_seq ?_
                      refine T_reg ?_
                      refine T_val (Ev_assign rfl) rfl ?_
                      refine T_nil ?_
                      refine T_next ?_
                      refine T_retc ?_
                      refine T_inR ?_
                      refine T_outR ?_
                      obtain rfl := exit_eq ht129 hx178
                      refine T_outR ?_
                      refine T_inR ?_
                      refine T_outR ?_
                      obtain rfl := Option.some.inj ho129
                      exact T_retP (rs := [.tmp 4]) Try.results6 (.tmp rfl (.nil)) (Ln := []) ⟨rfl, rfl, trivial⟩ (loNil) (by exact .drop 0 rfl (.drop 0 rfl (.drop 0 rfl (.refl))))
                    · have hx179 := ite_t h177 hx168
                      refine T_condF rfl ?_
                      refine T_skip ?_
                      refine T_inN ?_
                      refine T_next ?_
                      refine T_reg ?_
                      refine T_val (Ev_move rfl) rfl ?_
                      refine T_val (Ev_add_w64 rfl rfl) rfl ?_
                      refine T_val (Ev_assign rfl) rfl ?_
                      refine T_nil ?_
                      exact T_roundP (s32, w64 (s129.2 + 1)) () hx179 trivial (by exact .cons rfl (.cons rfl (.cons rfl (.cons rfl (.cons rfl (.cons rfl (.nil))))))) (by exact .pick 0 rfl (.pick 0 rfl (.pick 0 rfl (.refl))))
                  · skip
                    refine T_reg ?_
                    refine T_val (Ev_move rfl) rfl ?_
                    refine T_val (Ev_move rfl) rfl ?_
                    refine T_caseB (s := 102) rfl (fun h158 => ?_) (fun h158 => ?_)
                    · have hx159 := ite_t h158 hx157
                      refine T_valG rfl rfl rfl (Ev_move rfl) rfl ?_
                      refine T_valG rfl rfl rfl (Ev_neq rfl rfl) rfl ?_
                      refine T_val (Ev_pickT rfl rfl) rfl ?_
                      refine T_val (Ev_move rfl) rfl ?_
                      refine T_caseNP (s := 106) rfl (fun h160 => ?_) (fun h160 => ?_)
                      · have hx161 := ite_f h160 hx159
                        refine T_valG rfl rfl rfl (Ev_move rfl) rfl ?_
                        refine T_valG rfl rfl rfl (Ev_neq rfl rfl) rfl ?_
                        refine T_val (Ev_pickT rfl rfl) rfl ?_
                        refine T_val (Ev_assign rfl) rfl ?_
                        refine T_nil ?_
                        exact T_metP (!(decide (r155 = (-1)))) () hx161 trivial (by exact .cons rfl (.cons rfl (.cons rfl (.cons rfl (.cons rfl (.cons rfl (.cons rfl (.nil)))))))) (by exact .pick 0 rfl (.pick 0 rfl (.pick 0 rfl (.refl))))
                      · have hx162 := ite_t h160 hx159
                        refine T_skipG rfl rfl rfl rfl rfl ?_
                        refine T_skipG rfl rfl rfl rfl rfl ?_
                        refine T_val (Ev_pickF rfl rfl) rfl ?_
                        refine T_val (Ev_assign rfl) rfl ?_
                        refine T_nil ?_
                        exact T_metP false () hx162 trivial (by exact .cons rfl (.cons rfl (.cons rfl (.cons rfl (.cons rfl (.cons rfl (.cons rfl (.nil)))))))) (by exact .pick 0 rfl (.pick 0 rfl (.pick 0 rfl (.refl))))
                    · have hx163 := ite_bf h158 hx157
                      refine T_skipG rfl rfl rfl rfl rfl ?_
                      refine T_skipG rfl rfl rfl rfl rfl ?_
                      refine T_val (Ev_pickF rfl rfl) rfl ?_
                      refine T_val (Ev_move rfl) rfl ?_
                      refine T_skipG rfl rfl rfl rfl rfl ?_
                      refine T_skipG rfl rfl rfl rfl rfl ?_
                      refine T_val (Ev_pickF rfl rfl) rfl ?_
                      refine T_val (Ev_assign rfl) rfl ?_
                      refine T_nil ?_
                      exact T_metP false () hx163 trivial (by exact .cons rfl (.cons rfl (.cons rfl (.cons rfl (.cons rfl (.cons rfl (.cons rfl (.nil)))))))) (by exact .pick 0 rfl (.pick 0 rfl (.pick 0 rfl (.refl))))
                · have hx132 := ite_f h130 hx129
                  refine T_condF rfl ?_
                  refine T_exit ?_
                  refine T_outX ?_
                  obtain rfl := exit_eq ht129 hx132
                  refine T_outX ?_
                  refine T_here ?_
                  exact T_metP s129.1 () ho129 trivial (by exact .cons rfl (.cons rfl (.nil))) (by exact .drop 0 rfl (.drop 0 rfl (.drop 0 rfl (.refl))))
      · skip
        refine T_reg ?_
        refine T_val (Ev_move rfl) rfl ?_
        refine T_val (Ev_move rfl) rfl ?_
        refine T_val (Ev_neq rfl rfl) rfl ?_
        refine T_val (Ev_move rfl) rfl ?_
        refine T_caseNP (s := 50) rfl (fun h40 => ?_) (fun h40 => ?_)
        · have hx41 := ite_f h40 hx36
          refine T_skipG rfl rfl rfl rfl rfl ?_
          refine T_skipG rfl rfl rfl rfl rfl ?_
          refine T_skipG rfl rfl rfl rfl rfl ?_
          refine T_val (Ev_pickT rfl rfl) rfl ?_
          refine T_val (Ev_move rfl) rfl ?_
          refine T_skipG rfl rfl rfl rfl rfl ?_
          refine T_skipG rfl rfl rfl rfl rfl ?_
          refine T_skipG rfl rfl rfl rfl rfl ?_
          refine T_val (Ev_pickT rfl rfl) rfl ?_
          refine T_val (Ev_move rfl) rfl ?_
          refine T_skipG rfl rfl rfl rfl rfl ?_
          refine T_skipG rfl rfl rfl rfl rfl ?_
          refine T_skipG rfl rfl rfl rfl rfl ?_
          refine T_skipG rfl rfl rfl rfl rfl ?_
          refine T_val (Ev_pickT rfl rfl) rfl ?_
          refine T_nil ?_
          exact T_metP true () hx41 trivial (by exact .cons rfl (.cons rfl (.cons rfl (.cons rfl (.cons rfl (.cons rfl (.nil))))))) (by exact .pick 4 rfl (.pick 4 rfl (.pick 4 rfl (.drop 0 rfl (.drop 0 rfl (.drop 0 rfl (.drop 0 rfl (.refl))))))))
        · have hx42 := ite_t h40 hx36
          refine T_valG rfl rfl rfl (Ev_move rfl) rfl ?_
          refine T_valG rfl rfl rfl (Ev_move rfl) rfl ?_
          refine T_valG rfl rfl rfl (Ev_neq rfl rfl) rfl ?_
          refine T_val (Ev_pickF rfl rfl) rfl ?_
          refine T_val (Ev_move rfl) rfl ?_
          refine T_caseNP (s := 55) rfl (fun h43 => ?_) (fun h43 => ?_)
          · have hx44 := ite_f h43 hx42
            refine T_skipG rfl rfl rfl rfl rfl ?_
            refine T_skipG rfl rfl rfl rfl rfl ?_
            refine T_skipG rfl rfl rfl rfl rfl ?_
            refine T_val (Ev_pickT rfl rfl) rfl ?_
            refine T_val (Ev_move rfl) rfl ?_
            refine T_skipG rfl rfl rfl rfl rfl ?_
            refine T_skipG rfl rfl rfl rfl rfl ?_
            refine T_skipG rfl rfl rfl rfl rfl ?_
            refine T_skipG rfl rfl rfl rfl rfl ?_
            refine T_val (Ev_pickT rfl rfl) rfl ?_
            refine T_nil ?_
            exact T_metP true () hx44 trivial (by exact .cons rfl (.cons rfl (.cons rfl (.cons rfl (.cons rfl (.cons rfl (.nil))))))) (by exact .pick 4 rfl (.pick 4 rfl (.pick 4 rfl (.drop 0 rfl (.drop 0 rfl (.drop 0 rfl (.drop 0 rfl (.refl))))))))
          · have hx45 := ite_t h43 hx42
            refine T_valG rfl rfl rfl (Ev_move rfl) rfl ?_
            refine T_valG rfl rfl rfl (Ev_move rfl) rfl ?_
            refine T_valG rfl rfl rfl (Ev_neq rfl rfl) rfl ?_
            refine T_val (Ev_pickF rfl rfl) rfl ?_
            refine T_val (Ev_move rfl) rfl ?_
            refine T_caseNP (s := 60) rfl (fun h46 => ?_) (fun h46 => ?_)
            · have hx47 := ite_f h46 hx45
              refine T_skipG rfl rfl rfl rfl rfl ?_
              refine T_skipG rfl rfl rfl rfl rfl ?_
              refine T_skipG rfl rfl rfl rfl rfl ?_
              refine T_skipG rfl rfl rfl rfl rfl ?_
              refine T_val (Ev_pickT rfl rfl) rfl ?_
              refine T_nil ?_
              exact T_metP true () hx47 trivial (by exact .cons rfl (.cons rfl (.cons rfl (.cons rfl (.cons rfl (.cons rfl (.nil))))))) (by exact .pick 4 rfl (.pick 4 rfl (.pick 4 rfl (.drop 0 rfl (.drop 0 rfl (.drop 0 rfl (.drop 0 rfl (.refl))))))))
            · have hx48 := ite_t h46 hx45
              refine T_valG rfl rfl rfl (Ev_loadK rfl (i := 2) rfl rfl agg26) rfl ?_
              refine T_valG rfl rfl rfl (Ev_loadK rfl (i := 0) rfl rfl agg26) rfl ?_
              refine T_rowP (k := 3) rfl (by decide) (fun _ => rfl) (fun hn49 hs50 => ?_)
              refine T_rowP (k := 1) rfl (by decide) (fun _ => rfl) (fun hn51 hs52 => ?_)
              obtain ⟨r53, h54, hx55⟩ := bnd_some hx48
              refine T_xG rfl rfl rfl (Wx_callL rfl (fun w1 hw1 => lidarlaw09_Same_ok r28.1 r34.1 (Has.len' (Has.up (L := ([.r (A31) ((r28.1.Cells).length) (c32) 41 3 ((r28.1.Cells).flatMap e_api_Cell), .r (A37) ((r34.1.Cells).length) (c38) 41 3 ((r34.1.Cells).flatMap e_api_Cell)] : List Ent)) hs50 (SubE.cons2 (i := 0) rfl (SubE.nil)))) (Has.len' (Has.up (L := ([.r (A31) ((r28.1.Cells).length) (c32) 41 3 ((r28.1.Cells).flatMap e_api_Cell), .r (A37) ((r34.1.Cells).length) (c38) 41 3 ((r34.1.Cells).flatMap e_api_Cell)] : List Ent)) hs52 (SubE.cons2 (i := 1) rfl (SubE.nil)))) h54 w1 (okAll (K := ([.r (A31) ((r28.1.Cells).length) (c32) 41 3 ((r28.1.Cells).flatMap e_api_Cell), .r (A37) ((r34.1.Cells).length) (c38) 41 3 ((r34.1.Cells).flatMap e_api_Cell)] : List Ent)) (by exact (SubE.cons2 (i := 3) rfl (SubE.cons2 (i := 1) rfl (SubE.nil)))) hw1)) rfl ?_)
              rintro _ _ hlo ⟨rfl, rfl, -⟩
              refine T_app0 ?_
              refine T_valG rfl rfl rfl (Ev_not rfl) rfl ?_
              refine T_val (Ev_pickF rfl rfl) rfl ?_
              refine T_nil ?_
              exact T_metP (!(r53)) () hx55 trivial (by exact .cons rfl (.cons rfl (.cons rfl (.cons rfl (.cons rfl (.cons rfl (.nil))))))) (by exact .pick 4 rfl (.pick 4 rfl (.pick 4 rfl (.drop 0 rfl (.drop 0 rfl (.drop 0 rfl (.drop 0 rfl (.refl))))))))
  · skip
    refine T_reg ?_
    refine T_val (Ev_loadK rfl (i := 1) rfl rfl agg26) rfl ?_
    obtain ⟨r3, h4, hx5⟩ := bnd_some hx
    refine T_x (Wx_callL rfl (fun w1 hw1 => lidarlaw09_heavy_ok p0 (Has.len' ha0') h4 w1 (okApp (K := K) (K2 := []) hK (by exact (SubE.cons2 (i := 2) rfl (SubE.nil))) (by exact (SubE.nil)) hw1)) rfl ?_)
    rintro _ _ hlo ⟨rfl, rfl, -⟩
    refine T_app0 ?_
    refine T_val (Ev_move rfl) rfl ?_
    refine T_caseB (s := 18) rfl (fun h6 => ?_) (fun h6 => ?_)
    · have hx7 := ite_t h6 hx5
      refine T_skipG rfl rfl rfl rfl rfl ?_
      refine T_skipG rfl rfl rfl rfl rfl ?_
      refine T_val (Ev_pickT rfl rfl) rfl ?_
      refine T_nil ?_
      exact T_metP true () hx7 trivial (by exact .cons rfl (.cons rfl (.cons rfl (.nil)))) (by exact .pick 0 rfl (.pick 0 rfl (.refl)))
    · have hx8 := ite_bf h6 hx5
      refine T_valG rfl rfl rfl (Ev_loadK rfl (i := 0) rfl rfl agg26) rfl ?_
      obtain ⟨r9, h10, hx11⟩ := bnd_some hx8
      refine T_xG rfl rfl rfl (Wx_callL rfl (fun w1 hw1 => lidarlaw09_heavy_ok p1 (Has.len' ha1') h10 w1 (okApp (K := K) (K2 := []) hK (by exact (SubE.cons2 (i := 2) rfl (SubE.nil))) (by exact (SubE.nil)) hw1)) rfl ?_)
      rintro _ _ hlo ⟨rfl, rfl, -⟩
      refine T_app0 ?_
      refine T_val (Ev_pickF rfl rfl) rfl ?_
      refine T_nil ?_
      exact T_metP r9 () hx11 trivial (by exact .cons rfl (.cons rfl (.cons rfl (.nil)))) (by exact .pick 0 rfl (.pick 0 rfl (.refl)))
end Go.Proofs.Ytjhknbpiaikblaa
