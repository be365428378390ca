/- Walks of the program, with their plain functions: exchanges. -/
import Derived.Test.YtjhknbpiaikblaaN9
namespace Go.Proofs.Ytjhknbpiaikblaa
open Go Go.RowKit
theorem bls147_1_0abss (x0 : Bool) (x1 : Option Addr) (x2 : Nat) (x3 : Nat) (x4 : Option Addr) (x5 : Nat) (x6 : Nat) : BuildSliceOf Try.prog 147 1 [(0, .agg #[.bool x0, .slice x1 x2 x3, .slice x4 x5 x6])] 32 [.bool x0, .slice x1 x2 x3, .slice x4 x5 x6] := fun w => by kernel_rfl
theorem bld26_0ai64i64i64i64i64 (x0 : Int) (x1 : Int) (x2 : Int) (x3 : Int) (x4 : Int) : BuildOf Try.prog 26 [(0, .agg #[.int .i64 x0, .int .i64 x1, .int .i64 x2, .int .i64 x3, .int .i64 x4])] [.int .i64 x0, .int .i64 x1, .int .i64 x2, .int .i64 x3, .int .i64 x4, .slice (none) (0) (0)] := fun w => by kernel_rfl
theorem bls24_1_0abi64i64 (x0 : Bool) (x1 : Int) (x2 : Int) : BuildSliceOf Try.prog 24 1 [(0, .agg #[.bool x0, .int .i64 x1, .int .i64 x2])] 41 [.bool x0, .int .i64 x1, .int .i64 x2] := fun w => by kernel_rfl
theorem elm24 : ElemOf Try.prog 24 41 3 24 := ⟨Try.underlying24, ⟨Try.t41, .agg #[.bool (false), .int .i64 (0), .int .i64 (0)], by kernel_rfl, by kernel_rfl, by kernel_rfl, by kernel_rfl, rfl⟩, by decide⟩
noncomputable def ratio_Of (p0 : S_api_Rat) : Option S_ratio_Num :=
 bnd (ratio_nat_norm p0.Den) fun r3 =>
 jn (fun (s3 : List Int) =>
 bnd (ratio_nat_norm p0.Num) fun r18 =>
 bnd (ratio_Num_Reduced (⟨p0.Neg, r18, s3⟩ : S_ratio_Num)) fun r25 =>
 some r25)
 (fun j3 => if ((((r3).length : Nat) : Int)) = 0 then (j3 ([1]))
 else (j3 r3))
noncomputable def ratio_Num_Done (p0 : S_ratio_Num) : Option (S_api_Rat × Int) :=
 bnd (ratio_Num_Reduced p0) fun r3 =>
 jn (fun (s4 : Bool) =>
 if s4 = true then (some ((⟨false, ([] : List Int), ([] : List Int)⟩ : S_api_Rat), 1))
 else (jn (fun (s6 : List Int) =>
 jn (fun (s8 : List Int) =>
 some ((⟨r3.neg, cpy s6 0 r3.n, s8⟩ : S_api_Rat), 0))
 (fun j8 => jn (fun (s9 : Bool) =>
 if s9 = true then (gd ((0 : Int) ≤ ((((r3.d).length : Nat) : Int)) ∧ 4 * Int.toNat ((((r3.d).length : Nat) : Int)) ≤ 140737488355328) <|
 j8 (cpy (List.replicate (Int.toNat ((((r3.d).length : Nat) : Int))) (0 : Int)) 0 r3.d))
 else (j8 ([] : List Int)))
 (fun j9 => if 1 < ((((r3.d).length : Nat) : Int)) then (j9 true)
 else (bnd (idx r3.d 0) fun x47 =>
 j9 (!(decide (x47 = 1)))))))
 (fun j6 => gd ((0 : Int) ≤ ((((r3.n).length : Nat) : Int)) ∧ 4 * Int.toNat ((((r3.n).length : Nat) : Int)) ≤ 140737488355328) <|
 j6 (List.replicate (Int.toNat ((((r3.n).length : Nat) : Int))) (0 : Int)))))
 (fun j4 => if 256 < ((((r3.n).length : Nat) : Int)) then (j4 true)
 else (j4 (decide (256 < ((((r3.d).length : Nat) : Int))))))
noncomputable def ratio_Num_Add (p0 : S_ratio_Num) (p1 : S_ratio_Num) : Option S_ratio_Num :=
 bnd (ratio_nat_mul p0.n p1.d) fun r4 =>
 bnd (ratio_nat_mul p1.n p0.d) fun r13 =>
 bnd (ratio_nat_mul p0.d p1.d) fun r22 =>
 if ((p0.neg) == (p1.neg)) = true then (bnd (ratio_nat_add r4 r13) fun r33 =>
 some (⟨p0.neg, r33, r22⟩ : S_ratio_Num))
 else (bnd (ratio_nat_cmp r4 r13) fun r43 =>
 if 0 ≤ r43 then (bnd (ratio_nat_sub r4 r13) fun r48 =>
 some (⟨p0.neg, r48, r22⟩ : S_ratio_Num))
 else (bnd (ratio_nat_sub r13 r4) fun r58 =>
 some (⟨p1.neg, r58, r22⟩ : S_ratio_Num)))
noncomputable def ratio_Num_Sign (p0 : S_ratio_Num) : Option Int :=
 if ((((p0.n).length : Nat) : Int)) = 0 then (some 0)
 else (if p0.neg = true then (some (-1))
 else (some 1))
noncomputable def exact_Add (p0 : S_api_Rat) (p1 : S_api_Rat) : Option (S_api_Rat × Int) :=
 bnd (exact_anyLarge ([p0, p1])) fun r6 =>
 if r6 = true then (some ((⟨false, ([] : List Int), ([] : List Int)⟩ : S_api_Rat), 1))
 else (bnd (ratio_Of p0) fun r12 =>
 bnd (ratio_Of p1) fun r35 =>
 bnd (ratio_Num_Add r12 r35) fun r58 =>
 bnd (ratio_Num_Done r58) fun r77 =>
 some (r77.1, r77.2))
noncomputable def exact_Sign (p0 : S_api_Rat) : Option (Int × Int) :=
 bnd (exact_anyLarge ([p0])) fun r4 =>
 if r4 = true then (some (0, 1))
 else (bnd (ratio_Of p0) fun r10 =>
 bnd (ratio_Num_Sign r10) fun r33 =>
 some (r33, 0))
noncomputable def lidarlaw09_good (p0 : S_api_Grid) : Option Bool :=
 jn (fun (s2 : Bool) =>
 some s2)
 (fun j2 => if ((((p0.Cells).length : Nat) : Int)) ≤ 100 then (bnd (lidarref09_Valid p0) fun r4 =>
 j2 r4)
 else (j2 false))
noncomputable def lidarlaw09_alike_l3 (p0 : S_api_Grid) (p1 : S_api_Grid) : ((List S_api_Cell) × Int) → Option (Sum ((List S_api_Cell) × Int) (List S_api_Cell)) := fun s46 =>
 if s46.2 < ((((p0.Cells).length : Nat) : Int)) then (bnd (idx p0.Cells s46.2) fun x51 =>
 jn (fun (s15 : Bool × Int × Int) =>
 gd (((s46.1).length + 1) * 24 ≤ 140737488355328) <|
 some (.inl (s46.1 ++ [(⟨s15.1, (⟨s15.2.1, s15.2.2⟩ : S_api_Span)⟩ : S_api_Cell)], w64 (s46.2 + 1))))
 (fun j15 => if 0 < ((((p1.Cells).length : Nat) : Int)) then (gd (((((p1.Cells).length : Nat) : Int)) ≠ 0) <|
 bnd (idx p1.Cells (Int.tmod s46.2 ((((p1.Cells).length : Nat) : Int)))) fun x67 =>
 j15 (x67.Void, x67.Z.Lo, x67.Z.Hi))
 else (j15 (x51.Void, x51.Z.Lo, x51.Z.Hi))))
 else (some (.inr s46.1))
noncomputable def lidarlaw09_alike (p0 : S_api_Grid) (p1 : S_api_Grid) : Option (S_api_Grid × S_api_Grid) :=
 jn (fun (s3 : List S_api_Cell) =>
 jn (fun (s17 : Unit) =>
 some (p0, (⟨p0.Raster, s3⟩ : S_api_Grid)))
 (fun j17 => j17 ()))
 (fun j3 => bnd (lfix (lidarlaw09_alike_l3 p0 p1) (([] : List S_api_Cell), 0)) fun t46 =>
 j3 t46)
noncomputable def lidarlaw09_ModelExchanges_l10 (r31 : (List Int) × Int) (r38 : (List Int) × Int) : ((List Int) × Int) → Option (Sum ((List Int) × Int) (Sum (List Int) Bool)) := fun s188 =>
 if s188.2 < ((((r31.1).length : Nat) : Int)) then (jn (fun (s23 : List Int) =>
 some (.inl (s23, w64 (s188.2 + 1))))
 (fun j23 => jn (fun (s25 : Bool) =>
 if s25 = true then (some (.inr (.inr (false))))
 else (bnd (idx r31.1 s188.2) fun x298 =>
 if x298 = 2 then (j23 s188.1)
 else (gd (((s188.1).length + 1) * 8 ≤ 140737488355328) <|
 j23 (s188.1 ++ [s188.2]))))
 (fun j25 => bnd (idx r31.1 s188.2) fun x193 =>
 if x193 = 2 then (bnd (idx r38.1 s188.2) fun x206 =>
 if x206 = 2 then (bnd (idx r31.1 s188.2) fun x220 =>
 if x220 = 2 then (j25 false)
 else (bnd (idx r38.1 s188.2) fun x233 =>
 bnd (idx r31.1 s188.2) fun x244 =>
 j25 (!(decide (x233 = (w64 (-(x244))))))))
 else (j25 true))
 else (bnd (idx r31.1 s188.2) fun x257 =>
 if x257 = 2 then (j25 false)
 else (bnd (idx r38.1 s188.2) fun x270 =>
 bnd (idx r31.1 s188.2) fun x281 =>
 j25 (!(decide (x270 = (w64 (-(x281)))))))))))
 else (some (.inr (.inl s188.1)))
noncomputable def lidarlaw09_ModelExchanges (p0 : S_api_Grid) (p1 : S_api_Grid) : Option Bool :=
 jn (fun (s3 : Bool) =>
 if s3 = true then (bnd (lidarlaw09_first) fun r16 =>
 some r16)
 else (bnd (lidarlaw09_alike p0 p1) fun r20 =>
 bnd (model_Compare r20.1 r20.2) fun r31 =>
 bnd (model_Compare r20.2 r20.1) fun r38 =>
 jn (fun (s9 : Bool) =>
 if s9 = true then (some false)
 else (jn (fun (s12 : List Int) =>
 bnd (model_Amount r20.1 r20.2 s12) fun r325 =>
 bnd (model_Amount r20.2 r20.1 s12) fun r354 =>
 bnd (exact_Add r325.1 r354.2.1) fun r379 =>
 bnd (exact_Add r325.2.1 r354.1) fun r387 =>
 jn (fun (s33 : Bool) =>
 if s33 = true then (some false)
 else (bnd (exact_Sign r379.1) fun r413 =>
 bnd (exact_Sign r387.1) fun r420 =>
 jn (fun (s37 : Bool) =>
 some s37)
 (fun j37 => if r413.1 = 0 then (if r420.1 = 0 then (if r413.2 = 0 then (if r420.2 = 0 then (bnd (lidarlaw09_first) fun r431 =>
 j37 r431)
 else (j37 false))
 else (j37 false))
 else (j37 false))
 else (j37 false))))
 (fun j33 => if r325.2.2 = 0 then (if r354.2.2 = 0 then (if r379.2 = 0 then (j33 (!(decide (r387.2 = 0))))
 else (j33 true))
 else (j33 true))
 else (j33 true)))
 (fun j12 => bnd (lfix (lidarlaw09_ModelExchanges_l10 r31 r38) (([] : List Int), 0)) fun t188 =>
 (match t188 with
 | (.inl z188) => j12 z188
 | (.inr (z188)) => some z188
 ))))
 (fun j9 => if r31.2 = 0 then (if r38.2 = 0 then (if ((((r31.1).length : Nat) : Int)) = ((((r20.1.Cells).length : Nat) : Int)) then (j9 (!(decide (((((r38.1).length : Nat) : Int)) = ((((r31.1).length : Nat) : Int))))))
 else (j9 true))
 else (j9 true))
 else (j9 true))))
 (fun j3 => bnd (lidarlaw09_good p0) fun r3 =>
 if r3 = true then (bnd (lidarlaw09_good p1) fun r9 =>
 j3 (!(r9)))
 else (j3 true))
set_option maxRecDepth 100000 in
theorem ratio_Of_ok (p0 : S_api_Rat) {K : List Ent} {A0_0 : Option Addr} {c0_0 : Nat} {A0_1 : Option Addr} {c0_1 : Nat} (ha0 : Has K A0_0 (p0.Num).length c0_0 1 e_u32 (p0.Num)) (ha1 : Has K A0_1 (p0.Den).length c0_1 1 e_u32 (p0.Den)) {r : S_ratio_Num} (hx : ratio_Of p0 = some r) (w : World) (hK : ∀ e ∈ K, Ent.ok w e) : CtL Try.prog 73 [.agg #[.bool (p0.Neg), .slice (A0_0) ((p0.Num).length) (c0_0), .slice (A0_1) ((p0.Den).length) (c0_1)]] w fun v Ln => ∃ (A0 : Option Addr) (c0 : Nat) (A2 : Option Addr) (c2 : Nat) (e0 : Ent) (e1 : Ent) (e2 : Ent) (e3 : Ent) (e4 : Ent) (e5 : Ent), v = .agg #[.bool (r.neg), .slice (A0) ((r.n).length) (c0), .slice (A2) ((r.d).length) (c2)] ∧ Ln = [e0, e1, e2, e3, e4, e5] ∧ Has (K ++ [e0, e1, e2, e3, e4, e5]) A0 (r.n).length c0 1 e_u32 (r.n) ∧ Has (K ++ [e0, e1, e2, e3, e4, e5]) A2 (r.d).length c2 1 e_u32 (r.d) ∧ True := by
  have ha0' := Has.up0 ha0
  have ha1' := Has.up0 ha1
  refine CtL.mk 19 Try.func73 rfl Try.ntmps73 (by kernel_rfl) rfl ?_
  show T 19 _ [(0, .agg #[.bool (p0.Neg), .slice (A0_0) ((p0.Num).length) (c0_0), .slice (A0_1) ((p0.Den).length) (c0_1)])] _
  unfold ratio_Of at hx
  refine T_seq ?_
  refine T_reg ?_
  refine T_x (Wx_box rfl rfl rfl (fun g1 => ?_))
  refine T_x (Wx_alloc zer116 rfl (fun g2 => ?_))
  refine T_nil ?_
  refine T_next ?_
  refine T_seq ?_
  refine T_reg ?_
  refine T_val (Ev_field rfl fld32_2 rfl) rfl ?_
  refine T_val (Ev_load1 rfl (i := 1) rfl rfl one30) rfl ?_
  obtain ⟨r3, h4, hx5⟩ := bnd_some hx
  refine T_x (Wx_callL rfl (fun w1 hw1 => ratio_nat_norm_ok p0.Den (Has.len' ha1') h4 w1 (okApp (K := K) (K2 := []) hK (by exact (SubE.cons2 (i := 2) rfl (SubE.nil))) (by exact (SubE.nil)) hw1)) rfl ?_)
  rintro _ _ hlo ⟨A6, c7, rfl, rfl, hs8, -⟩
  refine T_app0 ?_
  have hs9 : Has (K ++ []) _ _ _ _ _ _ := Has.assoc hs8
  refine T_val (Ev_assign rfl) rfl ?_
  refine T_nil ?_
  refine T_next ?_
  obtain ⟨j3, hj3, hx5⟩ := jn_some hx5
  refine T_cutP (τ := List Int) (γ := (Option Addr) × Nat × Ent) (J := j3) (out := r) (fun s3 y3 => [(1, .pointer (some ⟨g1, 0, none⟩)), (2, .pointer (some ⟨g2, 0, none⟩)), (3, .slice (y3.1) ((s3).length) (y3.2.1))]) (fun s3 y3 => [y3.2.2, .m g2 116 [.bool (false), .slice (none) (0) (0), .slice (none) (0) (0)], .m g1 32 [.bool (p0.Neg), .slice (A0_0) ((p0.Num).length) (c0_0), .slice (A0_1) ((p0.Den).length) (c0_1)]] ++ [.old w]) (fun s3 y3 => y3.2.2.low = 0 ∧ Has (K ++ [y3.2.2]) (y3.1) ((s3).length) (y3.2.1) 1 e_u32 (s3) ∧ True) ?_ ?_
  · intro s3 y3 hx14 hG15
    obtain ⟨lo16, hs17, -⟩ := hG15
    subst hj3
    refine T_seq ?_
    refine T_draw [0, 1, 0, 1, 2, 0, 0, 2, 3] [[], [0], [], [2], [2, 3], [], [0, 1, 2, 3, 4, 5], [0, 1, 2, 3, 4, 5, 6], [0, 1, 2, 3, 4, 5, 6, 7]] (.q 0 (.q 1 (.q 2 (.q 3 (.q 5 (.e 4 (.q 6 (.e 7 (.e 8 (.done) (.stop)) (.stop))) (.stop))))))) mixed (by kernel_rfl) (by kernel_rfl) ?_
    refine P_p rfl rfl (Ev_field rfl fld32_0 rfl) rfl ?_
    refine P_q rfl rfl (Ev_load1 rfl (i := 2) rfl rfl one4) rfl ?_
    refine P_p rfl rfl (Ev_field rfl fld32_1 rfl) rfl ?_
    refine P_q rfl rfl (Ev_load1 rfl (i := 2) rfl rfl one30) rfl ?_
    refine P_p rfl rfl (Ev_move rfl) rfl ?_
    obtain ⟨r18, h19, hx20⟩ := bnd_some hx14
    refine P_x rfl (Wx_callL rfl (fun w1 hw1 => ratio_nat_norm_ok p0.Num (Has.len' ha0') h19 w1 (okApp (K := K) (K2 := []) hK (by exact (SubE.cons2 (i := 3) rfl (SubE.nil))) (by exact (SubE.nil)) hw1)) rfl ?_) ?_
    rotate_left; exact P_stop
    rintro _ _ hlo ⟨A21, c22, rfl, rfl, hs23, -⟩
    refine T_app0 ?_
    have hs24 : Has (K ++ []) _ _ _ _ _ _ := Has.assoc hs23
    refine P_p rfl rfl (Ev_build rfl (bld116_0b1s2s _ _ _ _ _ _ _)) rfl ?_
    obtain ⟨r25, h26, hx27⟩ := bnd_some hx20
    refine P_x rfl (Wx_callL rfl (fun w1 hw1 => ratio_Num_Reduced_ok (⟨p0.Neg, r18, s3⟩ : S_ratio_Num) (Has.len' (Has.up (L := (K ++ [y3.2.2])) hs24 (SubE.app2 SubE.nil))) (Has.len' hs17) h26 w1 (okApp (K := K) (K2 := [y3.2.2]) hK (by exact (SubE.cons2 (i := 3) rfl (SubE.nil))) (by exact (SubE.cons2 (i := 0) rfl (SubE.nil))) hw1)) rfl ?_) ?_
    rotate_left; exact P_stop
    rintro _ _ hlo ⟨A28, c29, A30, c31, e32, e33, e34, e35, e36, rfl, rfl, hs37, hs38, -⟩
    have lo39 := hlo e32 (by simp)
    have lo40 := hlo e33 (by simp)
    have lo41 := hlo e34 (by simp)
    have lo42 := hlo e35 (by simp)
    have lo43 := hlo e36 (by simp)
    refine T_app5 ?_
    have hs44 : Has (K ++ [y3.2.2, e32, e33, e34, e35, e36]) _ _ _ _ _ _ := Has.assoc hs37
    have hs45 : Has (K ++ [y3.2.2, e32, e33, e34, e35, e36]) _ _ _ _ _ _ := Has.assoc hs38
    refine P_h rfl rfl (Wh_store rfl rfl rfl (.there (.there (.there (.there (.there (.there (.here))))))) (.put (.put (.put (.done)))) rfl (List.cons_ne_nil _ _) agg116.2 ?_) ?_
    rotate_left; exact P_stop
    refine P_done ?_
    refine T_next ?_
    refine T_retc ?_
    obtain rfl := Option.some.inj hx27
    exact T_retP (rs := [.cell 2 116]) Try.results73 (.cell rfl (i := 6) rfl rfl agg116 (.nil)) (Ln := [y3.2.2, e32, e33, e34, e35, e36]) ⟨A28, c29, A30, c31, y3.2.2, e32, e33, e34, e35, e36, rfl, rfl, Has.len' hs44, Has.len' hs45, trivial⟩ (loCons lo16 (loCons lo39 (loCons lo40 (loCons lo41 (loCons lo42 (loCons lo43 (loNil))))))) (by exact .pick 5 rfl (.pick 0 rfl (.pick 0 rfl (.pick 0 rfl (.pick 0 rfl (.pick 0 rfl (.drop 0 rfl (.drop 0 rfl (.refl)))))))))
  · skip
    refine T_seq ?_
    refine T_reg ?_
    refine T_val (Ev_move rfl) rfl ?_
    refine T_val (Ev_len rfl 105 Try.underlying114) rfl ?_
    refine T_val (Ev_eql rfl rfl) rfl ?_
    refine T_nil ?_
    refine T_next ?_
    refine T_caseP (s := 9) rfl (fun h10 => ?_) (fun h10 => ?_)
    · have hx11 := ite_t h10 hx5
      refine T_condT rfl ?_
      refine T_reg ?_
      refine T_x (Wx_buildSlice rfl (bls114_1_0u32 _) rfl (fun g12 => ?_))
      refine T_val (Ev_assign rfl) rfl ?_
      refine T_nil ?_
      refine T_mr (enc := e_u32) (sz := 1) ([1]) (.here) rfl rfl (fun _ => rfl) (by show 1 ≤ maxLen; decide) ?_
      refine T_rowP (k := 0) rfl (by decide) (fun _ => rfl) (fun hn46 hs47 => ?_)
      refine T_slot (s := 3) (v' := .slice (some ⟨g12, 0, none⟩) (([1]).length) (1)) rfl (by have hn48 : (1) = ([1]).length := (Has.len hs47).symm; first | (rw [← hn48]; done) | rfl) ?_
      exact T_metP ([1]) (some ⟨g12, 0, none⟩, 1, .r (some ⟨g12, 0, none⟩) (1) (1) 105 1 (([1]).flatMap e_u32)) hx11 ((by exact ⟨rfl, Has.len' ((Has.up (L := (K ++ [.r (some ⟨g12, 0, none⟩) (1) (1) 105 1 (([1]).flatMap e_u32)])) hs47 (SubE.appR2 (SubE.cons2 (i := 0) rfl (SubE.nil))))), trivial⟩)) (by exact .cons rfl (.cons rfl (.cons rfl (.nil)))) (by exact .pick 0 rfl (.pick 0 rfl (.pick 0 rfl (.refl))))
    · have hx13 := ite_f h10 hx5
      refine T_condF rfl ?_
      refine T_skip ?_
      refine T_none 0 1 ?_
      exact T_metP r3 (A6, c7, .r none 0 0 0 1 []) hx13 ((by exact ⟨rfl, Has.len' ((Has.up (L := (K ++ [.r none 0 0 0 1 []])) hs9 (SubE.app2 SubE.nil))), trivial⟩)) (by exact .cons rfl (.cons rfl (.cons rfl (.nil)))) (by exact .pick 0 rfl (.pick 0 rfl (.pick 0 rfl (.refl))))
set_option maxRecDepth 100000 in
theorem ratio_Num_Done_ok (p0 : S_ratio_Num) {K : List Ent} {A0_0 : Option Addr} {c0_0 : Nat} {A0_1 : Option Addr} {c0_1 : Nat} (ha0 : Has K A0_0 (p0.n).length c0_0 1 e_u32 (p0.n)) (ha1 : Has K A0_1 (p0.d).length c0_1 1 e_u32 (p0.d)) {r : S_api_Rat × Int} (hx : ratio_Num_Done p0 = some r) (w : World) (hK : ∀ e ∈ K, Ent.ok w e) : CtL Try.prog 75 [.agg #[.bool (p0.neg), .slice (A0_0) ((p0.n).length) (c0_0), .slice (A0_1) ((p0.d).length) (c0_1)]] w fun v Ln => ∃ (A0 : Option Addr) (c0 : Nat) (A2 : Option Addr) (c2 : Nat), v = .tuple #[.agg #[.bool (r.1.Neg), .slice (A0) ((r.1.Num).length) (c0), .slice (A2) ((r.1.Den).length) (c2)], .int .i64 (r.2)] ∧ Ln = [.r A0 (r.1.Num).length c0 105 1 ((r.1.Num).flatMap e_u32), .r A2 (r.1.Den).length c2 105 1 ((r.1.Den).flatMap e_u32)] ∧ True := by
  have ha0' := Has.up0 ha0
  have ha1' := Has.up0 ha1
  refine CtL.mk 52 Try.func75 rfl Try.ntmps75 (by kernel_rfl) rfl ?_
  show T 52 _ [(0, .agg #[.bool (p0.neg), .slice (A0_0) ((p0.n).length) (c0_0), .slice (A0_1) ((p0.d).length) (c0_1)])] _
  unfold ratio_Num_Done at hx
  refine T_seq ?_
  refine T_reg ?_
  refine T_x (Wx_box rfl rfl rfl (fun g1 => ?_))
  refine T_x (Wx_alloc zer32 rfl (fun g2 => ?_))
  refine T_val (Ev_assign rfl) rfl ?_
  refine T_nil ?_
  refine T_next ?_
  refine T_seq ?_
  refine T_reg ?_
  refine T_val (Ev_loadK rfl (i := 1) rfl rfl agg116) rfl ?_
  obtain ⟨r3, h4, hx5⟩ := bnd_some hx
  refine T_x (Wx_callL rfl (fun w1 hw1 => ratio_Num_Reduced_ok p0 (Has.len' ha0') (Has.len' ha1') h4 w1 (okApp (K := K) (K2 := []) hK (by exact (SubE.cons2 (i := 2) rfl (SubE.nil))) (by exact (SubE.nil)) hw1)) rfl ?_)
  rintro _ _ hlo ⟨A6, c7, A8, c9, e10, e11, e12, e13, e14, rfl, rfl, hs15, hs16, -⟩
  have lo17 := hlo e10 (by simp)
  have lo18 := hlo e11 (by simp)
  have lo19 := hlo e12 (by simp)
  have lo20 := hlo e13 (by simp)
  have lo21 := hlo e14 (by simp)
  refine T_app5 ?_
  have hs22 : Has (K ++ [e10, e11, e12, e13, e14]) _ _ _ _ _ _ := Has.assoc hs15
  have hs23 : Has (K ++ [e10, e11, e12, e13, e14]) _ _ _ _ _ _ := Has.assoc hs16
  refine T_h (Wh_store rfl rfl rfl (.there (.there (.there (.there (.there (.there (.here))))))) (.put (.put (.put (.done)))) rfl (List.cons_ne_nil _ _) agg116.2 ?_)
  refine T_nil ?_
  refine T_next ?_
  refine T_seq ?_
  obtain ⟨j4, hj4, hx5⟩ := jn_some hx5
  refine T_cutP (τ := Bool) (γ := Unit) (J := j4) (out := r) (fun s4 y4 => [(1, .pointer (some ⟨g1, 0, none⟩)), (2, .pointer (some ⟨g2, 0, none⟩)), (16, .bool (s4))]) (fun s4 y4 => [e10, e11, e12, e13, e14, .m g2 32 [.bool (false), .slice (none) (0) (0), .slice (none) (0) (0)], .m g1 116 [.bool (r3.neg), .slice (A6) ((r3.n).length) (c7), .slice (A8) ((r3.d).length) (c9)]] ++ [.old w]) (fun s4 y4 => True) ?_ ?_
  · intro s4 y4 hx27 hG28
    subst hj4
    refine T_caseB (s := 16) rfl (fun h29 => ?_) (fun h29 => ?_)
    · have hx30 := ite_t h29 hx27
      refine T_condT rfl ?_
      refine T_seq ?_
      refine T_reg ?_
      refine T_val (Ev_build rfl (bld32_)) rfl ?_
      refine T_h (Wh_store rfl rfl rfl (.there (.there (.there (.there (.there (.here)))))) (.put (.put (.put (.done)))) rfl (List.cons_ne_nil _ _) agg32.2 ?_)
      refine T_val (Ev_assign rfl) rfl ?_
      refine T_nil ?_
      refine T_next ?_
      refine T_retc ?_
      refine T_outR ?_
      refine T_none 105 1 ?_
      refine T_none 105 1 ?_
      obtain rfl := Option.some.inj hx30
      exact T_retP (rs := [.cell 2 32, .tmp 3]) Try.results75 (.cell rfl (i := 7) rfl rfl agg32 (.tmp rfl (.nil))) (Ln := [.r (none) (0) (0) 105 1 ((([] : List Int)).flatMap e_u32), .r (none) (0) (0) 105 1 ((([] : List Int)).flatMap e_u32)]) ⟨none, 0, none, 0, rfl, rfl, trivial⟩ (loCons rfl (loCons rfl (loNil))) (by exact .pick 1 rfl (.pick 0 rfl (.drop 0 rfl (.drop 0 rfl (.drop 0 rfl (.drop 0 rfl (.drop 0 rfl (.drop 0 rfl (.drop 0 rfl (.refl))))))))))
    · have hx31 := ite_bf h29 hx27
      refine T_condF rfl ?_
      refine T_skip ?_
      refine T_next ?_
      obtain ⟨j6, hj6, hx31⟩ := jn_some hx31
      refine T_cutP (τ := List Int) (γ := Nat × (Option Addr) × Nat) (J := j6) (out := r) (fun s6 y6 => [(1, .pointer (some ⟨g1, 0, none⟩)), (2, .pointer (some ⟨g2, 0, none⟩)), (4, .pointer (some ⟨y6.1, 0, none⟩))]) (fun s6 y6 => [.m y6.1 32 [.bool (r3.neg), .slice (y6.2.1) ((s6).length) (y6.2.2), .slice (none) (0) (0)], .r (y6.2.1) ((s6).length) (y6.2.2) 105 1 ((s6).flatMap e_u32), e10, e11, e12, e13, e14, .m g2 32 [.bool (false), .slice (none) (0) (0), .slice (none) (0) (0)], .m g1 116 [.bool (r3.neg), .slice (A6) ((r3.n).length) (c7), .slice (A8) ((r3.d).length) (c9)]] ++ [.old w]) (fun s6 y6 => True) ?_ ?_
      · intro s6 y6 hx41 hG42
        subst hj6
        refine T_seq ?_
        refine T_reg ?_
        refine T_val (Ev_field rfl fld32_1 rfl) rfl ?_
        refine T_val (Ev_load1 rfl (i := 0) rfl rfl one30) rfl ?_
        refine T_val (Ev_field rfl fld116_1 rfl) rfl ?_
        refine T_val (Ev_load1 rfl (i := 8) rfl rfl one114) rfl ?_
        have hw43 := Has.low (E := [e10, e11, e12, e13, e14]) hs22 hK
        refine T_h (Wh_copyW e_u32 (s6) (r3.n) 0 rfl rfl hw43 (SubE.cons2 (i := 9) rfl (SubE.cons2 (i := 2) rfl (SubE.cons2 (i := 3) rfl (SubE.cons2 (i := 4) rfl (SubE.cons2 (i := 5) rfl (SubE.cons2 (i := 6) rfl (SubE.nil))))))) rfl (Nat.zero_le _) (fun _ h hc => win_all h hc) (.there (.here)) Try.underlying30 (by kernel_rfl) (by decide) (fun _ => rfl) (fun _ => rfl) rfl ?_)
        refine T_nil ?_
        refine T_next ?_
        obtain ⟨j8, hj8, hx41⟩ := jn_some hx41
        refine T_cutP (τ := List Int) (γ := (Option Addr) × Nat) (J := j8) (out := r) (fun s8 y8 => [(2, .pointer (some ⟨g2, 0, none⟩)), (4, .pointer (some ⟨y6.1, 0, none⟩))]) (fun s8 y8 => [.r (y8.1) ((s8).length) (y8.2) 105 1 ((s8).flatMap e_u32), .m y6.1 32 [.bool (r3.neg), .slice (y6.2.1) ((s6).length) (y6.2.2), .slice (y8.1) ((s8).length) (y8.2)], .r (y6.2.1) ((s6).length) (y6.2.2) 105 1 ((cpy s6 0 r3.n).flatMap e_u32), .m g2 32 [.bool (false), .slice (none) (0) (0), .slice (none) (0) (0)]] ++ [.old w]) (fun s8 y8 => True) ?_ ?_
        · intro s8 y8 hx67 hG68
          subst hj8
          refine T_seq ?_
          refine T_reg ?_
          refine T_val (Ev_loadK rfl (i := 1) rfl rfl agg32) rfl ?_
          refine T_h (Wh_store rfl rfl rfl (.there (.there (.there (.here)))) (.put (.put (.put (.done)))) rfl (List.cons_ne_nil _ _) agg32.2 ?_)
          refine T_val (Ev_assign rfl) rfl ?_
          refine T_nil ?_
          refine T_next ?_
          refine T_retc ?_
          have hn69 : (s6).length = (cpy s6 0 r3.n).length := by simp [setI_len, cpy_len, List.length_append] <;> omega
          refine T_ent (.there (.there (.here))) (e' := .r (y6.2.1) ((cpy s6 0 r3.n).length) (y6.2.2) 105 1 ((cpy s6 0 r3.n).flatMap e_u32)) (by first | (rw [← hn69]; done) | rfl) ?_
          refine T_ent (.there (.there (.there (.here)))) (e' := .m g2 32 [.bool (r3.neg), .slice (y6.2.1) ((cpy s6 0 r3.n).length) (y6.2.2), .slice (y8.1) ((s8).length) (y8.2)]) (by first | (rw [show ((s6).length) = (cpy s6 0 r3.n).length from (by simp [setI_len, cpy_len, List.length_append] <;> omega)]; done) | rfl) ?_
          obtain rfl := Option.some.inj hx67
          exact T_retP (rs := [.cell 2 32, .tmp 3]) Try.results75 (.cell rfl (i := 3) rfl rfl agg32 (.tmp rfl (.nil))) (Ln := [.r (y6.2.1) ((cpy s6 0 r3.n).length) (y6.2.2) 105 1 ((cpy s6 0 r3.n).flatMap e_u32), .r (y8.1) ((s8).length) (y8.2) 105 1 ((s8).flatMap e_u32)]) ⟨y6.2.1, y6.2.2, y8.1, y8.2, rfl, rfl, trivial⟩ (loCons rfl (loCons rfl (loNil))) (by exact .pick 2 rfl (.pick 0 rfl (.drop 0 rfl (.drop 0 rfl (.refl)))))
        · skip
          obtain ⟨j9, hj9, hx41⟩ := jn_some hx41
          refine T_cutP (τ := Bool) (γ := Unit) (J := j9) (out := r) (fun s9 y9 => [(1, .pointer (some ⟨g1, 0, none⟩)), (2, .pointer (some ⟨g2, 0, none⟩)), (4, .pointer (some ⟨y6.1, 0, none⟩)), (40, .bool (s9))]) (fun s9 y9 => [.m y6.1 32 [.bool (r3.neg), .slice (y6.2.1) ((s6).length) (y6.2.2), .slice (none) (0) (0)], .r (y6.2.1) ((s6).length) (y6.2.2) 105 1 ((cpy s6 0 r3.n).flatMap e_u32), e10, e11, e12, e13, e14, .m g2 32 [.bool (false), .slice (none) (0) (0), .slice (none) (0) (0)], .m g1 116 [.bool (r3.neg), .slice (A6) ((r3.n).length) (c7), .slice (A8) ((r3.d).length) (c9)]] ++ [.old w]) (fun s9 y9 => True) ?_ ?_
          · intro s9 y9 hx58 hG59
            subst hj9
            refine T_caseB (s := 40) rfl (fun h60 => ?_) (fun h60 => ?_)
            · have hx61 := ite_t h60 hx58
              refine T_condT rfl ?_
              refine T_seq ?_
              refine T_reg ?_
              refine T_val (Ev_field rfl fld116_2 rfl) rfl ?_
              refine T_val (Ev_load1 rfl (i := 8) rfl rfl one114) rfl ?_
              refine T_val (Ev_len rfl 105 Try.underlying114) rfl ?_
              obtain ⟨h63, hx64⟩ := gd_some hx61
              refine T_x (Wx_makeP e_u32 (0) (z := .int .u32 (0)) rfl rfl rfl h63.1 Try.underlying30 (show Try.prog.info? 105 = some Try.t105 from by kernel_rfl) (by kernel_rfl) rfl rfl (by kernel_rfl) (show 4 * _ ≤ _ from h63.2) (by decide) rfl (fun A62 => ?_))
              refine T_val (Ev_field rfl fld32_2 rfl) rfl ?_
              refine T_h (Wh_store rfl rfl rfl (.there (.here)) (.skip (.skip (.put (.done)))) rfl (List.cons_ne_nil _ _) one30.2 ?_)
              refine T_nil ?_
              refine T_next ?_
              refine T_reg ?_
              refine T_val (Ev_field rfl fld32_2 rfl) rfl ?_
              refine T_val (Ev_load1 rfl (i := 1) rfl rfl one30) rfl ?_
              refine T_val (Ev_field rfl fld116_2 rfl) rfl ?_
              refine T_val (Ev_load1 rfl (i := 9) rfl rfl one114) rfl ?_
              have hw65 := Has.low (E := [e10, e11, e12, e13, e14]) hs23 hK
              refine T_h (Wh_copyW e_u32 (List.replicate (Int.toNat ((((r3.d).length : Nat) : Int))) (0 : Int)) (r3.d) 0 rfl rfl hw65 (SubE.cons2 (i := 10) rfl (SubE.cons2 (i := 3) rfl (SubE.cons2 (i := 4) rfl (SubE.cons2 (i := 5) rfl (SubE.cons2 (i := 6) rfl (SubE.cons2 (i := 7) rfl (SubE.nil))))))) rfl (Nat.zero_le _) (fun _ h hc => win_all h hc) (.here) Try.underlying30 (by kernel_rfl) (by decide) (fun _ => rfl) (fun _ => rfl) rfl ?_)
              refine T_nil ?_
              have hn70 : (List.replicate (Int.toNat ((((r3.d).length : Nat) : Int))) (0 : Int)).length = (cpy (List.replicate (Int.toNat ((((r3.d).length : Nat) : Int))) (0 : Int)) 0 r3.d).length := (cpy_len (Nat.zero_le _)).symm
              refine T_ent (.here) (e' := .r (A62) ((cpy (List.replicate (Int.toNat ((((r3.d).length : Nat) : Int))) (0 : Int)) 0 r3.d).length) ((List.replicate (Int.toNat ((((r3.d).length : Nat) : Int))) (0 : Int)).length) 105 1 ((cpy (List.replicate (Int.toNat ((((r3.d).length : Nat) : Int))) (0 : Int)) 0 r3.d).flatMap e_u32)) (by first | (rw [← hn70]; done) | rfl) ?_
              refine T_ent (.there (.here)) (e' := .m y6.1 32 [.bool (r3.neg), .slice (y6.2.1) ((s6).length) (y6.2.2), .slice (A62) ((cpy (List.replicate (Int.toNat ((((r3.d).length : Nat) : Int))) (0 : Int)) 0 r3.d).length) ((List.replicate (Int.toNat ((((r3.d).length : Nat) : Int))) (0 : Int)).length)]) (by first | (rw [show ((List.replicate (Int.toNat ((((r3.d).length : Nat) : Int))) (0 : Int)).length) = (cpy (List.replicate (Int.toNat ((((r3.d).length : Nat) : Int))) (0 : Int)) 0 r3.d).length from (cpy_len (Nat.zero_le _)).symm]; done) | rfl) ?_
              exact T_metP (cpy (List.replicate (Int.toNat ((((r3.d).length : Nat) : Int))) (0 : Int)) 0 r3.d) (A62, (List.replicate (Int.toNat ((((r3.d).length : Nat) : Int))) (0 : Int)).length) hx64 trivial (by exact .cons rfl (.cons rfl (.nil))) (by exact .pick 0 rfl (.pick 0 rfl (.pick 0 rfl (.pick 5 rfl (.drop 0 rfl (.drop 0 rfl (.drop 0 rfl (.drop 0 rfl (.drop 0 rfl (.drop 0 rfl (.refl)))))))))))
            · have hx66 := ite_bf h60 hx58
              refine T_condF rfl ?_
              refine T_skip ?_
              refine T_none 105 1 ?_
              have hn71 : 0 = (([] : List Int)).length := by simp [setI_len, cpy_len, List.length_append] <;> omega
              refine T_ent (.here) (e' := .r (none) ((([] : List Int)).length) (0) 105 1 ((([] : List Int)).flatMap e_u32)) (by first | (rw [← hn71]; done) | rfl) ?_
              exact T_metP ([] : List Int) (none, 0) hx66 trivial (by exact .cons rfl (.cons rfl (.nil))) (by exact .pick 0 rfl (.pick 0 rfl (.pick 0 rfl (.pick 5 rfl (.drop 0 rfl (.drop 0 rfl (.drop 0 rfl (.drop 0 rfl (.drop 0 rfl (.drop 0 rfl (.refl)))))))))))
          · skip
            refine T_reg ?_
            refine T_val (Ev_field rfl fld116_2 rfl) rfl ?_
            refine T_val (Ev_load1 rfl (i := 8) rfl rfl one114) rfl ?_
            refine T_val (Ev_len rfl 105 Try.underlying114) rfl ?_
            refine T_val (Ev_gtr rfl rfl) rfl ?_
            refine T_val (Ev_move rfl) rfl ?_
            refine T_caseP (s := 34) rfl (fun h44 => ?_) (fun h44 => ?_)
            · have hx45 := ite_t h44 hx41
              refine T_skipG rfl rfl rfl rfl rfl ?_
              refine T_skipG rfl rfl rfl rfl rfl ?_
              refine T_skipG rfl rfl rfl rfl rfl ?_
              refine T_skipG rfl rfl rfl rfl rfl ?_
              refine T_skipG rfl rfl rfl rfl rfl ?_
              refine T_val (Ev_pickT rfl rfl) rfl ?_
              refine T_nil ?_
              exact T_metP true () hx45 trivial (by exact .cons rfl (.cons rfl (.cons rfl (.cons rfl (.nil))))) (by exact .pick 0 rfl (.pick 0 rfl (.pick 0 rfl (.pick 0 rfl (.pick 0 rfl (.pick 0 rfl (.pick 0 rfl (.pick 0 rfl (.pick 0 rfl (.refl))))))))))
            · have hx46 := ite_f h44 hx41
              refine T_valG rfl rfl rfl (Ev_field rfl fld116_2 rfl) rfl ?_
              refine T_valG rfl rfl rfl (Ev_load1 rfl (i := 8) rfl rfl one114) rfl ?_
              obtain ⟨x47, h48, hx49⟩ := bnd_some hx46
              have hw57 := Has.low (E := [e10, e11, e12, e13, e14]) hs23 hK
              obtain ⟨b50, o51, j52, hA53, hj54, hl55, hp56⟩ := Has.at_idx hw57 h48
              refine T_valG rfl rfl rfl (Ev_index rfl rfl hA53 (j := j52) hj54 hl55 slc114) rfl ?_
              refine T_valG rfl rfl rfl (Ev_loadP0 rfl hp56 (SubE.cons2 (i := 9) rfl (SubE.cons2 (i := 2) rfl (SubE.cons2 (i := 3) rfl (SubE.cons2 (i := 4) rfl (SubE.cons2 (i := 5) rfl (SubE.cons2 (i := 6) rfl (SubE.nil))))))) rfl one105) rfl ?_
              refine T_valG rfl rfl rfl (Ev_neq rfl rfl) rfl ?_
              refine T_val (Ev_pickF rfl rfl) rfl ?_
              refine T_nil ?_
              exact T_metP (!(decide (x47 = 1))) () hx49 trivial (by exact .cons rfl (.cons rfl (.cons rfl (.cons rfl (.nil))))) (by exact .pick 0 rfl (.pick 0 rfl (.pick 0 rfl (.pick 0 rfl (.pick 0 rfl (.pick 0 rfl (.pick 0 rfl (.pick 0 rfl (.pick 0 rfl (.refl))))))))))
      · skip
        obtain ⟨h33, hx36⟩ := gd_some hx31
        refine T_draw [0, 1, 0, 1, 0, 2, 0, 2, 3] [[], [0], [], [2], [2, 3], [2, 3, 4], [0, 1, 2, 3, 4, 5], [], [0, 1, 2, 3, 4, 5, 6, 7]] (.q 0 (.q 1 (.q 2 (.q 3 (.q 4 (.e 5 (.q 6 (.e 7 (.e 8 (.done) (.stop)) (.stop))) (.e 7 (.e 5 (.q 6 (.e 8 (.done) (.stop))) (.stop)) (.stop)))))))) mixed (by kernel_rfl) (by kernel_rfl) ?_
        refine P_p rfl rfl (Ev_field rfl fld116_0 rfl) rfl ?_
        refine P_q rfl rfl (Ev_load1 rfl (i := 6) rfl rfl one4) rfl ?_
        refine P_p rfl rfl (Ev_field rfl fld116_1 rfl) rfl ?_
        refine P_q rfl rfl (Ev_load1 rfl (i := 6) rfl rfl one114) rfl ?_
        refine P_p rfl rfl (Ev_len rfl 105 Try.underlying114) rfl ?_
        refine P_x rfl (Wx_makeP e_u32 (0) (z := .int .u32 (0)) rfl rfl rfl h33.1 Try.underlying30 (show Try.prog.info? 105 = some Try.t105 from by kernel_rfl) (by kernel_rfl) rfl rfl (by kernel_rfl) (show 4 * _ ≤ _ from h33.2) (by decide) rfl (fun A37 => ?_)) ?_
        · skip
          refine P_p rfl rfl (Ev_build rfl (bld32_0b1s _ _ _ _)) rfl ?_
          refine P_x rfl (Wx_alloc zer32 rfl (fun g38 => ?_)) ?_
          rotate_left; exact P_stop
          refine P_h rfl rfl (Wh_store rfl rfl rfl (.here) (.put (.put (.put (.done)))) rfl (List.cons_ne_nil _ _) agg32.2 ?_) ?_
          rotate_left; exact P_stop
          refine P_done ?_
          exact T_metP (List.replicate (Int.toNat ((((r3.n).length : Nat) : Int))) (0 : Int)) (g38, A37, (List.replicate (Int.toNat ((((r3.n).length : Nat) : Int))) (0 : Int)).length) hx36 trivial (by exact .cons rfl (.cons rfl (.cons rfl (.nil)))) (by exact .pick 0 rfl (.pick 0 rfl (.pick 0 rfl (.pick 0 rfl (.pick 0 rfl (.pick 0 rfl (.pick 0 rfl (.pick 0 rfl (.pick 0 rfl (.refl))))))))))
        · skip
          refine P_x rfl (Wx_alloc zer32 rfl (fun g39 => ?_)) ?_
          rotate_left; exact P_stop
          refine P_x rfl (Wx_makeP e_u32 (0) (z := .int .u32 (0)) rfl rfl rfl h33.1 Try.underlying30 (show Try.prog.info? 105 = some Try.t105 from by kernel_rfl) (by kernel_rfl) rfl rfl (by kernel_rfl) (show 4 * _ ≤ _ from h33.2) (by decide) rfl (fun A40 => ?_)) ?_
          rotate_left; exact P_stop
          refine P_p rfl rfl (Ev_build rfl (bld32_0b1s _ _ _ _)) rfl ?_
          refine P_h rfl rfl (Wh_store rfl rfl rfl (.there (.here)) (.put (.put (.put (.done)))) rfl (List.cons_ne_nil _ _) agg32.2 ?_) ?_
          rotate_left; exact P_stop
          refine P_done ?_
          exact T_metP (List.replicate (Int.toNat ((((r3.n).length : Nat) : Int))) (0 : Int)) (g39, A40, (List.replicate (Int.toNat ((((r3.n).length : Nat) : Int))) (0 : Int)).length) hx36 trivial (by exact .cons rfl (.cons rfl (.cons rfl (.nil)))) (by exact .pick 1 rfl (.pick 0 rfl (.pick 0 rfl (.pick 0 rfl (.pick 0 rfl (.pick 0 rfl (.pick 0 rfl (.pick 0 rfl (.pick 0 rfl (.refl))))))))))
  · skip
    refine T_reg ?_
    refine T_val (Ev_field rfl fld116_1 rfl) rfl ?_
    refine T_val (Ev_load1 rfl (i := 6) rfl rfl one114) rfl ?_
    refine T_val (Ev_len rfl 105 Try.underlying114) rfl ?_
    refine T_val (Ev_gtr rfl rfl) rfl ?_
    refine T_val (Ev_move rfl) rfl ?_
    refine T_caseP (s := 11) rfl (fun h24 => ?_) (fun h24 => ?_)
    · have hx25 := ite_t h24 hx5
      refine T_skipG rfl rfl rfl rfl rfl ?_
      refine T_skipG rfl rfl rfl rfl rfl ?_
      refine T_skipG rfl rfl rfl rfl rfl ?_
      refine T_skipG rfl rfl rfl rfl rfl ?_
      refine T_val (Ev_pickT rfl rfl) rfl ?_
      refine T_nil ?_
      exact T_metP true () hx25 trivial (by exact .cons rfl (.cons rfl (.cons rfl (.nil)))) (by exact .pick 0 rfl (.pick 0 rfl (.pick 0 rfl (.pick 0 rfl (.pick 0 rfl (.pick 0 rfl (.pick 0 rfl (.refl))))))))
    · have hx26 := ite_f h24 hx5
      refine T_valG rfl rfl rfl (Ev_field rfl fld116_2 rfl) rfl ?_
      refine T_valG rfl rfl rfl (Ev_load1 rfl (i := 6) rfl rfl one114) rfl ?_
      refine T_valG rfl rfl rfl (Ev_len rfl 105 Try.underlying114) rfl ?_
      refine T_valG rfl rfl rfl (Ev_gtr rfl rfl) rfl ?_
      refine T_val (Ev_pickF rfl rfl) rfl ?_
      refine T_nil ?_
      exact T_metP (decide (256 < ((((r3.d).length : Nat) : Int)))) () hx26 trivial (by exact .cons rfl (.cons rfl (.cons rfl (.nil)))) (by exact .pick 0 rfl (.pick 0 rfl (.pick 0 rfl (.pick 0 rfl (.pick 0 rfl (.pick 0 rfl (.pick 0 rfl (.refl))))))))
set_option maxRecDepth 100000 in
theorem ratio_Num_Add_ok (p0 : S_ratio_Num) (p1 : S_ratio_Num) {K : List Ent} {A0_0 : Option Addr} {c0_0 : Nat} {A0_1 : Option Addr} {c0_1 : Nat} {A0_2 : Option Addr} {c0_2 : Nat} {A0_3 : Option Addr} {c0_3 : Nat} (ha0 : Has K A0_0 (p0.n).length c0_0 1 e_u32 (p0.n)) (ha1 : Has K A0_1 (p0.d).length c0_1 1 e_u32 (p0.d)) (ha2 : Has K A0_2 (p1.n).length c0_2 1 e_u32 (p1.n)) (ha3 : Has K A0_3 (p1.d).length c0_3 1 e_u32 (p1.d)) {r : S_ratio_Num} (hx : ratio_Num_Add p0 p1 = some r) (w : World) (hK : ∀ e ∈ K, Ent.ok w e) : CtL Try.prog 74 [.agg #[.bool (p0.neg), .slice (A0_0) ((p0.n).length) (c0_0), .slice (A0_1) ((p0.d).length) (c0_1)], .agg #[.bool (p1.neg), .slice (A0_2) ((p1.n).length) (c0_2), .slice (A0_3) ((p1.d).length) (c0_3)]] w fun v Ln => ∃ (A0 : Option Addr) (c0 : Nat) (A2 : Option Addr) (c2 : Nat) (e0 : Ent) (e1 : Ent) (e2 : Ent) (e3 : Ent), v = .agg #[.bool (r.neg), .slice (A0) ((r.n).length) (c0), .slice (A2) ((r.d).length) (c2)] ∧ Ln = [e0, e1, e2, e3] ∧ Has (K ++ [e0, e1, e2, e3]) A0 (r.n).length c0 1 e_u32 (r.n) ∧ Has (K ++ [e0, e1, e2, e3]) A2 (r.d).length c2 1 e_u32 (r.d) ∧ True := by
  have ha0' := Has.up0 ha0
  have ha1' := Has.up0 ha1
  have ha2' := Has.up0 ha2
  have ha3' := Has.up0 ha3
  refine CtL.mk 53 Try.func74 rfl Try.ntmps74 (by kernel_rfl) rfl ?_
  show T 53 _ [(0, .agg #[.bool (p0.neg), .slice (A0_0) ((p0.n).length) (c0_0), .slice (A0_1) ((p0.d).length) (c0_1)]), (1, .agg #[.bool (p1.neg), .slice (A0_2) ((p1.n).length) (c0_2), .slice (A0_3) ((p1.d).length) (c0_3)])] _
  unfold ratio_Num_Add at hx
  refine T_seq ?_
  refine T_reg ?_
  refine T_x (Wx_box rfl rfl rfl (fun g1 => ?_))
  refine T_x (Wx_box rfl rfl rfl (fun g2 => ?_))
  refine T_x (Wx_alloc zer116 rfl (fun g3 => ?_))
  refine T_nil ?_
  refine T_next ?_
  refine T_seq ?_
  refine T_draw [0, 1, 0, 1, 2, 0, 1, 0, 1, 2, 2, 2] [[], [0], [], [2], [0, 1, 2, 3], [], [5], [], [7], [0, 1, 2, 3, 4, 5, 6, 7, 8], [0, 1, 2, 3, 4, 5, 6, 7, 8, 9], [0, 1, 2, 3, 4, 5, 6, 7, 8, 9, 10]] (.q 0 (.q 1 (.q 2 (.q 3 (.q 5 (.q 6 (.q 7 (.q 8 (.e 4 (.e 9 (.e 10 (.e 11 (.done) (.stop)) (.stop)) (.stop)) (.stop)))))))))) mixed (by kernel_rfl) (by kernel_rfl) ?_
  refine P_p rfl rfl (Ev_field rfl fld116_1 rfl) rfl ?_
  refine P_q rfl rfl (Ev_load1 rfl (i := 2) rfl rfl one114) rfl ?_
  refine P_p rfl rfl (Ev_field rfl fld116_2 rfl) rfl ?_
  refine P_q rfl rfl (Ev_load1 rfl (i := 1) rfl rfl one114) rfl ?_
  refine P_p rfl rfl (Ev_field rfl fld116_1 rfl) rfl ?_
  refine P_q rfl rfl (Ev_load1 rfl (i := 1) rfl rfl one114) rfl ?_
  refine P_p rfl rfl (Ev_field rfl fld116_2 rfl) rfl ?_
  refine P_q rfl rfl (Ev_load1 rfl (i := 2) rfl rfl one114) rfl ?_
  obtain ⟨r4, h5, hx6⟩ := bnd_some hx
  refine P_x rfl (Wx_callL rfl (fun w1 hw1 => ratio_nat_mul_ok p0.n p1.d (Has.len' ha0') (Has.len' ha3') h5 w1 (okApp (K := K) (K2 := []) hK (by exact (SubE.cons2 (i := 3) rfl (SubE.nil))) (by exact (SubE.nil)) hw1)) rfl ?_) ?_
  rotate_left; exact P_stop
  rintro _ _ hlo ⟨A7, c8, e9, rfl, rfl, hs10, -⟩
  have lo11 := hlo e9 (by simp)
  refine T_app1 ?_
  have hs12 : Has (K ++ [e9]) _ _ _ _ _ _ := Has.assoc hs10
  obtain ⟨r13, h14, hx15⟩ := bnd_some hx6
  refine P_x rfl (Wx_callL rfl (fun w1 hw1 => ratio_nat_mul_ok p1.n p0.d (Has.len' ha2') (Has.len' ha1') h14 w1 (okApp (K := K) (K2 := []) hK (by exact (SubE.cons2 (i := 4) rfl (SubE.nil))) (by exact (SubE.nil)) hw1)) rfl ?_) ?_
  rotate_left; exact P_stop
  rintro _ _ hlo ⟨A16, c17, e18, rfl, rfl, hs19, -⟩
  have lo20 := hlo e18 (by simp)
  refine T_app1 ?_
  have hs21 : Has (K ++ [e18]) _ _ _ _ _ _ := Has.assoc hs19
  refine P_x rfl (Wx_val (Ev_assign rfl) rfl ?_) ?_
  rotate_left; exact P_stop
  refine P_x rfl (Wx_val (Ev_assign rfl) rfl ?_) ?_
  rotate_left; exact P_stop
  refine P_done ?_
  refine T_next ?_
  refine T_seq ?_
  refine T_reg ?_
  refine T_val (Ev_field rfl fld116_2 rfl) rfl ?_
  refine T_val (Ev_load1 rfl (i := 4) rfl rfl one114) rfl ?_
  refine T_val (Ev_field rfl fld116_2 rfl) rfl ?_
  refine T_val (Ev_load1 rfl (i := 3) rfl rfl one114) rfl ?_
  obtain ⟨r22, h23, hx24⟩ := bnd_some hx15
  refine T_x (Wx_callL rfl (fun w1 hw1 => ratio_nat_mul_ok p0.d p1.d (Has.len' ha1') (Has.len' ha3') h23 w1 (okApp (K := K) (K2 := []) hK (by exact (SubE.cons2 (i := 5) rfl (SubE.nil))) (by exact (SubE.nil)) hw1)) rfl ?_)
  rintro _ _ hlo ⟨A25, c26, e27, rfl, rfl, hs28, -⟩
  have lo29 := hlo e27 (by simp)
  refine T_app1 ?_
  have hs30 : Has (K ++ [e27]) _ _ _ _ _ _ := Has.assoc hs28
  refine T_val (Ev_assign rfl) rfl ?_
  refine T_nil ?_
  refine T_next ?_
  refine T_seq ?_
  refine T_seq ?_
  refine T_reg ?_
  refine T_val (Ev_field rfl fld116_0 rfl) rfl ?_
  refine T_val (Ev_load1 rfl (i := 5) rfl rfl one4) rfl ?_
  refine T_val (Ev_field rfl fld116_0 rfl) rfl ?_
  refine T_val (Ev_load1 rfl (i := 4) rfl rfl one4) rfl ?_
  refine T_val (Ev_eqlB rfl rfl (by kernel_rfl)) rfl ?_
  refine T_nil ?_
  refine T_next ?_
  refine T_caseB (s := 27) rfl (fun h31 => ?_) (fun h31 => ?_)
  · have hx32 := ite_t h31 hx24
    refine T_condT rfl ?_
    refine T_seq ?_
    refine T_draw [0, 1, 0, 0, 2, 0, 0, 3] [[], [0], [], [], [2, 3], [], [0, 1, 2, 3, 4, 5], [0, 1, 2, 3, 4, 5, 6]] (.q 0 (.q 1 (.q 2 (.q 3 (.q 5 (.e 4 (.q 6 (.e 7 (.done) (.stop))) (.stop))))))) mixed (by kernel_rfl) (by kernel_rfl) ?_
    refine P_p rfl rfl (Ev_field rfl fld116_0 rfl) rfl ?_
    refine P_q rfl rfl (Ev_load1 rfl (i := 5) rfl rfl one4) rfl ?_
    refine P_p rfl rfl (Ev_move rfl) rfl ?_
    refine P_p rfl rfl (Ev_move rfl) rfl ?_
    refine P_p rfl rfl (Ev_move rfl) rfl ?_
    obtain ⟨r33, h34, hx35⟩ := bnd_some hx32
    refine P_x rfl (Wx_callL rfl (fun w1 hw1 => ratio_nat_add_ok r4 r13 (Has.len' (Has.up (L := (K ++ [e9, e18])) hs12 (SubE.app2 (SubE.cons2 (i := 0) rfl (SubE.nil))))) (Has.len' (Has.up (L := (K ++ [e9, e18])) hs21 (SubE.app2 (SubE.cons2 (i := 1) rfl (SubE.nil))))) h34 w1 (okApp (K := K) (K2 := [e9, e18]) hK (by exact (SubE.cons2 (i := 6) rfl (SubE.nil))) (by exact (SubE.cons2 (i := 2) rfl (SubE.cons2 (i := 1) rfl (SubE.nil)))) hw1)) rfl ?_) ?_
    rotate_left; exact P_stop
    rintro _ _ hlo ⟨A36, c37, e38, rfl, rfl, hs39, -⟩
    have lo40 := hlo e38 (by simp)
    refine T_app1 ?_
    have hs41 : Has (K ++ [e9, e18, e38]) _ _ _ _ _ _ := Has.assoc hs39
    refine P_p rfl rfl (Ev_build rfl (bld116_0b1s2s _ _ _ _ _ _ _)) rfl ?_
    refine P_h rfl rfl (Wh_store rfl rfl rfl (.there (.there (.there (.there (.here))))) (.put (.put (.put (.done)))) rfl (List.cons_ne_nil _ _) agg116.2 ?_) ?_
    rotate_left; exact P_stop
    refine P_done ?_
    refine T_next ?_
    refine T_retc ?_
    refine T_outR ?_
    obtain rfl := Option.some.inj hx35
    exact T_retP (rs := [.cell 4 116]) Try.results74 (.cell rfl (i := 4) rfl rfl agg116 (.nil)) (Ln := [e9, e18, e38, e27]) ⟨A36, c37, A25, c26, e9, e18, e38, e27, rfl, rfl, Has.len' (Has.up (L := (K ++ [e9, e18, e38, e27])) hs41 (SubE.app2 (SubE.cons2 (i := 0) rfl (SubE.cons2 (i := 1) rfl (SubE.cons2 (i := 2) rfl (SubE.nil)))))), Has.len' (Has.up (L := (K ++ [e9, e18, e38, e27])) hs30 (SubE.app2 (SubE.cons2 (i := 3) rfl (SubE.nil)))), trivial⟩ (loCons lo11 (loCons lo20 (loCons lo40 (loCons lo29 (loNil))))) (by exact .pick 3 rfl (.pick 2 rfl (.pick 0 rfl (.pick 0 rfl (.drop 0 rfl (.drop 0 rfl (.drop 0 rfl (.refl))))))))
  · have hx42 := ite_bf h31 hx24
    refine T_condF rfl ?_
    refine T_skip ?_
    refine T_next ?_
    refine T_seq ?_
    refine T_seq ?_
    refine T_reg ?_
    refine T_val (Ev_move rfl) rfl ?_
    refine T_val (Ev_move rfl) rfl ?_
    obtain ⟨r43, h44, hx45⟩ := bnd_some hx42
    refine T_x (Wx_callL rfl (fun w1 hw1 => ratio_nat_cmp_ok r4 r13 (Has.len' (Has.up (L := (K ++ [e9, e18])) hs12 (SubE.app2 (SubE.cons2 (i := 0) rfl (SubE.nil))))) (Has.len' (Has.up (L := (K ++ [e9, e18])) hs21 (SubE.app2 (SubE.cons2 (i := 1) rfl (SubE.nil))))) h44 w1 (okApp (K := K) (K2 := [e9, e18]) hK (by exact (SubE.cons2 (i := 6) rfl (SubE.nil))) (by exact (SubE.cons2 (i := 2) rfl (SubE.cons2 (i := 1) rfl (SubE.nil)))) hw1)) rfl ?_)
    rintro _ _ hlo ⟨rfl, rfl, -⟩
    refine T_app0 ?_
    refine T_val (Ev_geq rfl rfl) rfl ?_
    refine T_nil ?_
    refine T_next ?_
    refine T_caseP (s := 38) rfl (fun h46 => ?_) (fun h46 => ?_)
    · have hx47 := ite_t h46 hx45
      refine T_condT rfl ?_
      refine T_seq ?_
      refine T_draw [0, 1, 0, 0, 2, 0, 0, 3] [[], [0], [], [], [2, 3], [], [0, 1, 2, 3, 4, 5], [0, 1, 2, 3, 4, 5, 6]] (.q 0 (.q 1 (.q 2 (.q 3 (.q 5 (.e 4 (.q 6 (.e 7 (.done) (.stop))) (.stop))))))) mixed (by kernel_rfl) (by kernel_rfl) ?_
      refine P_p rfl rfl (Ev_field rfl fld116_0 rfl) rfl ?_
      refine P_q rfl rfl (Ev_load1 rfl (i := 5) rfl rfl one4) rfl ?_
      refine P_p rfl rfl (Ev_move rfl) rfl ?_
      refine P_p rfl rfl (Ev_move rfl) rfl ?_
      refine P_p rfl rfl (Ev_move rfl) rfl ?_
      obtain ⟨r48, h49, hx50⟩ := bnd_some hx47
      refine P_x rfl (Wx_callL rfl (fun w1 hw1 => ratio_nat_sub_ok r4 r13 (Has.len' (Has.up (L := (K ++ [e9, e18])) hs12 (SubE.app2 (SubE.cons2 (i := 0) rfl (SubE.nil))))) (Has.len' (Has.up (L := (K ++ [e9, e18])) hs21 (SubE.app2 (SubE.cons2 (i := 1) rfl (SubE.nil))))) h49 w1 (okApp (K := K) (K2 := [e9, e18]) hK (by exact (SubE.cons2 (i := 6) rfl (SubE.nil))) (by exact (SubE.cons2 (i := 2) rfl (SubE.cons2 (i := 1) rfl (SubE.nil)))) hw1)) rfl ?_) ?_
      rotate_left; exact P_stop
      rintro _ _ hlo ⟨A51, c52, e53, rfl, rfl, hs54, -⟩
      have lo55 := hlo e53 (by simp)
      refine T_app1 ?_
      have hs56 : Has (K ++ [e9, e18, e53]) _ _ _ _ _ _ := Has.assoc hs54
      refine P_p rfl rfl (Ev_build rfl (bld116_0b1s2s _ _ _ _ _ _ _)) rfl ?_
      refine P_h rfl rfl (Wh_store rfl rfl rfl (.there (.there (.there (.there (.here))))) (.put (.put (.put (.done)))) rfl (List.cons_ne_nil _ _) agg116.2 ?_) ?_
      rotate_left; exact P_stop
      refine P_done ?_
      refine T_next ?_
      refine T_retc ?_
      refine T_outR ?_
      obtain rfl := Option.some.inj hx50
      exact T_retP (rs := [.cell 4 116]) Try.results74 (.cell rfl (i := 4) rfl rfl agg116 (.nil)) (Ln := [e9, e18, e53, e27]) ⟨A51, c52, A25, c26, e9, e18, e53, e27, rfl, rfl, Has.len' (Has.up (L := (K ++ [e9, e18, e53, e27])) hs56 (SubE.app2 (SubE.cons2 (i := 0) rfl (SubE.cons2 (i := 1) rfl (SubE.cons2 (i := 2) rfl (SubE.nil)))))), Has.len' (Has.up (L := (K ++ [e9, e18, e53, e27])) hs30 (SubE.app2 (SubE.cons2 (i := 3) rfl (SubE.nil)))), trivial⟩ (loCons lo11 (loCons lo20 (loCons lo55 (loCons lo29 (loNil))))) (by exact .pick 3 rfl (.pick 2 rfl (.pick 0 rfl (.pick 0 rfl (.drop 0 rfl (.drop 0 rfl (.drop 0 rfl (.refl))))))))
    · have hx57 := ite_f h46 hx45
      refine T_condF rfl ?_
      refine T_skip ?_
      refine T_next ?_
      refine T_seq ?_
      refine T_draw [0, 1, 0, 0, 2, 0, 0, 3] [[], [0], [], [], [2, 3], [], [0, 1, 2, 3, 4, 5], [0, 1, 2, 3, 4, 5, 6]] (.q 0 (.q 1 (.q 2 (.q 3 (.q 5 (.e 4 (.q 6 (.e 7 (.done) (.stop))) (.stop))))))) mixed (by kernel_rfl) (by kernel_rfl) ?_
      refine P_p rfl rfl (Ev_field rfl fld116_0 rfl) rfl ?_
      refine P_q rfl rfl (Ev_load1 rfl (i := 4) rfl rfl one4) rfl ?_
      refine P_p rfl rfl (Ev_move rfl) rfl ?_
      refine P_p rfl rfl (Ev_move rfl) rfl ?_
      refine P_p rfl rfl (Ev_move rfl) rfl ?_
      obtain ⟨r58, h59, hx60⟩ := bnd_some hx57
      refine P_x rfl (Wx_callL rfl (fun w1 hw1 => ratio_nat_sub_ok r13 r4 (Has.len' (Has.up (L := (K ++ [e18, e9])) hs21 (SubE.app2 (SubE.cons2 (i := 0) rfl (SubE.nil))))) (Has.len' (Has.up (L := (K ++ [e18, e9])) hs12 (SubE.app2 (SubE.cons2 (i := 1) rfl (SubE.nil))))) h59 w1 (okApp (K := K) (K2 := [e18, e9]) hK (by exact (SubE.cons2 (i := 6) rfl (SubE.nil))) (by exact (SubE.cons2 (i := 1) rfl (SubE.cons2 (i := 2) rfl (SubE.nil)))) hw1)) rfl ?_) ?_
      rotate_left; exact P_stop
      rintro _ _ hlo ⟨A61, c62, e63, rfl, rfl, hs64, -⟩
      have lo65 := hlo e63 (by simp)
      refine T_app1 ?_
      have hs66 : Has (K ++ [e18, e9, e63]) _ _ _ _ _ _ := Has.assoc hs64
      refine P_p rfl rfl (Ev_build rfl (bld116_0b1s2s _ _ _ _ _ _ _)) rfl ?_
      refine P_h rfl rfl (Wh_store rfl rfl rfl (.there (.there (.there (.there (.here))))) (.put (.put (.put (.done)))) rfl (List.cons_ne_nil _ _) agg116.2 ?_) ?_
      rotate_left; exact P_stop
      refine P_done ?_
      refine T_next ?_
      refine T_retc ?_
      obtain rfl := Option.some.inj hx60
      exact T_retP (rs := [.cell 4 116]) Try.results74 (.cell rfl (i := 4) rfl rfl agg116 (.nil)) (Ln := [e18, e9, e63, e27]) ⟨A61, c62, A25, c26, e18, e9, e63, e27, rfl, rfl, Has.len' (Has.up (L := (K ++ [e18, e9, e63, e27])) hs66 (SubE.app2 (SubE.cons2 (i := 0) rfl (SubE.cons2 (i := 1) rfl (SubE.cons2 (i := 2) rfl (SubE.nil)))))), Has.len' (Has.up (L := (K ++ [e18, e9, e63, e27])) hs30 (SubE.app2 (SubE.cons2 (i := 3) rfl (SubE.nil)))), trivial⟩ (loCons lo20 (loCons lo11 (loCons lo65 (loCons lo29 (loNil))))) (by exact .pick 2 rfl (.pick 2 rfl (.pick 0 rfl (.pick 0 rfl (.drop 0 rfl (.drop 0 rfl (.drop 0 rfl (.refl))))))))
set_option maxRecDepth 100000 in
theorem ratio_Num_Sign_ok (p0 : S_ratio_Num) {K : List Ent} {A0_0 : Option Addr} {c0_0 : Nat} {A0_1 : Option Addr} {c0_1 : Nat} (ha0 : Has K A0_0 (p0.n).length c0_0 1 e_u32 (p0.n)) (ha1 : Has K A0_1 (p0.d).length c0_1 1 e_u32 (p0.d)) {r : Int} (hx : ratio_Num_Sign p0 = some r) (w : World) (hK : ∀ e ∈ K, Ent.ok w e) : CtL Try.prog 76 [.agg #[.bool (p0.neg), .slice (A0_0) ((p0.n).length) (c0_0), .slice (A0_1) ((p0.d).length) (c0_1)]] w fun v Ln => v = .int .i64 (r) ∧ Ln = [] ∧ True := by
  have ha0' := Has.up0 ha0
  have ha1' := Has.up0 ha1
  refine CtL.mk 11 Try.func76 rfl Try.ntmps76 (by kernel_rfl) rfl ?_
  show T 11 _ [(0, .agg #[.bool (p0.neg), .slice (A0_0) ((p0.n).length) (c0_0), .slice (A0_1) ((p0.d).length) (c0_1)])] _
  unfold ratio_Num_Sign at hx
  refine T_seq ?_
  refine T_reg ?_
  refine T_x (Wx_box rfl rfl rfl (fun g1 => ?_))
  refine T_val (Ev_assign rfl) rfl ?_
  refine T_nil ?_
  refine T_next ?_
  refine T_seq ?_
  refine T_block ?_
  refine T_seq ?_
  refine T_reg ?_
  refine T_val (Ev_field rfl fld116_1 rfl) rfl ?_
  refine T_val (Ev_load1 rfl (i := 0) rfl rfl one114) rfl ?_
  refine T_val (Ev_len rfl 105 Try.underlying114) rfl ?_
  refine T_val (Ev_eql rfl rfl) rfl ?_
  refine T_val (Ev_assign rfl) rfl ?_
  refine T_nil ?_
  refine T_next ?_
  refine T_caseP (s := 3) rfl (fun h2 => ?_) (fun h2 => ?_)
  · have hx3 := ite_t h2 hx
    refine T_condT rfl ?_
    refine T_seq ?_
    refine T_reg ?_
    refine T_val (Ev_assign rfl) rfl ?_
    refine T_nil ?_
    refine T_next ?_
    refine T_retc ?_
    refine T_inR ?_
    refine T_outR ?_
    obtain rfl := Option.some.inj hx3
    exact T_retP (rs := [.tmp 2]) Try.results76 (.tmp rfl (.nil)) (Ln := []) ⟨rfl, rfl, trivial⟩ (loNil) (by exact .drop 0 rfl (.refl))
  · have hx4 := ite_f h2 hx
    refine T_condF rfl ?_
    refine T_seq ?_
    refine T_reg ?_
    refine T_val (Ev_field rfl fld116_0 rfl) rfl ?_
    refine T_val (Ev_load1 rfl (i := 0) rfl rfl one4) rfl ?_
    refine T_val (Ev_assign rfl) rfl ?_
    refine T_nil ?_
    refine T_next ?_
    refine T_caseB (s := 8) rfl (fun h5 => ?_) (fun h5 => ?_)
    · have hx6 := ite_t h5 hx4
      refine T_condT rfl ?_
      refine T_seq ?_
      refine T_reg ?_
      refine T_val (Ev_assign rfl) rfl ?_
      refine T_nil ?_
      refine T_next ?_
      refine T_retc ?_
      refine T_inR ?_
      refine T_outR ?_
      obtain rfl := Option.some.inj hx6
      exact T_retP (rs := [.tmp 2]) Try.results76 (.tmp rfl (.nil)) (Ln := []) ⟨rfl, rfl, trivial⟩ (loNil) (by exact .drop 0 rfl (.refl))
    · have hx7 := ite_bf h5 hx4
      refine T_condF rfl ?_
      refine T_skip ?_
      refine T_inN ?_
      refine T_next ?_
      refine T_seq ?_
      refine T_reg ?_
      refine T_val (Ev_assign rfl) rfl ?_
      refine T_nil ?_
      refine T_next ?_
      refine T_retc ?_
      obtain rfl := Option.some.inj hx7
      exact T_retP (rs := [.tmp 2]) Try.results76 (.tmp rfl (.nil)) (Ln := []) ⟨rfl, rfl, trivial⟩ (loNil) (by exact .drop 0 rfl (.refl))
set_option maxRecDepth 100000 in
theorem exact_Add_ok (p0 : S_api_Rat) (p1 : S_api_Rat) {K : List Ent} {A0_0 : Option Addr} {c0_0 : Nat} {A0_1 : Option Addr} {c0_1 : Nat} {A0_2 : Option Addr} {c0_2 : Nat} {A0_3 : Option Addr} {c0_3 : Nat} (ha0 : Has K A0_0 (p0.Num).length c0_0 1 e_u32 (p0.Num)) (ha1 : Has K A0_1 (p0.Den).length c0_1 1 e_u32 (p0.Den)) (ha2 : Has K A0_2 (p1.Num).length c0_2 1 e_u32 (p1.Num)) (ha3 : Has K A0_3 (p1.Den).length c0_3 1 e_u32 (p1.Den)) {r : S_api_Rat × Int} (hx : exact_Add p0 p1 = some r) (w : World) (hK : ∀ e ∈ K, Ent.ok w e) : CtL Try.prog 38 [.agg #[.bool (p0.Neg), .slice (A0_0) ((p0.Num).length) (c0_0), .slice (A0_1) ((p0.Den).length) (c0_1)], .agg #[.bool (p1.Neg), .slice (A0_2) ((p1.Num).length) (c0_2), .slice (A0_3) ((p1.Den).length) (c0_3)]] w fun v Ln => ∃ (A0 : Option Addr) (c0 : Nat) (A2 : Option Addr) (c2 : Nat), v = .tuple #[.agg #[.bool (r.1.Neg), .slice (A0) ((r.1.Num).length) (c0), .slice (A2) ((r.1.Den).length) (c2)], .int .i64 (r.2)] ∧ Ln = [.r A0 (r.1.Num).length c0 105 1 ((r.1.Num).flatMap e_u32), .r A2 (r.1.Den).length c2 105 1 ((r.1.Den).flatMap e_u32)] ∧ True := by
  have ha0' := Has.up0 ha0
  have ha1' := Has.up0 ha1
  have ha2' := Has.up0 ha2
  have ha3' := Has.up0 ha3
  refine CtL.mk 19 Try.func38 rfl Try.ntmps38 (by kernel_rfl) rfl ?_
  show T 19 _ [(0, .agg #[.bool (p0.Neg), .slice (A0_0) ((p0.Num).length) (c0_0), .slice (A0_1) ((p0.Den).length) (c0_1)]), (1, .agg #[.bool (p1.Neg), .slice (A0_2) ((p1.Num).length) (c0_2), .slice (A0_3) ((p1.Den).length) (c0_3)])] _
  unfold exact_Add at hx
  refine T_seq ?_
  refine T_reg ?_
  refine T_x (Wx_box rfl rfl rfl (fun g1 => ?_))
  refine T_x (Wx_box rfl rfl rfl (fun g2 => ?_))
  refine T_x (Wx_alloc zer32 rfl (fun g3 => ?_))
  refine T_val (Ev_assign rfl) rfl ?_
  refine T_nil ?_
  refine T_next ?_
  refine T_seq ?_
  refine T_seq ?_
  refine T_reg ?_
  refine T_val (Ev_loadK rfl (i := 2) rfl rfl agg32) rfl ?_
  refine T_val (Ev_loadK rfl (i := 1) rfl rfl agg32) rfl ?_
  refine T_x (Wx_buildSlice rfl (bls147_2_0abss1abss _ _ _ _ _ _ _ _ _ _ _ _ _ _) rfl (fun g4 => ?_))
  have hs5 : HasN (K ++ [.m g4 32 [.bool (p0.Neg), .slice (A0_0) ((p0.Num).length) (c0_0), .slice (A0_1) ((p0.Den).length) (c0_1), .bool (p1.Neg), .slice (A0_2) ((p1.Num).length) (c0_2), .slice (A0_3) ((p1.Den).length) (c0_3)]]) (some ⟨g4, 0, none⟩) 2 2 3 n_api_Rat [p0, p1] := ⟨[[.bool (p0.Neg), .slice (A0_0) ((p0.Num).length) (c0_0), .slice (A0_1) ((p0.Den).length) (c0_1)], [.bool (p1.Neg), .slice (A0_2) ((p1.Num).length) (c0_2), .slice (A0_3) ((p1.Den).length) (c0_3)]], Has.up (L := (K ++ [.m g4 32 [.bool (p0.Neg), .slice (A0_0) ((p0.Num).length) (c0_0), .slice (A0_1) ((p0.Den).length) (c0_1), .bool (p1.Neg), .slice (A0_2) ((p1.Num).length) (c0_2), .slice (A0_3) ((p1.Den).length) (c0_3)]])) (Has.ofM (fun x hx => by simp at hx; rcases hx with rfl | rfl <;> rfl) rfl (by decide) rfl : Has [.m g4 32 [.bool (p0.Neg), .slice (A0_0) ((p0.Num).length) (c0_0), .slice (A0_1) ((p0.Den).length) (c0_1), .bool (p1.Neg), .slice (A0_2) ((p1.Num).length) (c0_2), .slice (A0_3) ((p1.Den).length) (c0_3)]] (some ⟨g4, 0, none⟩) 2 2 3 raw [[.bool (p0.Neg), .slice (A0_0) ((p0.Num).length) (c0_0), .slice (A0_1) ((p0.Den).length) (c0_1)], [.bool (p1.Neg), .slice (A0_2) ((p1.Num).length) (c0_2), .slice (A0_3) ((p1.Den).length) (c0_3)]]) (SubE.appR2 (SubE.cons2 (i := 0) rfl (SubE.nil))), rfl, fun i h h' => match i, h, h' with | 0, _, _ => ⟨A0_0, c0_0, A0_1, c0_1, rfl, Has.len' (Has.up (L := (K ++ [.m g4 32 [.bool (p0.Neg), .slice (A0_0) ((p0.Num).length) (c0_0), .slice (A0_1) ((p0.Den).length) (c0_1), .bool (p1.Neg), .slice (A0_2) ((p1.Num).length) (c0_2), .slice (A0_3) ((p1.Den).length) (c0_3)]])) ha0' (SubE.app2 SubE.nil)), Has.len' (Has.up (L := (K ++ [.m g4 32 [.bool (p0.Neg), .slice (A0_0) ((p0.Num).length) (c0_0), .slice (A0_1) ((p0.Den).length) (c0_1), .bool (p1.Neg), .slice (A0_2) ((p1.Num).length) (c0_2), .slice (A0_3) ((p1.Den).length) (c0_3)]])) ha1' (SubE.app2 SubE.nil))⟩ | 1, _, _ => ⟨A0_2, c0_2, A0_3, c0_3, rfl, Has.len' (Has.up (L := (K ++ [.m g4 32 [.bool (p0.Neg), .slice (A0_0) ((p0.Num).length) (c0_0), .slice (A0_1) ((p0.Den).length) (c0_1), .bool (p1.Neg), .slice (A0_2) ((p1.Num).length) (c0_2), .slice (A0_3) ((p1.Den).length) (c0_3)]])) ha2' (SubE.app2 SubE.nil)), Has.len' (Has.up (L := (K ++ [.m g4 32 [.bool (p0.Neg), .slice (A0_0) ((p0.Num).length) (c0_0), .slice (A0_1) ((p0.Den).length) (c0_1), .bool (p1.Neg), .slice (A0_2) ((p1.Num).length) (c0_2), .slice (A0_3) ((p1.Den).length) (c0_3)]])) ha3' (SubE.app2 SubE.nil))⟩ | j + 2, h, _ => absurd h (by simp)⟩
  obtain ⟨r6, h7, hx8⟩ := bnd_some hx
  refine T_x (Wx_callL rfl (fun w1 hw1 => exact_anyLarge_ok ([p0, p1]) (HasN.len' hs5) h7 w1 (okApp (K := K) (K2 := [.m g4 32 [.bool (p0.Neg), .slice (A0_0) ((p0.Num).length) (c0_0), .slice (A0_1) ((p0.Den).length) (c0_1), .bool (p1.Neg), .slice (A0_2) ((p1.Num).length) (c0_2), .slice (A0_3) ((p1.Den).length) (c0_3)]]) hK (by exact (SubE.cons2 (i := 4) rfl (SubE.nil))) (by exact (SubE.cons2 (i := 0) rfl (SubE.nil))) hw1)) rfl ?_)
  rintro _ _ hlo ⟨rfl, rfl, -⟩
  refine T_app0 ?_
  refine T_nil ?_
  refine T_next ?_
  refine T_caseB (s := 9) rfl (fun h9 => ?_) (fun h9 => ?_)
  · have hx10 := ite_t h9 hx8
    refine T_condT rfl ?_
    refine T_seq ?_
    refine T_reg ?_
    refine T_val (Ev_build rfl (bld32_)) rfl ?_
    refine T_h (Wh_store rfl rfl rfl (.there (.here)) (.put (.put (.put (.done)))) rfl (List.cons_ne_nil _ _) agg32.2 ?_)
    refine T_val (Ev_assign rfl) rfl ?_
    refine T_nil ?_
    refine T_next ?_
    refine T_retc ?_
    refine T_outR ?_
    refine T_none 105 1 ?_
    refine T_none 105 1 ?_
    obtain rfl := Option.some.inj hx10
    exact T_retP (rs := [.cell 4 32, .tmp 5]) Try.results38 (.cell rfl (i := 3) rfl rfl agg32 (.tmp rfl (.nil))) (Ln := [.r (none) (0) (0) 105 1 ((([] : List Int)).flatMap e_u32), .r (none) (0) (0) 105 1 ((([] : List Int)).flatMap e_u32)]) ⟨none, 0, none, 0, rfl, rfl, trivial⟩ (loCons rfl (loCons rfl (loNil))) (by exact .pick 1 rfl (.pick 0 rfl (.drop 0 rfl (.drop 0 rfl (.drop 0 rfl (.drop 0 rfl (.refl)))))))
  · have hx11 := ite_bf h9 hx8
    refine T_condF rfl ?_
    refine T_skip ?_
    refine T_next ?_
    refine T_seq ?_
    refine T_draw [1, 2, 1, 2, 2, 2, 0, 0, 3, 2] [[], [0], [], [0, 1, 2], [0, 1, 2, 3], [0, 1, 2, 3, 4], [0, 1, 2, 3, 4, 5], [0, 1, 2, 3, 4, 5], [0, 1, 2, 3, 4, 5, 6, 7], [0, 1, 2, 3, 4, 5, 6, 7, 8]] (.q 0 (.q 2 (.e 1 (.e 3 (.e 4 (.e 5 (.q 6 (.q 7 (.e 8 (.e 9 (.done) (.stop)) (.stop)))) (.stop)) (.stop)) (.stop)) (.stop)))) mixed (by kernel_rfl) (by kernel_rfl) ?_
    refine P_q rfl rfl (Ev_loadK rfl (i := 3) rfl rfl agg32) rfl ?_
    refine P_q rfl rfl (Ev_loadK rfl (i := 2) rfl rfl agg32) rfl ?_
    obtain ⟨r12, h13, hx14⟩ := bnd_some hx11
    refine P_x rfl (Wx_callL rfl (fun w1 hw1 => ratio_Of_ok p0 (Has.len' ha0') (Has.len' ha1') h13 w1 (okApp (K := K) (K2 := []) hK (by exact (SubE.cons2 (i := 4) rfl (SubE.nil))) (by exact (SubE.nil)) hw1)) rfl ?_) ?_
    rotate_left; exact P_stop
    rintro _ _ hlo ⟨A15, c16, A17, c18, e19, e20, e21, e22, e23, e24, rfl, rfl, hs25, hs26, -⟩
    have lo27 := hlo e19 (by simp)
    have lo28 := hlo e20 (by simp)
    have lo29 := hlo e21 (by simp)
    have lo30 := hlo e22 (by simp)
    have lo31 := hlo e23 (by simp)
    have lo32 := hlo e24 (by simp)
    refine T_app6 ?_
    have hs33 : Has (K ++ [e19, e20, e21, e22, e23, e24]) _ _ _ _ _ _ := Has.assoc hs25
    have hs34 : Has (K ++ [e19, e20, e21, e22, e23, e24]) _ _ _ _ _ _ := Has.assoc hs26
    obtain ⟨r35, h36, hx37⟩ := bnd_some hx14
    refine P_x rfl (Wx_callL rfl (fun w1 hw1 => ratio_Of_ok p1 (Has.len' ha2') (Has.len' ha3') h36 w1 (okApp (K := K) (K2 := []) hK (by exact (SubE.cons2 (i := 10) rfl (SubE.nil))) (by exact (SubE.nil)) hw1)) rfl ?_) ?_
    rotate_left; exact P_stop
    rintro _ _ hlo ⟨A38, c39, A40, c41, e42, e43, e44, e45, e46, e47, rfl, rfl, hs48, hs49, -⟩
    have lo50 := hlo e42 (by simp)
    have lo51 := hlo e43 (by simp)
    have lo52 := hlo e44 (by simp)
    have lo53 := hlo e45 (by simp)
    have lo54 := hlo e46 (by simp)
    have lo55 := hlo e47 (by simp)
    refine T_app6 ?_
    have hs56 : Has (K ++ [e42, e43, e44, e45, e46, e47]) _ _ _ _ _ _ := Has.assoc hs48
    have hs57 : Has (K ++ [e42, e43, e44, e45, e46, e47]) _ _ _ _ _ _ := Has.assoc hs49
    obtain ⟨r58, h59, hx60⟩ := bnd_some hx37
    refine P_x rfl (Wx_callL rfl (fun w1 hw1 => ratio_Num_Add_ok r12 r35 (Has.len' (Has.up (L := (K ++ [e19, e20, e21, e22, e23, e24, e42, e43, e44, e45, e46, e47])) hs33 (SubE.app2 (SubE.cons2 (i := 0) rfl (SubE.cons2 (i := 1) rfl (SubE.cons2 (i := 2) rfl (SubE.cons2 (i := 3) rfl (SubE.cons2 (i := 4) rfl (SubE.cons2 (i := 5) rfl (SubE.nil)))))))))) (Has.len' (Has.up (L := (K ++ [e19, e20, e21, e22, e23, e24, e42, e43, e44, e45, e46, e47])) hs34 (SubE.app2 (SubE.cons2 (i := 0) rfl (SubE.cons2 (i := 1) rfl (SubE.cons2 (i := 2) rfl (SubE.cons2 (i := 3) rfl (SubE.cons2 (i := 4) rfl (SubE.cons2 (i := 5) rfl (SubE.nil)))))))))) (Has.len' (Has.up (L := (K ++ [e19, e20, e21, e22, e23, e24, e42, e43, e44, e45, e46, e47])) hs56 (SubE.app2 (SubE.cons2 (i := 6) rfl (SubE.cons2 (i := 7) rfl (SubE.cons2 (i := 8) rfl (SubE.cons2 (i := 9) rfl (SubE.cons2 (i := 10) rfl (SubE.cons2 (i := 11) rfl (SubE.nil)))))))))) (Has.len' (Has.up (L := (K ++ [e19, e20, e21, e22, e23, e24, e42, e43, e44, e45, e46, e47])) hs57 (SubE.app2 (SubE.cons2 (i := 6) rfl (SubE.cons2 (i := 7) rfl (SubE.cons2 (i := 8) rfl (SubE.cons2 (i := 9) rfl (SubE.cons2 (i := 10) rfl (SubE.cons2 (i := 11) rfl (SubE.nil)))))))))) h59 w1 (okApp (K := K) (K2 := [e19, e20, e21, e22, e23, e24, e42, e43, e44, e45, e46, e47]) hK (by exact (SubE.cons2 (i := 16) rfl (SubE.nil))) (by exact (SubE.cons2 (i := 6) rfl (SubE.cons2 (i := 7) rfl (SubE.cons2 (i := 8) rfl (SubE.cons2 (i := 9) rfl (SubE.cons2 (i := 10) rfl (SubE.cons2 (i := 11) rfl (SubE.cons2 (i := 0) rfl (SubE.cons2 (i := 1) rfl (SubE.cons2 (i := 2) rfl (SubE.cons2 (i := 3) rfl (SubE.cons2 (i := 4) rfl (SubE.cons2 (i := 5) rfl (SubE.nil)))))))))))))) hw1)) rfl ?_) ?_
    rotate_left; exact P_stop
    rintro _ _ hlo ⟨A61, c62, A63, c64, e65, e66, e67, e68, rfl, rfl, hs69, hs70, -⟩
    have lo71 := hlo e65 (by simp)
    have lo72 := hlo e66 (by simp)
    have lo73 := hlo e67 (by simp)
    have lo74 := hlo e68 (by simp)
    refine T_app4 ?_
    have hs75 : Has (K ++ [e19, e20, e21, e22, e23, e24, e42, e43, e44, e45, e46, e47, e65, e66, e67, e68]) _ _ _ _ _ _ := Has.assoc hs69
    have hs76 : Has (K ++ [e19, e20, e21, e22, e23, e24, e42, e43, e44, e45, e46, e47, e65, e66, e67, e68]) _ _ _ _ _ _ := Has.assoc hs70
    obtain ⟨r77, h78, hx79⟩ := bnd_some hx60
    refine P_x rfl (Wx_callL rfl (fun w1 hw1 => ratio_Num_Done_ok r58 (Has.len' hs75) (Has.len' hs76) h78 w1 (okApp (K := K) (K2 := [e19, e20, e21, e22, e23, e24, e42, e43, e44, e45, e46, e47, e65, e66, e67, e68]) hK (by exact (SubE.cons2 (i := 20) rfl (SubE.nil))) (by exact (SubE.cons2 (i := 10) rfl (SubE.cons2 (i := 11) rfl (SubE.cons2 (i := 12) rfl (SubE.cons2 (i := 13) rfl (SubE.cons2 (i := 14) rfl (SubE.cons2 (i := 15) rfl (SubE.cons2 (i := 4) rfl (SubE.cons2 (i := 5) rfl (SubE.cons2 (i := 6) rfl (SubE.cons2 (i := 7) rfl (SubE.cons2 (i := 8) rfl (SubE.cons2 (i := 9) rfl (SubE.cons2 (i := 0) rfl (SubE.cons2 (i := 1) rfl (SubE.cons2 (i := 2) rfl (SubE.cons2 (i := 3) rfl (SubE.nil)))))))))))))))))) hw1)) rfl ?_) ?_
    rotate_left; exact P_stop
    rintro _ _ hlo ⟨A80, c81, A82, c83, rfl, rfl, -⟩
    refine T_app2 ?_
    refine P_p rfl rfl (Ev_extract rfl rfl) rfl ?_
    refine P_p rfl rfl (Ev_extract rfl rfl) rfl ?_
    refine P_h rfl rfl (Wh_store rfl rfl rfl (.there (.there (.there (.there (.there (.there (.there (.there (.there (.there (.there (.there (.there (.there (.there (.there (.there (.there (.there (.here)))))))))))))))))))) (.put (.put (.put (.done)))) rfl (List.cons_ne_nil _ _) agg32.2 ?_) ?_
    rotate_left; exact P_stop
    refine P_x rfl (Wx_val (Ev_assign rfl) rfl ?_) ?_
    rotate_left; exact P_stop
    refine P_done ?_
    refine T_next ?_
    refine T_retc ?_
    obtain rfl := Option.some.inj hx79
    exact T_retP (rs := [.cell 4 32, .tmp 5]) Try.results38 (.cell rfl (i := 19) rfl rfl agg32 (.tmp rfl (.nil))) (Ln := [.r (A80) ((r77.1.Num).length) (c81) 105 1 ((r77.1.Num).flatMap e_u32), .r (A82) ((r77.1.Den).length) (c83) 105 1 ((r77.1.Den).flatMap e_u32)]) ⟨A80, c81, A82, c83, rfl, rfl, trivial⟩ (loCons rfl (loCons rfl (loNil))) (by exact .pick 0 rfl (.pick 0 rfl (.drop 0 rfl (.drop 0 rfl (.drop 0 rfl (.drop 0 rfl (.drop 0 rfl (.drop 0 rfl (.drop 0 rfl (.drop 0 rfl (.drop 0 rfl (.drop 0 rfl (.drop 0 rfl (.drop 0 rfl (.drop 0 rfl (.drop 0 rfl (.drop 0 rfl (.drop 0 rfl (.drop 0 rfl (.drop 0 rfl (.drop 0 rfl (.drop 0 rfl (.refl)))))))))))))))))))))))
set_option maxRecDepth 100000 in
theorem exact_Sign_ok (p0 : S_api_Rat) {K : List Ent} {A0_0 : Option Addr} {c0_0 : Nat} {A0_1 : Option Addr} {c0_1 : Nat} (ha0 : Has K A0_0 (p0.Num).length c0_0 1 e_u32 (p0.Num)) (ha1 : Has K A0_1 (p0.Den).length c0_1 1 e_u32 (p0.Den)) {r : Int × Int} (hx : exact_Sign p0 = some r) (w : World) (hK : ∀ e ∈ K, Ent.ok w e) : CtL Try.prog 39 [.agg #[.bool (p0.Neg), .slice (A0_0) ((p0.Num).length) (c0_0), .slice (A0_1) ((p0.Den).length) (c0_1)]] w fun v Ln => v = .tuple #[.int .i64 (r.1), .int .i64 (r.2)] ∧ Ln = [] ∧ True := by
  have ha0' := Has.up0 ha0
  have ha1' := Has.up0 ha1
  refine CtL.mk 10 Try.func39 rfl Try.ntmps39 (by kernel_rfl) rfl ?_
  show T 10 _ [(0, .agg #[.bool (p0.Neg), .slice (A0_0) ((p0.Num).length) (c0_0), .slice (A0_1) ((p0.Den).length) (c0_1)])] _
  unfold exact_Sign at hx
  refine T_seq ?_
  refine T_reg ?_
  refine T_x (Wx_box rfl rfl rfl (fun g1 => ?_))
  refine T_val (Ev_assign rfl) rfl ?_
  refine T_val (Ev_assign rfl) rfl ?_
  refine T_nil ?_
  refine T_next ?_
  refine T_seq ?_
  refine T_seq ?_
  refine T_reg ?_
  refine T_val (Ev_loadK rfl (i := 0) rfl rfl agg32) rfl ?_
  refine T_x (Wx_buildSlice rfl (bls147_1_0abss _ _ _ _ _ _ _) rfl (fun g2 => ?_))
  have hs3 : HasN (K ++ [.m g2 32 [.bool (p0.Neg), .slice (A0_0) ((p0.Num).length) (c0_0), .slice (A0_1) ((p0.Den).length) (c0_1)]]) (some ⟨g2, 0, none⟩) 1 1 3 n_api_Rat [p0] := ⟨[[.bool (p0.Neg), .slice (A0_0) ((p0.Num).length) (c0_0), .slice (A0_1) ((p0.Den).length) (c0_1)]], Has.up (L := (K ++ [.m g2 32 [.bool (p0.Neg), .slice (A0_0) ((p0.Num).length) (c0_0), .slice (A0_1) ((p0.Den).length) (c0_1)]])) (Has.ofM (fun x hx => by simp at hx; rcases hx with rfl <;> rfl) rfl (by decide) rfl : Has [.m g2 32 [.bool (p0.Neg), .slice (A0_0) ((p0.Num).length) (c0_0), .slice (A0_1) ((p0.Den).length) (c0_1)]] (some ⟨g2, 0, none⟩) 1 1 3 raw [[.bool (p0.Neg), .slice (A0_0) ((p0.Num).length) (c0_0), .slice (A0_1) ((p0.Den).length) (c0_1)]]) (SubE.appR2 (SubE.cons2 (i := 0) rfl (SubE.nil))), rfl, fun i h h' => match i, h, h' with | 0, _, _ => ⟨A0_0, c0_0, A0_1, c0_1, rfl, Has.len' (Has.up (L := (K ++ [.m g2 32 [.bool (p0.Neg), .slice (A0_0) ((p0.Num).length) (c0_0), .slice (A0_1) ((p0.Den).length) (c0_1)]])) ha0' (SubE.app2 SubE.nil)), Has.len' (Has.up (L := (K ++ [.m g2 32 [.bool (p0.Neg), .slice (A0_0) ((p0.Num).length) (c0_0), .slice (A0_1) ((p0.Den).length) (c0_1)]])) ha1' (SubE.app2 SubE.nil))⟩ | j + 1, h, _ => absurd h (by simp)⟩
  obtain ⟨r4, h5, hx6⟩ := bnd_some hx
  refine T_x (Wx_callL rfl (fun w1 hw1 => exact_anyLarge_ok ([p0]) (HasN.len' hs3) h5 w1 (okApp (K := K) (K2 := [.m g2 32 [.bool (p0.Neg), .slice (A0_0) ((p0.Num).length) (c0_0), .slice (A0_1) ((p0.Den).length) (c0_1)]]) hK (by exact (SubE.cons2 (i := 2) rfl (SubE.nil))) (by exact (SubE.cons2 (i := 0) rfl (SubE.nil))) hw1)) rfl ?_)
  rintro _ _ hlo ⟨rfl, rfl, -⟩
  refine T_app0 ?_
  refine T_nil ?_
  refine T_next ?_
  refine T_caseB (s := 6) rfl (fun h7 => ?_) (fun h7 => ?_)
  · have hx8 := ite_t h7 hx6
    refine T_condT rfl ?_
    refine T_seq ?_
    refine T_reg ?_
    refine T_val (Ev_assign rfl) rfl ?_
    refine T_val (Ev_assign rfl) rfl ?_
    refine T_nil ?_
    refine T_next ?_
    refine T_retc ?_
    refine T_outR ?_
    obtain rfl := Option.some.inj hx8
    exact T_retP (rs := [.tmp 2, .tmp 3]) Try.results39 (.tmp rfl (.tmp rfl (.nil))) (Ln := []) ⟨rfl, rfl, trivial⟩ (loNil) (by exact .drop 0 rfl (.drop 0 rfl (.refl)))
  · have hx9 := ite_bf h7 hx6
    refine T_condF rfl ?_
    refine T_skip ?_
    refine T_next ?_
    refine T_seq ?_
    refine T_reg ?_
    refine T_val (Ev_loadK rfl (i := 1) rfl rfl agg32) rfl ?_
    obtain ⟨r10, h11, hx12⟩ := bnd_some hx9
    refine T_x (Wx_callL rfl (fun w1 hw1 => ratio_Of_ok p0 (Has.len' ha0') (Has.len' ha1') h11 w1 (okApp (K := K) (K2 := []) hK (by exact (SubE.cons2 (i := 2) rfl (SubE.nil))) (by exact (SubE.nil)) hw1)) rfl ?_)
    rintro _ _ hlo ⟨A13, c14, A15, c16, e17, e18, e19, e20, e21, e22, rfl, rfl, hs23, hs24, -⟩
    have lo25 := hlo e17 (by simp)
    have lo26 := hlo e18 (by simp)
    have lo27 := hlo e19 (by simp)
    have lo28 := hlo e20 (by simp)
    have lo29 := hlo e21 (by simp)
    have lo30 := hlo e22 (by simp)
    refine T_app6 ?_
    have hs31 : Has (K ++ [e17, e18, e19, e20, e21, e22]) _ _ _ _ _ _ := Has.assoc hs23
    have hs32 : Has (K ++ [e17, e18, e19, e20, e21, e22]) _ _ _ _ _ _ := Has.assoc hs24
    obtain ⟨r33, h34, hx35⟩ := bnd_some hx12
    refine T_x (Wx_callL rfl (fun w1 hw1 => ratio_Num_Sign_ok r10 (Has.len' hs31) (Has.len' hs32) h34 w1 (okApp (K := K) (K2 := [e17, e18, e19, e20, e21, e22]) hK (by exact (SubE.cons2 (i := 8) rfl (SubE.nil))) (by exact (SubE.cons2 (i := 0) rfl (SubE.cons2 (i := 1) rfl (SubE.cons2 (i := 2) rfl (SubE.cons2 (i := 3) rfl (SubE.cons2 (i := 4) rfl (SubE.cons2 (i := 5) rfl (SubE.nil)))))))) hw1)) rfl ?_)
    rintro _ _ hlo ⟨rfl, rfl, -⟩
    refine T_app0 ?_
    refine T_val (Ev_assign rfl) rfl ?_
    refine T_val (Ev_assign rfl) rfl ?_
    refine T_nil ?_
    refine T_next ?_
    refine T_retc ?_
    obtain rfl := Option.some.inj hx35
    exact T_retP (rs := [.tmp 2, .tmp 3]) Try.results39 (.tmp rfl (.tmp rfl (.nil))) (Ln := []) ⟨rfl, rfl, trivial⟩ (loNil) (by exact .drop 0 rfl (.drop 0 rfl (.drop 0 rfl (.drop 0 rfl (.drop 0 rfl (.drop 0 rfl (.drop 0 rfl (.drop 0 rfl (.refl)))))))))
set_option maxRecDepth 100000 in
theorem lidarlaw09_good_ok (p0 : S_api_Grid) {K : List Ent} {A0_0 : Option Addr} {c0_0 : Nat} (ha0 : Has K A0_0 (p0.Cells).length c0_0 3 e_api_Cell (p0.Cells)) {r : Bool} (hx : lidarlaw09_good p0 = some r) (w : World) (hK : ∀ e ∈ K, Ent.ok w e) : CtL Try.prog 36 [.agg #[.int .i64 (p0.Raster.X0), .int .i64 (p0.Raster.Y0), .int .i64 (p0.Raster.Step), .int .i64 (p0.Raster.NX), .int .i64 (p0.Raster.NY), .slice (A0_0) ((p0.Cells).length) (c0_0)]] w fun v Ln => v = .bool (r) ∧ Ln = [] ∧ True := by
  have ha0' := Has.up0 ha0
  refine CtL.mk 11 Try.func36 rfl Try.ntmps36 (by kernel_rfl) rfl ?_
  show T 11 _ [(0, .agg #[.int .i64 (p0.Raster.X0), .int .i64 (p0.Raster.Y0), .int .i64 (p0.Raster.Step), .int .i64 (p0.Raster.NX), .int .i64 (p0.Raster.NY), .slice (A0_0) ((p0.Cells).length) (c0_0)])] _
  unfold lidarlaw09_good at hx
  refine T_seq ?_
  refine T_reg ?_
  refine T_x (Wx_box rfl rfl rfl (fun g1 => ?_))
  refine T_val (Ev_assign rfl) rfl ?_
  refine T_nil ?_
  refine T_next ?_
  obtain ⟨j2, hj2, hx⟩ := jn_some hx
  refine T_cutP (τ := Bool) (γ := Unit) (J := j2) (out := r) (fun s2 y2 => [(2, .bool (s2))]) (fun s2 y2 => [] ++ [.old w]) (fun s2 y2 => True) ?_ ?_
  · intro s2 y2 hx8 hG9
    subst hj2
    refine T_retc ?_
    obtain rfl := Option.some.inj hx8
    exact T_retP (rs := [.tmp 2]) Try.results36 (.tmp rfl (.nil)) (Ln := []) ⟨rfl, rfl, trivial⟩ (loNil) (by exact .refl)
  · skip
    refine T_reg ?_
    refine T_val (Ev_field rfl fld26_1 rfl) rfl ?_
    refine T_val (Ev_load1 rfl (i := 0) rfl rfl one24) rfl ?_
    refine T_val (Ev_len rfl 41 Try.underlying24) rfl ?_
    refine T_val (Ev_leq rfl rfl) rfl ?_
    refine T_val (Ev_move rfl) rfl ?_
    refine T_caseP (s := 7) rfl (fun h2 => ?_) (fun h2 => ?_)
    · have hx3 := ite_t h2 hx
      refine T_valG rfl rfl rfl (Ev_loadK rfl (i := 0) rfl rfl agg26) rfl ?_
      obtain ⟨r4, h5, hx6⟩ := bnd_some hx3
      refine T_xG rfl rfl rfl (Wx_callL rfl (fun w1 hw1 => lidarref09_Valid_ok p0 (Has.len' ha0') h5 w1 (okApp (K := K) (K2 := []) hK (by exact (SubE.cons2 (i := 1) rfl (SubE.nil))) (by exact (SubE.nil)) hw1)) rfl ?_)
      rintro _ _ hlo ⟨rfl, rfl, -⟩
      refine T_app0 ?_
      refine T_val (Ev_pickT rfl rfl) rfl ?_
      refine T_val (Ev_assign rfl) rfl ?_
      refine T_nil ?_
      exact T_metP r4 () hx6 trivial (by exact .cons rfl (.nil)) (by exact .drop 0 rfl (.refl))
    · have hx7 := ite_f h2 hx
      refine T_skipG rfl rfl rfl rfl rfl ?_
      refine T_skipG rfl rfl rfl rfl rfl ?_
      refine T_val (Ev_pickF rfl rfl) rfl ?_
      refine T_val (Ev_assign rfl) rfl ?_
      refine T_nil ?_
      exact T_metP false () hx7 trivial (by exact .cons rfl (.nil)) (by exact .drop 0 rfl (.refl))
set_option maxRecDepth 100000 in
theorem lidarlaw09_alike_ok (p0 : S_api_Grid) (p1 : S_api_Grid) {K : List Ent} {A0_0 : Option Addr} {c0_0 : Nat} {A0_1 : Option Addr} {c0_1 : Nat} (ha0 : Has K A0_0 (p0.Cells).length c0_0 3 e_api_Cell (p0.Cells)) (ha1 : Has K A0_1 (p1.Cells).length c0_1 3 e_api_Cell (p1.Cells)) {r : S_api_Grid × S_api_Grid} (hx : lidarlaw09_alike p0 p1 = some r) (w : World) (hK : ∀ e ∈ K, Ent.ok w e) : CtL Try.prog 37 [.agg #[.int .i64 (p0.Raster.X0), .int .i64 (p0.Raster.Y0), .int .i64 (p0.Raster.Step), .int .i64 (p0.Raster.NX), .int .i64 (p0.Raster.NY), .slice (A0_0) ((p0.Cells).length) (c0_0)], .agg #[.int .i64 (p1.Raster.X0), .int .i64 (p1.Raster.Y0), .int .i64 (p1.Raster.Step), .int .i64 (p1.Raster.NX), .int .i64 (p1.Raster.NY), .slice (A0_1) ((p1.Cells).length) (c0_1)]] w fun v Ln => ∃ (A0 : Option Addr) (c0 : Nat), v = .tuple #[.agg #[.int .i64 (r.1.Raster.X0), .int .i64 (r.1.Raster.Y0), .int .i64 (r.1.Raster.Step), .int .i64 (r.1.Raster.NX), .int .i64 (r.1.Raster.NY), .slice (A0_0) ((r.1.Cells).length) (c0_0)], .agg #[.int .i64 (r.2.Raster.X0), .int .i64 (r.2.Raster.Y0), .int .i64 (r.2.Raster.Step), .int .i64 (r.2.Raster.NX), .int .i64 (r.2.Raster.NY), .slice (A0) ((r.2.Cells).length) (c0)]] ∧ Ln = [.r A0 (r.2.Cells).length c0 41 3 ((r.2.Cells).flatMap e_api_Cell)] ∧ Has K A0_0 (r.1.Cells).length c0_0 3 e_api_Cell (r.1.Cells) ∧ True := by
  have ha0' := Has.up0 ha0
  have ha1' := Has.up0 ha1
  refine CtL.mk 45 Try.func37 rfl Try.ntmps37 (by kernel_rfl) rfl ?_
  show T 45 _ [(0, .agg #[.int .i64 (p0.Raster.X0), .int .i64 (p0.Raster.Y0), .int .i64 (p0.Raster.Step), .int .i64 (p0.Raster.NX), .int .i64 (p0.Raster.NY), .slice (A0_0) ((p0.Cells).length) (c0_0)]), (1, .agg #[.int .i64 (p1.Raster.X0), .int .i64 (p1.Raster.Y0), .int .i64 (p1.Raster.Step), .int .i64 (p1.Raster.NX), .int .i64 (p1.Raster.NY), .slice (A0_1) ((p1.Cells).length) (c0_1)])] _
  unfold lidarlaw09_alike at hx
  refine T_seq ?_
  refine T_reg ?_
  refine T_x (Wx_box rfl rfl rfl (fun g1 => ?_))
  refine T_x (Wx_box rfl rfl rfl (fun g2 => ?_))
  refine T_x (Wx_alloc zer26 rfl (fun g3 => ?_))
  refine T_x (Wx_alloc zer26 rfl (fun g4 => ?_))
  refine T_nil ?_
  refine T_next ?_
  refine T_seq ?_
  refine T_reg ?_
  refine T_val (Ev_field rfl fld26_0 rfl) rfl ?_
  refine T_val (Ev_loadK rfl (i := 3) rfl rfl agg23) rfl ?_
  refine T_val (Ev_build rfl (bld26_0ai64i64i64i64i64 _ _ _ _ _)) rfl ?_
  refine T_x (Wx_alloc zer26 rfl (fun g5 => ?_))
  refine T_h (Wh_store rfl rfl rfl (.here) (.put (.put (.put (.put (.put (.put (.done))))))) rfl (List.cons_ne_nil _ _) agg26.2 ?_)
  refine T_nil ?_
  refine T_next ?_
  obtain ⟨j3, hj3, hx⟩ := jn_some hx
  refine T_cutP (τ := List S_api_Cell) (γ := (Option Addr) × Nat) (J := j3) (out := r) (fun s3 y3 => [(2, .pointer (some ⟨g1, 0, none⟩)), (4, .pointer (some ⟨g3, 0, none⟩)), (5, .pointer (some ⟨g4, 0, none⟩)), (6, .pointer (some ⟨g5, 0, none⟩))]) (fun s3 y3 => [.r (y3.1) ((s3).length) (y3.2) 41 3 ((s3).flatMap e_api_Cell), .m g5 26 [.int .i64 (p0.Raster.X0), .int .i64 (p0.Raster.Y0), .int .i64 (p0.Raster.Step), .int .i64 (p0.Raster.NX), .int .i64 (p0.Raster.NY), .slice (y3.1) ((s3).length) (y3.2)], .m g4 26 [.int .i64 (0), .int .i64 (0), .int .i64 (0), .int .i64 (0), .int .i64 (0), .slice (none) (0) (0)], .m g3 26 [.int .i64 (0), .int .i64 (0), .int .i64 (0), .int .i64 (0), .int .i64 (0), .slice (none) (0) (0)], .m g1 26 [.int .i64 (p0.Raster.X0), .int .i64 (p0.Raster.Y0), .int .i64 (p0.Raster.Step), .int .i64 (p0.Raster.NX), .int .i64 (p0.Raster.NY), .slice (A0_0) ((p0.Cells).length) (c0_0)]] ++ [.old w]) (fun s3 y3 => True) ?_ ?_
  · intro s3 y3 hx86 hG87
    subst hj3
    obtain ⟨j17, hj17, hx86⟩ := jn_some hx86
    refine T_cutP (τ := Unit) (γ := Unit) (J := j17) (out := r) (fun s17 y17 => [(4, .pointer (some ⟨g3, 0, none⟩)), (5, .pointer (some ⟨g4, 0, none⟩))]) (fun s17 y17 => [.r (y3.1) ((s3).length) (y3.2) 41 3 ((s3).flatMap e_api_Cell), .m g4 26 [.int .i64 (p0.Raster.X0), .int .i64 (p0.Raster.Y0), .int .i64 (p0.Raster.Step), .int .i64 (p0.Raster.NX), .int .i64 (p0.Raster.NY), .slice (y3.1) ((s3).length) (y3.2)], .m g3 26 [.int .i64 (p0.Raster.X0), .int .i64 (p0.Raster.Y0), .int .i64 (p0.Raster.Step), .int .i64 (p0.Raster.NX), .int .i64 (p0.Raster.NY), .slice (A0_0) ((p0.Cells).length) (c0_0)]] ++ [.old w]) (fun s17 y17 => True) ?_ ?_
    · intro s17 y17 hx88 hG89
      subst hj17
      refine T_retc ?_
      obtain rfl := Option.some.inj hx88
      exact T_retP (rs := [.cell 4 26, .cell 5 26]) Try.results37 (.cell rfl (i := 2) rfl rfl agg26 (.cell rfl (i := 1) rfl rfl agg26 (.nil))) (Ln := [.r (y3.1) ((s3).length) (y3.2) 41 3 ((s3).flatMap e_api_Cell)]) ⟨y3.1, y3.2, rfl, rfl, Has.len' (Has.dn0 ha0'), trivial⟩ (loCons rfl (loNil)) (by exact .pick 0 rfl (.drop 0 rfl (.drop 0 rfl (.refl))))
    · skip
      refine T_draw [1, 2, 3, 3] [[], [], [0], [0, 1, 2]] (.q 0 (.e 1 (.e 2 (.e 3 (.done) (.stop)) (.stop)) (.e 2 (.e 1 (.e 3 (.done) (.stop)) (.stop)) (.stop)))) mixed (by kernel_rfl) (by kernel_rfl) ?_
      refine P_q rfl rfl (Ev_loadK rfl (i := 4) rfl rfl agg26) rfl ?_
      refine P_x rfl (Wx_val (Ev_loadK rfl (i := 1) rfl rfl agg26) rfl ?_) ?_
      · skip
        refine P_h rfl rfl (Wh_store rfl rfl rfl (.there (.there (.there (.here)))) (.put (.put (.put (.put (.put (.put (.done))))))) rfl (List.cons_ne_nil _ _) agg26.2 ?_) ?_
        rotate_left; exact P_stop
        refine P_h rfl rfl (Wh_store rfl rfl rfl (.there (.there (.here))) (.put (.put (.put (.put (.put (.put (.done))))))) rfl (List.cons_ne_nil _ _) agg26.2 ?_) ?_
        rotate_left; exact P_stop
        refine P_done ?_
        exact T_metP () () hx86 trivial (by exact .cons rfl (.cons rfl (.nil))) (by exact .pick 0 rfl (.pick 1 rfl (.pick 1 rfl (.drop 0 rfl (.drop 0 rfl (.refl))))))
      · skip
        refine P_h rfl rfl (Wh_store rfl rfl rfl (.there (.there (.there (.here)))) (.put (.put (.put (.put (.put (.put (.done))))))) rfl (List.cons_ne_nil _ _) agg26.2 ?_) ?_
        rotate_left; exact P_stop
        refine P_x rfl (Wx_val (Ev_loadK rfl (i := 1) rfl rfl agg26) rfl ?_) ?_
        rotate_left; exact P_stop
        refine P_h rfl rfl (Wh_store rfl rfl rfl (.there (.there (.here))) (.put (.put (.put (.put (.put (.put (.done))))))) rfl (List.cons_ne_nil _ _) agg26.2 ?_) ?_
        rotate_left; exact P_stop
        refine P_done ?_
        exact T_metP () () hx86 trivial (by exact .cons rfl (.cons rfl (.nil))) (by exact .pick 0 rfl (.pick 1 rfl (.pick 1 rfl (.drop 0 rfl (.drop 0 rfl (.refl))))))
  · skip
    refine T_seq ?_
    refine T_reg ?_
    refine T_val (Ev_assign rfl) rfl ?_
    refine T_nil ?_
    refine T_next ?_
    refine T_block ?_
    obtain ⟨t46, hl46, ho46⟩ := bnd_some hx
    refine T_none 41 3 ?_
    have hn47 : 0 = (([] : List S_api_Cell)).length := by simp [setI_len, cpy_len, List.length_append] <;> omega
    refine T_ent (.here) (e' := .r (none) ((([] : List S_api_Cell)).length) (0) 41 3 ((([] : List S_api_Cell)).flatMap e_api_Cell)) (by first | (rw [← hn47]; done) | rfl) ?_
    refine T_loopP (σ := (List S_api_Cell) × Int) (γ := (Option Addr) × Nat) hl46 (fun s46 y46 => [(2, .pointer (some ⟨g1, 0, none⟩)), (3, .pointer (some ⟨g2, 0, none⟩)), (4, .pointer (some ⟨g3, 0, none⟩)), (5, .pointer (some ⟨g4, 0, none⟩)), (6, .pointer (some ⟨g5, 0, none⟩)), (7, .int .i64 (s46.2))]) (fun s46 y46 => [.r (y46.1) ((s46.1).length) (y46.2) 41 3 ((s46.1).flatMap e_api_Cell), .m g5 26 [.int .i64 (p0.Raster.X0), .int .i64 (p0.Raster.Y0), .int .i64 (p0.Raster.Step), .int .i64 (p0.Raster.NX), .int .i64 (p0.Raster.NY), .slice (y46.1) ((s46.1).length) (y46.2)], .m g4 26 [.int .i64 (0), .int .i64 (0), .int .i64 (0), .int .i64 (0), .int .i64 (0), .slice (none) (0) (0)], .m g3 26 [.int .i64 (0), .int .i64 (0), .int .i64 (0), .int .i64 (0), .int .i64 (0), .slice (none) (0) (0)], .m g2 26 [.int .i64 (p1.Raster.X0), .int .i64 (p1.Raster.Y0), .int .i64 (p1.Raster.Step), .int .i64 (p1.Raster.NX), .int .i64 (p1.Raster.NY), .slice (A0_1) ((p1.Cells).length) (c0_1)], .m g1 26 [.int .i64 (p0.Raster.X0), .int .i64 (p0.Raster.Y0), .int .i64 (p0.Raster.Step), .int .i64 (p0.Raster.NX), .int .i64 (p0.Raster.NY), .slice (A0_0) ((p0.Cells).length) (c0_0)]] ++ [.old w]) (fun s46 y46 => True) (none, 0) trivial (by exact .cons rfl (.cons rfl (.cons rfl (.cons rfl (.cons rfl (.cons rfl (.nil))))))) (by exact .pick 0 rfl (.pick 0 rfl (.pick 0 rfl (.pick 0 rfl (.pick 0 rfl (.pick 0 rfl (.refl))))))) ?_
    intro s46 y46 hG46 x46 hx46 ht46
    unfold lidarlaw09_alike_l3 at hx46
    refine T_seq ?_
    refine T_seq ?_
    refine T_reg ?_
    refine T_val (Ev_move rfl) rfl ?_
    refine T_val (Ev_field rfl fld26_1 rfl) rfl ?_
    refine T_val (Ev_load1 rfl (i := 5) rfl rfl one24) rfl ?_
    refine T_val (Ev_len rfl 41 Try.underlying24) rfl ?_
    refine T_val (Ev_lss rfl rfl) rfl ?_
    refine T_nil ?_
    refine T_next ?_
    refine T_caseP (s := 16) rfl (fun h48 => ?_) (fun h48 => ?_)
    · have hx49 := ite_t h48 hx46
      refine T_condT rfl ?_
      refine T_skip ?_
      refine T_next ?_
      refine T_seq ?_
      refine T_block ?_
      refine T_seq ?_
      refine T_reg ?_
      refine T_val (Ev_field rfl fld26_1 rfl) rfl ?_
      refine T_val (Ev_load1 rfl (i := 5) rfl rfl one24) rfl ?_
      refine T_val (Ev_move rfl) rfl ?_
      obtain ⟨x51, h52, hx53⟩ := bnd_some hx49
      have hw61 := Has.low (E := []) ha0' hK
      obtain ⟨b54, o55, j56, hA57, hj58, hl59, hp60⟩ := Has.at_idx hw61 h52
      refine T_val (Ev_index rfl rfl hA57 (j := j56) hj58 hl59 slc24) rfl ?_
      refine T_val (Ev_loadPK0 rfl hp60 (SubE.cons2 (i := 6) rfl (SubE.nil)) rfl agg41) rfl ?_
      refine T_x (Wx_alloc zer41 rfl (fun g62 => ?_))
      refine T_h (Wh_store rfl rfl rfl (.here) (.put (.put (.put (.done)))) rfl (List.cons_ne_nil _ _) agg41.2 ?_)
      refine T_nil ?_
      refine T_next ?_
      obtain ⟨j15, hj15, hx53⟩ := jn_some hx53
      refine T_cutP (τ := Bool × Int × Int) (γ := Unit) (J := j15) (out := x46) (fun s15 y15 => [(2, .pointer (some ⟨g1, 0, none⟩)), (3, .pointer (some ⟨g2, 0, none⟩)), (4, .pointer (some ⟨g3, 0, none⟩)), (5, .pointer (some ⟨g4, 0, none⟩)), (6, .pointer (some ⟨g5, 0, none⟩)), (7, .int .i64 (s46.2)), (8, .pointer (some ⟨g62, 0, none⟩))]) (fun s15 y15 => [.m g62 41 [.bool (s15.1), .int .i64 (s15.2.1), .int .i64 (s15.2.2)], .r (y46.1) ((s46.1).length) (y46.2) 41 3 ((s46.1).flatMap e_api_Cell), .m g5 26 [.int .i64 (p0.Raster.X0), .int .i64 (p0.Raster.Y0), .int .i64 (p0.Raster.Step), .int .i64 (p0.Raster.NX), .int .i64 (p0.Raster.NY), .slice (y46.1) ((s46.1).length) (y46.2)], .m g4 26 [.int .i64 (0), .int .i64 (0), .int .i64 (0), .int .i64 (0), .int .i64 (0), .slice (none) (0) (0)], .m g3 26 [.int .i64 (0), .int .i64 (0), .int .i64 (0), .int .i64 (0), .int .i64 (0), .slice (none) (0) (0)], .m g2 26 [.int .i64 (p1.Raster.X0), .int .i64 (p1.Raster.Y0), .int .i64 (p1.Raster.Step), .int .i64 (p1.Raster.NX), .int .i64 (p1.Raster.NY), .slice (A0_1) ((p1.Cells).length) (c0_1)], .m g1 26 [.int .i64 (p0.Raster.X0), .int .i64 (p0.Raster.Y0), .int .i64 (p0.Raster.Step), .int .i64 (p0.Raster.NX), .int .i64 (p0.Raster.NY), .slice (A0_0) ((p0.Cells).length) (c0_0)]] ++ [.old w]) (fun s15 y15 => True) ?_ ?_
      · intro s15 y15 hx79 hG80
        subst hj15
        refine T_reg ?_
        refine T_val (Ev_field rfl fld26_1 rfl) rfl ?_
        refine T_val (Ev_load1 rfl (i := 2) rfl rfl one24) rfl ?_
        refine T_val (Ev_loadK rfl (i := 0) rfl rfl agg41) rfl ?_
        refine T_x (Wx_buildSlice rfl (bls24_1_0abi64i64 _ _ _) rfl (fun g81 => ?_))
        obtain ⟨h82, hx83⟩ := gd_some hx79
        refine T_h (Wh_appendP e_api_Cell (s46.1) [(⟨s15.1, (⟨s15.2.1, s15.2.2⟩ : S_api_Span)⟩ : S_api_Cell)] rfl rfl rfl elm24 (fun _ => rfl) (i' := 0) rfl rfl rfl rfl h82 rfl (fun _ _ => .there (.there (.here))) (fun _ _ => .drop .refl) (by decide) (fun A84 c85 => ?_))
        refine T_val (Ev_field rfl fld26_1 rfl) rfl ?_
        refine T_h (Wh_store rfl rfl rfl (.there (.there (.here))) (.skip (.skip (.skip (.skip (.skip (.put (.done))))))) rfl (List.cons_ne_nil _ _) one24.2 ?_)
        refine T_nil ?_
        refine T_inN ?_
        refine T_next ?_
        refine T_reg ?_
        refine T_val (Ev_move rfl) rfl ?_
        refine T_val (Ev_add_w64 rfl rfl) rfl ?_
        refine T_val (Ev_assign rfl) rfl ?_
        refine T_nil ?_
        exact T_roundP (s46.1 ++ [(⟨s15.1, (⟨s15.2.1, s15.2.2⟩ : S_api_Span)⟩ : S_api_Cell)], w64 (s46.2 + 1)) (A84, c85) hx83 trivial (by exact .cons rfl (.cons rfl (.cons rfl (.cons rfl (.cons rfl (.cons rfl (.nil))))))) (by exact .pick 1 rfl (.pick 1 rfl (.pick 1 rfl (.pick 1 rfl (.pick 1 rfl (.pick 1 rfl (.drop 0 rfl (.refl))))))))
      · skip
        refine T_seq ?_
        refine T_reg ?_
        refine T_val (Ev_field rfl fld26_1 rfl) rfl ?_
        refine T_val (Ev_load1 rfl (i := 5) rfl rfl one24) rfl ?_
        refine T_val (Ev_len rfl 41 Try.underlying24) rfl ?_
        refine T_val (Ev_gtr rfl rfl) rfl ?_
        refine T_nil ?_
        refine T_next ?_
        refine T_caseP (s := 27) rfl (fun h63 => ?_) (fun h63 => ?_)
        · have hx64 := ite_t h63 hx53
          refine T_condT rfl ?_
          refine T_draw [0, 1, 0, 0, 1, 0, 0, 0, 1, 3] [[], [0], [], [], [3], [3, 4], [2, 3, 4, 5], [0, 1, 2, 3, 4, 5, 6], [0, 1, 2, 3, 4, 5, 6, 7], [0, 1, 2, 3, 4, 5, 6, 7, 8]] (.q 0 (.q 1 (.q 2 (.q 3 (.q 4 (.q 5 (.q 6 (.q 7 (.q 8 (.e 9 (.done) (.stop))))))))))) mixed (by kernel_rfl) (by kernel_rfl) ?_
          refine P_p rfl rfl (Ev_field rfl fld26_1 rfl) rfl ?_
          refine P_q rfl rfl (Ev_load1 rfl (i := 5) rfl rfl one24) rfl ?_
          refine P_p rfl rfl (Ev_move rfl) rfl ?_
          refine P_p rfl rfl (Ev_field rfl fld26_1 rfl) rfl ?_
          refine P_q rfl rfl (Ev_load1 rfl (i := 5) rfl rfl one24) rfl ?_
          refine P_p rfl rfl (Ev_len rfl 41 Try.underlying24) rfl ?_
          obtain ⟨h65, hx66⟩ := gd_some hx64
          refine P_p rfl rfl (Ev_rem rfl rfl h65) rfl ?_
          obtain ⟨x67, h68, hx69⟩ := bnd_some hx66
          have hw77 := Has.low (E := []) ha1' hK
          obtain ⟨b70, o71, j72, hA73, hj74, hl75, hp76⟩ := Has.at_idx hw77 h68
          refine P_p rfl rfl (Ev_index rfl rfl hA73 (j := j72) hj74 hl75 slc24) rfl ?_
          refine P_q rfl rfl (Ev_loadPK0 rfl hp76 (SubE.cons2 (i := 7) rfl (SubE.nil)) rfl agg41) rfl ?_
          refine P_h rfl rfl (Wh_store rfl rfl rfl (.here) (.put (.put (.put (.done)))) rfl (List.cons_ne_nil _ _) agg41.2 ?_) ?_
          rotate_left; exact P_stop
          refine P_done ?_
          exact T_metP (x67.Void, x67.Z.Lo, x67.Z.Hi) () hx69 trivial (by exact .cons rfl (.cons rfl (.cons rfl (.cons rfl (.cons rfl (.cons rfl (.cons rfl (.nil)))))))) (by exact .pick 0 rfl (.pick 0 rfl (.pick 0 rfl (.pick 0 rfl (.pick 0 rfl (.pick 0 rfl (.pick 0 rfl (.refl))))))))
        · have hx78 := ite_f h63 hx53
          refine T_condF rfl ?_
          refine T_skip ?_
          exact T_metP (x51.Void, x51.Z.Lo, x51.Z.Hi) () hx78 trivial (by exact .cons rfl (.cons rfl (.cons rfl (.cons rfl (.cons rfl (.cons rfl (.cons rfl (.nil)))))))) (by exact .pick 0 rfl (.pick 0 rfl (.pick 0 rfl (.pick 0 rfl (.pick 0 rfl (.pick 0 rfl (.pick 0 rfl (.refl))))))))
    · have hx50 := ite_f h48 hx46
      refine T_condF rfl ?_
      refine T_exit ?_
      refine T_outX ?_
      obtain rfl := exit_eq ht46 hx50
      refine T_outX ?_
      refine T_here ?_
      exact T_metP s46.1 (y46.1, y46.2) ho46 trivial (by exact .cons rfl (.cons rfl (.cons rfl (.cons rfl (.nil))))) (by exact .pick 0 rfl (.pick 0 rfl (.pick 0 rfl (.pick 0 rfl (.pick 1 rfl (.drop 0 rfl (.refl)))))))
set_option maxRecDepth 100000 in
theorem lidarlaw09_ModelExchanges_ok (p0 : S_api_Grid) (p1 : S_api_Grid) {K : List Ent} {A0_0 : Option Addr} {c0_0 : Nat} {A0_1 : Option Addr} {c0_1 : Nat} (ha0 : Has K A0_0 (p0.Cells).length c0_0 3 e_api_Cell (p0.Cells)) (ha1 : Has K A0_1 (p1.Cells).length c0_1 3 e_api_Cell (p1.Cells)) {r : Bool} (hx : lidarlaw09_ModelExchanges p0 p1 = some r) (w : World) (hK : ∀ e ∈ K, Ent.ok w e) : CtL Try.prog 7 [.agg #[.int .i64 (p0.Raster.X0), .int .i64 (p0.Raster.Y0), .int .i64 (p0.Raster.Step), .int .i64 (p0.Raster.NX), .int .i64 (p0.Raster.NY), .slice (A0_0) ((p0.Cells).length) (c0_0)], .agg #[.int .i64 (p1.Raster.X0), .int .i64 (p1.Raster.Y0), .int .i64 (p1.Raster.Step), .int .i64 (p1.Raster.NX), .int .i64 (p1.Raster.NY), .slice (A0_1) ((p1.Cells).length) (c0_1)]] w fun v Ln => v = .bool (r) ∧ Ln = [] ∧ True := by
  have ha0' := Has.up0 ha0
  have ha1' := Has.up0 ha1
  refine CtL.mk 186 Try.func7 rfl Try.ntmps7 (by kernel_rfl) rfl ?_
  show T 186 _ [(0, .agg #[.int .i64 (p0.Raster.X0), .int .i64 (p0.Raster.Y0), .int .i64 (p0.Raster.Step), .int .i64 (p0.Raster.NX), .int .i64 (p0.Raster.NY), .slice (A0_0) ((p0.Cells).length) (c0_0)]), (1, .agg #[.int .i64 (p1.Raster.X0), .int .i64 (p1.Raster.Y0), .int .i64 (p1.Raster.Step), .int .i64 (p1.Raster.NX), .int .i64 (p1.Raster.NY), .slice (A0_1) ((p1.Cells).length) (c0_1)])] _
  unfold lidarlaw09_ModelExchanges at hx
  refine T_seq ?_
  refine T_reg ?_
  refine T_x (Wx_box rfl rfl rfl (fun g1 => ?_))
  refine T_x (Wx_box rfl rfl rfl (fun g2 => ?_))
  refine T_val (Ev_assign rfl) rfl ?_
  refine T_nil ?_
  refine T_next ?_
  refine T_seq ?_
  obtain ⟨j3, hj3, hx⟩ := jn_some hx
  refine T_cutP (τ := Bool) (γ := Unit) (J := j3) (out := r) (fun s3 y3 => [(2, .pointer (some ⟨g1, 0, none⟩)), (3, .pointer (some ⟨g2, 0, none⟩)), (30, .bool (s3))]) (fun s3 y3 => [.m g2 26 [.int .i64 (p1.Raster.X0), .int .i64 (p1.Raster.Y0), .int .i64 (p1.Raster.Step), .int .i64 (p1.Raster.NX), .int .i64 (p1.Raster.NY), .slice (A0_1) ((p1.Cells).length) (c0_1)], .m g1 26 [.int .i64 (p0.Raster.X0), .int .i64 (p0.Raster.Y0), .int .i64 (p0.Raster.Step), .int .i64 (p0.Raster.NX), .int .i64 (p0.Raster.NY), .slice (A0_0) ((p0.Cells).length) (c0_0)]] ++ [.old w]) (fun s3 y3 => True) ?_ ?_
  · intro s3 y3 hx12 hG13
    subst hj3
    refine T_caseB (s := 30) rfl (fun h14 => ?_) (fun h14 => ?_)
    · have hx15 := ite_t h14 hx12
      refine T_condT rfl ?_
      refine T_seq ?_
      refine T_reg ?_
      obtain ⟨r16, h17, hx18⟩ := bnd_some hx15
      refine T_x (Wx_callL rfl (fun w1 hw1 => lidarlaw09_first_ok  h17 w1) rfl ?_)
      rintro _ _ hlo ⟨rfl, rfl, -⟩
      refine T_app0 ?_
      refine T_val (Ev_assign rfl) rfl ?_
      refine T_nil ?_
      refine T_next ?_
      refine T_retc ?_
      refine T_outR ?_
      obtain rfl := Option.some.inj hx18
      exact T_retP (rs := [.tmp 4]) Try.results7 (.tmp rfl (.nil)) (Ln := []) ⟨rfl, rfl, trivial⟩ (loNil) (by exact .drop 0 rfl (.drop 0 rfl (.refl)))
    · have hx19 := ite_bf h14 hx12
      refine T_condF rfl ?_
      refine T_skip ?_
      refine T_next ?_
      refine T_seq ?_
      refine T_reg ?_
      refine T_val (Ev_loadK rfl (i := 1) rfl rfl agg26) rfl ?_
      refine T_val (Ev_loadK rfl (i := 0) rfl rfl agg26) rfl ?_
      obtain ⟨r20, h21, hx22⟩ := bnd_some hx19
      refine T_x (Wx_callL rfl (fun w1 hw1 => lidarlaw09_alike_ok p0 p1 (Has.len' ha0') (Has.len' ha1') h21 w1 (okApp (K := K) (K2 := []) hK (by exact (SubE.cons2 (i := 2) rfl (SubE.nil))) (by exact (SubE.nil)) hw1)) rfl ?_)
      rintro _ _ hlo ⟨A23, c24, rfl, rfl, hs25, -⟩
      refine T_app1 ?_
      have hs26 := hs25
      refine T_val (Ev_move rfl) rfl ?_
      refine T_val (Ev_extract rfl rfl) rfl ?_
      refine T_val (Ev_extract rfl rfl) rfl ?_
      refine T_x (Wx_alloc zer26 rfl (fun g27 => ?_))
      refine T_x (Wx_alloc zer26 rfl (fun g28 => ?_))
      refine T_h (Wh_store rfl rfl rfl (.there (.here)) (.put (.put (.put (.put (.put (.put (.done))))))) rfl (List.cons_ne_nil _ _) agg26.2 ?_)
      refine T_h (Wh_store rfl rfl rfl (.here) (.put (.put (.put (.put (.put (.put (.done))))))) rfl (List.cons_ne_nil _ _) agg26.2 ?_)
      refine T_nil ?_
      refine T_next ?_
      refine T_seq ?_
      refine T_reg ?_
      refine T_val (Ev_loadK rfl (i := 1) rfl rfl agg26) rfl ?_
      refine T_val (Ev_loadK rfl (i := 0) rfl rfl agg26) rfl ?_
      refine T_rowP (k := 2) rfl (by decide) (fun _ => rfl) (fun hn29 hs30 => ?_)
      obtain ⟨r31, h32, hx33⟩ := bnd_some hx22
      refine T_x (Wx_callL rfl (fun w1 hw1 => model_Compare_ok r20.1 r20.2 (Has.len' (Has.up (L := (K ++ [.r (A23) ((r20.2.Cells).length) (c24) 41 3 ((r20.2.Cells).flatMap e_api_Cell)])) hs26 (SubE.app2 SubE.nil))) (Has.len' (Has.up (L := (K ++ [.r (A23) ((r20.2.Cells).length) (c24) 41 3 ((r20.2.Cells).flatMap e_api_Cell)])) hs30 (SubE.appR2 (SubE.cons2 (i := 0) rfl (SubE.nil))))) h32 w1 (okApp (K := K) (K2 := [.r (A23) ((r20.2.Cells).length) (c24) 41 3 ((r20.2.Cells).flatMap e_api_Cell)]) hK (by exact (SubE.cons2 (i := 5) rfl (SubE.nil))) (by exact (SubE.cons2 (i := 2) rfl (SubE.nil))) hw1)) rfl ?_)
      rintro _ _ hlo ⟨A34, c35, rfl, rfl, -⟩
      refine T_app1 ?_
      refine T_val (Ev_move rfl) rfl ?_
      refine T_val (Ev_extract rfl rfl) rfl ?_
      refine T_val (Ev_extract rfl rfl) rfl ?_
      refine T_val (Ev_assign rfl) rfl ?_
      refine T_val (Ev_assign rfl) rfl ?_
      refine T_nil ?_
      refine T_next ?_
      refine T_seq ?_
      refine T_reg ?_
      refine T_val (Ev_loadK rfl (i := 1) rfl rfl agg26) rfl ?_
      refine T_val (Ev_loadK rfl (i := 2) rfl rfl agg26) rfl ?_
      refine T_rowP (k := 3) rfl (by decide) (fun _ => rfl) (fun hn36 hs37 => ?_)
      obtain ⟨r38, h39, hx40⟩ := bnd_some hx33
      refine T_x (Wx_callL rfl (fun w1 hw1 => model_Compare_ok r20.2 r20.1 (Has.len' (Has.up (L := (K ++ [.r (A23) ((r20.2.Cells).length) (c24) 41 3 ((r20.2.Cells).flatMap e_api_Cell)])) hs37 (SubE.appR2 (SubE.cons2 (i := 0) rfl (SubE.nil))))) (Has.len' (Has.up (L := (K ++ [.r (A23) ((r20.2.Cells).length) (c24) 41 3 ((r20.2.Cells).flatMap e_api_Cell)])) hs26 (SubE.app2 SubE.nil))) h39 w1 (okApp (K := K) (K2 := [.r (A23) ((r20.2.Cells).length) (c24) 41 3 ((r20.2.Cells).flatMap e_api_Cell)]) hK (by exact (SubE.cons2 (i := 6) rfl (SubE.nil))) (by exact (SubE.cons2 (i := 3) rfl (SubE.nil))) hw1)) rfl ?_)
      rintro _ _ hlo ⟨A41, c42, rfl, rfl, -⟩
      refine T_app1 ?_
      refine T_val (Ev_move rfl) rfl ?_
      refine T_val (Ev_extract rfl rfl) rfl ?_
      refine T_val (Ev_extract rfl rfl) rfl ?_
      refine T_val (Ev_assign rfl) rfl ?_
      refine T_val (Ev_assign rfl) rfl ?_
      refine T_nil ?_
      refine T_next ?_
      refine T_seq ?_
      obtain ⟨j9, hj9, hx40⟩ := jn_some hx40
      refine T_cutP (τ := Bool) (γ := Unit) (J := j9) (out := r) (fun s9 y9 => [(5, .pointer (some ⟨g27, 0, none⟩)), (6, .pointer (some ⟨g28, 0, none⟩)), (7, .slice (A34) ((r31.1).length) (c35)), (9, .slice (A41) ((r38.1).length) (c42)), (70, .bool (s9))]) (fun s9 y9 => [.r (A41) ((r38.1).length) (c42) 3 1 ((r38.1).flatMap e_i64), .r (A34) ((r31.1).length) (c35) 3 1 ((r31.1).flatMap e_i64), .m g28 26 [.int .i64 (r20.2.Raster.X0), .int .i64 (r20.2.Raster.Y0), .int .i64 (r20.2.Raster.Step), .int .i64 (r20.2.Raster.NX), .int .i64 (r20.2.Raster.NY), .slice (A23) ((r20.2.Cells).length) (c24)], .m g27 26 [.int .i64 (r20.1.Raster.X0), .int .i64 (r20.1.Raster.Y0), .int .i64 (r20.1.Raster.Step), .int .i64 (r20.1.Raster.NX), .int .i64 (r20.1.Raster.NY), .slice (A0_0) ((r20.1.Cells).length) (c0_0)], .r (A23) ((r20.2.Cells).length) (c24) 41 3 ((r20.2.Cells).flatMap e_api_Cell)] ++ [.old w]) (fun s9 y9 => True) ?_ ?_
      · intro s9 y9 hx52 hG53
        subst hj9
        refine T_caseB (s := 70) rfl (fun h54 => ?_) (fun h54 => ?_)
        · have hx55 := ite_t h54 hx52
          refine T_condT rfl ?_
          refine T_seq ?_
          refine T_reg ?_
          refine T_val (Ev_assign rfl) rfl ?_
          refine T_nil ?_
          refine T_next ?_
          refine T_retc ?_
          refine T_outR ?_
          obtain rfl := Option.some.inj hx55
          exact T_retP (rs := [.tmp 4]) Try.results7 (.tmp rfl (.nil)) (Ln := []) ⟨rfl, rfl, trivial⟩ (loNil) (by exact .drop 0 rfl (.drop 0 rfl (.drop 0 rfl (.drop 0 rfl (.drop 0 rfl (.refl))))))
        · have hx56 := ite_bf h54 hx52
          refine T_condF rfl ?_
          refine T_skip ?_
          refine T_next ?_
          refine T_seq ?_
          refine T_reg ?_
          refine T_val (Ev_assign rfl) rfl ?_
          refine T_nil ?_
          refine T_next ?_
          obtain ⟨j12, hj12, hx56⟩ := jn_some hx56
          refine T_cutP (τ := List Int) (γ := (Option Addr) × Nat) (J := j12) (out := r) (fun s12 y12 => [(5, .pointer (some ⟨g27, 0, none⟩)), (6, .pointer (some ⟨g28, 0, none⟩)), (11, .slice (y12.1) ((s12).length) (y12.2))]) (fun s12 y12 => [.r (y12.1) ((s12).length) (y12.2) 3 1 ((s12).flatMap e_i64), .m g28 26 [.int .i64 (r20.2.Raster.X0), .int .i64 (r20.2.Raster.Y0), .int .i64 (r20.2.Raster.Step), .int .i64 (r20.2.Raster.NX), .int .i64 (r20.2.Raster.NY), .slice (A23) ((r20.2.Cells).length) (c24)], .m g27 26 [.int .i64 (r20.1.Raster.X0), .int .i64 (r20.1.Raster.Y0), .int .i64 (r20.1.Raster.Step), .int .i64 (r20.1.Raster.NX), .int .i64 (r20.1.Raster.NY), .slice (A0_0) ((r20.1.Cells).length) (c0_0)], .r (A23) ((r20.2.Cells).length) (c24) 41 3 ((r20.2.Cells).flatMap e_api_Cell)] ++ [.old w]) (fun s12 y12 => True) ?_ ?_
          · intro s12 y12 hx319 hG320
            subst hj12
            refine T_seq ?_
            refine T_reg ?_
            refine T_val (Ev_loadK rfl (i := 2) rfl rfl agg26) rfl ?_
            refine T_val (Ev_loadK rfl (i := 1) rfl rfl agg26) rfl ?_
            refine T_val (Ev_move rfl) rfl ?_
            refine T_rowP (k := 3) rfl (by decide) (fun _ => rfl) (fun hn321 hs322 => ?_)
            refine T_rowP (k := 0) rfl (by decide) (fun _ => rfl) (fun hn323 hs324 => ?_)
            obtain ⟨r325, h326, hx327⟩ := bnd_some hx319
            refine T_x (Wx_callL rfl (fun w1 hw1 => model_Amount_ok r20.1 r20.2 s12 (Has.len' (Has.up (L := (K ++ [.r (A23) ((r20.2.Cells).length) (c24) 41 3 ((r20.2.Cells).flatMap e_api_Cell), .r (y12.1) ((s12).length) (y12.2) 3 1 ((s12).flatMap e_i64)])) hs26 (SubE.app2 SubE.nil))) (Has.len' (Has.up (L := (K ++ [.r (A23) ((r20.2.Cells).length) (c24) 41 3 ((r20.2.Cells).flatMap e_api_Cell), .r (y12.1) ((s12).length) (y12.2) 3 1 ((s12).flatMap e_i64)])) hs322 (SubE.appR2 (SubE.cons2 (i := 0) rfl (SubE.nil))))) (Has.len' (Has.up (L := (K ++ [.r (A23) ((r20.2.Cells).length) (c24) 41 3 ((r20.2.Cells).flatMap e_api_Cell), .r (y12.1) ((s12).length) (y12.2) 3 1 ((s12).flatMap e_i64)])) hs324 (SubE.appR2 (SubE.cons2 (i := 1) rfl (SubE.nil))))) h326 w1 (okApp (K := K) (K2 := [.r (A23) ((r20.2.Cells).length) (c24) 41 3 ((r20.2.Cells).flatMap e_api_Cell), .r (y12.1) ((s12).length) (y12.2) 3 1 ((s12).flatMap e_i64)]) hK (by exact (SubE.cons2 (i := 4) rfl (SubE.nil))) (by exact (SubE.cons2 (i := 3) rfl (SubE.cons2 (i := 0) rfl (SubE.nil)))) hw1)) rfl ?_)
            rintro _ _ hlo ⟨A328, c329, A330, c331, A332, c333, A334, c335, e336, e337, rfl, rfl, hs338, hs339, hs340, hs341, -⟩
            have lo342 := hlo e336 (by simp)
            have lo343 := hlo e337 (by simp)
            refine T_app2 ?_
            have hs344 : Has (K ++ [.r (A23) ((r20.2.Cells).length) (c24) 41 3 ((r20.2.Cells).flatMap e_api_Cell), .r (y12.1) ((s12).length) (y12.2) 3 1 ((s12).flatMap e_i64), e336, e337]) _ _ _ _ _ _ := Has.assoc hs338
            have hs345 : Has (K ++ [.r (A23) ((r20.2.Cells).length) (c24) 41 3 ((r20.2.Cells).flatMap e_api_Cell), .r (y12.1) ((s12).length) (y12.2) 3 1 ((s12).flatMap e_i64), e336, e337]) _ _ _ _ _ _ := Has.assoc hs339
            have hs346 : Has (K ++ [.r (A23) ((r20.2.Cells).length) (c24) 41 3 ((r20.2.Cells).flatMap e_api_Cell), .r (y12.1) ((s12).length) (y12.2) 3 1 ((s12).flatMap e_i64), e336, e337]) _ _ _ _ _ _ := Has.assoc hs340
            have hs347 : Has (K ++ [.r (A23) ((r20.2.Cells).length) (c24) 41 3 ((r20.2.Cells).flatMap e_api_Cell), .r (y12.1) ((s12).length) (y12.2) 3 1 ((s12).flatMap e_i64), e336, e337]) _ _ _ _ _ _ := Has.assoc hs341
            refine T_val (Ev_move rfl) rfl ?_
            refine T_val (Ev_extract rfl rfl) rfl ?_
            refine T_val (Ev_extract rfl rfl) rfl ?_
            refine T_val (Ev_extract rfl rfl) rfl ?_
            refine T_x (Wx_alloc zer32 rfl (fun g348 => ?_))
            refine T_x (Wx_alloc zer32 rfl (fun g349 => ?_))
            refine T_h (Wh_store rfl rfl rfl (.there (.here)) (.put (.put (.put (.done)))) rfl (List.cons_ne_nil _ _) agg32.2 ?_)
            refine T_h (Wh_store rfl rfl rfl (.here) (.put (.put (.put (.done)))) rfl (List.cons_ne_nil _ _) agg32.2 ?_)
            refine T_val (Ev_assign rfl) rfl ?_
            refine T_nil ?_
            refine T_next ?_
            refine T_seq ?_
            refine T_reg ?_
            refine T_val (Ev_loadK rfl (i := 5) rfl rfl agg26) rfl ?_
            refine T_val (Ev_loadK rfl (i := 6) rfl rfl agg26) rfl ?_
            refine T_val (Ev_move rfl) rfl ?_
            refine T_rowP (k := 7) rfl (by decide) (fun _ => rfl) (fun hn350 hs351 => ?_)
            refine T_rowP (k := 4) rfl (by decide) (fun _ => rfl) (fun hn352 hs353 => ?_)
            obtain ⟨r354, h355, hx356⟩ := bnd_some hx327
            refine T_x (Wx_callL rfl (fun w1 hw1 => model_Amount_ok r20.2 r20.1 s12 (Has.len' (Has.up (L := (K ++ [.r (A23) ((r20.2.Cells).length) (c24) 41 3 ((r20.2.Cells).flatMap e_api_Cell), .r (y12.1) ((s12).length) (y12.2) 3 1 ((s12).flatMap e_i64)])) hs351 (SubE.appR2 (SubE.cons2 (i := 0) rfl (SubE.nil))))) (Has.len' (Has.up (L := (K ++ [.r (A23) ((r20.2.Cells).length) (c24) 41 3 ((r20.2.Cells).flatMap e_api_Cell), .r (y12.1) ((s12).length) (y12.2) 3 1 ((s12).flatMap e_i64)])) hs26 (SubE.app2 SubE.nil))) (Has.len' (Has.up (L := (K ++ [.r (A23) ((r20.2.Cells).length) (c24) 41 3 ((r20.2.Cells).flatMap e_api_Cell), .r (y12.1) ((s12).length) (y12.2) 3 1 ((s12).flatMap e_i64)])) hs353 (SubE.appR2 (SubE.cons2 (i := 1) rfl (SubE.nil))))) h355 w1 (okApp (K := K) (K2 := [.r (A23) ((r20.2.Cells).length) (c24) 41 3 ((r20.2.Cells).flatMap e_api_Cell), .r (y12.1) ((s12).length) (y12.2) 3 1 ((s12).flatMap e_i64)]) hK (by exact (SubE.cons2 (i := 8) rfl (SubE.nil))) (by exact (SubE.cons2 (i := 7) rfl (SubE.cons2 (i := 4) rfl (SubE.nil)))) hw1)) rfl ?_)
            rintro _ _ hlo ⟨A357, c358, A359, c360, A361, c362, A363, c364, e365, e366, rfl, rfl, hs367, hs368, hs369, hs370, -⟩
            have lo371 := hlo e365 (by simp)
            have lo372 := hlo e366 (by simp)
            refine T_app2 ?_
            have hs373 : Has (K ++ [.r (A23) ((r20.2.Cells).length) (c24) 41 3 ((r20.2.Cells).flatMap e_api_Cell), .r (y12.1) ((s12).length) (y12.2) 3 1 ((s12).flatMap e_i64), e365, e366]) _ _ _ _ _ _ := Has.assoc hs367
            have hs374 : Has (K ++ [.r (A23) ((r20.2.Cells).length) (c24) 41 3 ((r20.2.Cells).flatMap e_api_Cell), .r (y12.1) ((s12).length) (y12.2) 3 1 ((s12).flatMap e_i64), e365, e366]) _ _ _ _ _ _ := Has.assoc hs368
            have hs375 : Has (K ++ [.r (A23) ((r20.2.Cells).length) (c24) 41 3 ((r20.2.Cells).flatMap e_api_Cell), .r (y12.1) ((s12).length) (y12.2) 3 1 ((s12).flatMap e_i64), e365, e366]) _ _ _ _ _ _ := Has.assoc hs369
            have hs376 : Has (K ++ [.r (A23) ((r20.2.Cells).length) (c24) 41 3 ((r20.2.Cells).flatMap e_api_Cell), .r (y12.1) ((s12).length) (y12.2) 3 1 ((s12).flatMap e_i64), e365, e366]) _ _ _ _ _ _ := Has.assoc hs370
            refine T_val (Ev_move rfl) rfl ?_
            refine T_val (Ev_extract rfl rfl) rfl ?_
            refine T_val (Ev_extract rfl rfl) rfl ?_
            refine T_val (Ev_extract rfl rfl) rfl ?_
            refine T_x (Wx_alloc zer32 rfl (fun g377 => ?_))
            refine T_x (Wx_alloc zer32 rfl (fun g378 => ?_))
            refine T_h (Wh_store rfl rfl rfl (.there (.here)) (.put (.put (.put (.done)))) rfl (List.cons_ne_nil _ _) agg32.2 ?_)
            refine T_h (Wh_store rfl rfl rfl (.here) (.put (.put (.put (.done)))) rfl (List.cons_ne_nil _ _) agg32.2 ?_)
            refine T_val (Ev_assign rfl) rfl ?_
            refine T_nil ?_
            refine T_next ?_
            refine T_seq ?_
            refine T_reg ?_
            refine T_val (Ev_loadK rfl (i := 5) rfl rfl agg32) rfl ?_
            refine T_val (Ev_loadK rfl (i := 0) rfl rfl agg32) rfl ?_
            obtain ⟨r379, h380, hx381⟩ := bnd_some hx356
            refine T_x (Wx_callL rfl (fun w1 hw1 => exact_Add_ok r325.1 r354.2.1 (Has.len' (Has.up (L := (K ++ [.r (A23) ((r20.2.Cells).length) (c24) 41 3 ((r20.2.Cells).flatMap e_api_Cell), .r (y12.1) ((s12).length) (y12.2) 3 1 ((s12).flatMap e_i64), e336, e337, e365, e366])) hs344 (SubE.app2 (SubE.cons2 (i := 0) rfl (SubE.cons2 (i := 1) rfl (SubE.cons2 (i := 2) rfl (SubE.cons2 (i := 3) rfl (SubE.nil)))))))) (Has.len' (Has.up (L := (K ++ [.r (A23) ((r20.2.Cells).length) (c24) 41 3 ((r20.2.Cells).flatMap e_api_Cell), .r (y12.1) ((s12).length) (y12.2) 3 1 ((s12).flatMap e_i64), e336, e337, e365, e366])) hs345 (SubE.app2 (SubE.cons2 (i := 0) rfl (SubE.cons2 (i := 1) rfl (SubE.cons2 (i := 2) rfl (SubE.cons2 (i := 3) rfl (SubE.nil)))))))) (Has.len' (Has.up (L := (K ++ [.r (A23) ((r20.2.Cells).length) (c24) 41 3 ((r20.2.Cells).flatMap e_api_Cell), .r (y12.1) ((s12).length) (y12.2) 3 1 ((s12).flatMap e_i64), e336, e337, e365, e366])) hs375 (SubE.app2 (SubE.cons2 (i := 0) rfl (SubE.cons2 (i := 1) rfl (SubE.cons2 (i := 4) rfl (SubE.cons2 (i := 5) rfl (SubE.nil)))))))) (Has.len' (Has.up (L := (K ++ [.r (A23) ((r20.2.Cells).length) (c24) 41 3 ((r20.2.Cells).flatMap e_api_Cell), .r (y12.1) ((s12).length) (y12.2) 3 1 ((s12).flatMap e_i64), e336, e337, e365, e366])) hs376 (SubE.app2 (SubE.cons2 (i := 0) rfl (SubE.cons2 (i := 1) rfl (SubE.cons2 (i := 4) rfl (SubE.cons2 (i := 5) rfl (SubE.nil)))))))) h380 w1 (okApp (K := K) (K2 := [.r (A23) ((r20.2.Cells).length) (c24) 41 3 ((r20.2.Cells).flatMap e_api_Cell), .r (y12.1) ((s12).length) (y12.2) 3 1 ((s12).flatMap e_i64), e336, e337, e365, e366]) hK (by exact (SubE.cons2 (i := 12) rfl (SubE.nil))) (by exact (SubE.cons2 (i := 11) rfl (SubE.cons2 (i := 8) rfl (SubE.cons2 (i := 6) rfl (SubE.cons2 (i := 7) rfl (SubE.cons2 (i := 2) rfl (SubE.cons2 (i := 3) rfl (SubE.nil)))))))) hw1)) rfl ?_)
            rintro _ _ hlo ⟨A382, c383, A384, c385, rfl, rfl, -⟩
            refine T_app2 ?_
            refine T_val (Ev_move rfl) rfl ?_
            refine T_val (Ev_extract rfl rfl) rfl ?_
            refine T_val (Ev_extract rfl rfl) rfl ?_
            refine T_x (Wx_alloc zer32 rfl (fun g386 => ?_))
            refine T_h (Wh_store rfl rfl rfl (.here) (.put (.put (.put (.done)))) rfl (List.cons_ne_nil _ _) agg32.2 ?_)
            refine T_val (Ev_assign rfl) rfl ?_
            refine T_nil ?_
            refine T_next ?_
            refine T_seq ?_
            refine T_reg ?_
            refine T_val (Ev_loadK rfl (i := 7) rfl rfl agg32) rfl ?_
            refine T_val (Ev_loadK rfl (i := 4) rfl rfl agg32) rfl ?_
            obtain ⟨r387, h388, hx389⟩ := bnd_some hx381
            refine T_x (Wx_callL rfl (fun w1 hw1 => exact_Add_ok r325.2.1 r354.1 (Has.len' (Has.up (L := (K ++ [.r (A23) ((r20.2.Cells).length) (c24) 41 3 ((r20.2.Cells).flatMap e_api_Cell), .r (y12.1) ((s12).length) (y12.2) 3 1 ((s12).flatMap e_i64), e336, e337, e365, e366])) hs346 (SubE.app2 (SubE.cons2 (i := 0) rfl (SubE.cons2 (i := 1) rfl (SubE.cons2 (i := 2) rfl (SubE.cons2 (i := 3) rfl (SubE.nil)))))))) (Has.len' (Has.up (L := (K ++ [.r (A23) ((r20.2.Cells).length) (c24) 41 3 ((r20.2.Cells).flatMap e_api_Cell), .r (y12.1) ((s12).length) (y12.2) 3 1 ((s12).flatMap e_i64), e336, e337, e365, e366])) hs347 (SubE.app2 (SubE.cons2 (i := 0) rfl (SubE.cons2 (i := 1) rfl (SubE.cons2 (i := 2) rfl (SubE.cons2 (i := 3) rfl (SubE.nil)))))))) (Has.len' (Has.up (L := (K ++ [.r (A23) ((r20.2.Cells).length) (c24) 41 3 ((r20.2.Cells).flatMap e_api_Cell), .r (y12.1) ((s12).length) (y12.2) 3 1 ((s12).flatMap e_i64), e336, e337, e365, e366])) hs373 (SubE.app2 (SubE.cons2 (i := 0) rfl (SubE.cons2 (i := 1) rfl (SubE.cons2 (i := 4) rfl (SubE.cons2 (i := 5) rfl (SubE.nil)))))))) (Has.len' (Has.up (L := (K ++ [.r (A23) ((r20.2.Cells).length) (c24) 41 3 ((r20.2.Cells).flatMap e_api_Cell), .r (y12.1) ((s12).length) (y12.2) 3 1 ((s12).flatMap e_i64), e336, e337, e365, e366])) hs374 (SubE.app2 (SubE.cons2 (i := 0) rfl (SubE.cons2 (i := 1) rfl (SubE.cons2 (i := 4) rfl (SubE.cons2 (i := 5) rfl (SubE.nil)))))))) h388 w1 (okApp (K := K) (K2 := [.r (A23) ((r20.2.Cells).length) (c24) 41 3 ((r20.2.Cells).flatMap e_api_Cell), .r (y12.1) ((s12).length) (y12.2) 3 1 ((s12).flatMap e_i64), e336, e337, e365, e366]) hK (by exact (SubE.cons2 (i := 15) rfl (SubE.nil))) (by exact (SubE.cons2 (i := 14) rfl (SubE.cons2 (i := 11) rfl (SubE.cons2 (i := 9) rfl (SubE.cons2 (i := 10) rfl (SubE.cons2 (i := 5) rfl (SubE.cons2 (i := 6) rfl (SubE.nil)))))))) hw1)) rfl ?_)
            rintro _ _ hlo ⟨A390, c391, A392, c393, rfl, rfl, -⟩
            refine T_app2 ?_
            refine T_val (Ev_move rfl) rfl ?_
            refine T_val (Ev_extract rfl rfl) rfl ?_
            refine T_val (Ev_extract rfl rfl) rfl ?_
            refine T_x (Wx_alloc zer32 rfl (fun g394 => ?_))
            refine T_h (Wh_store rfl rfl rfl (.here) (.put (.put (.put (.done)))) rfl (List.cons_ne_nil _ _) agg32.2 ?_)
            refine T_val (Ev_assign rfl) rfl ?_
            refine T_nil ?_
            refine T_next ?_
            refine T_seq ?_
            obtain ⟨j33, hj33, hx389⟩ := jn_some hx389
            refine T_cutP (τ := Bool) (γ := Unit) (J := j33) (out := r) (fun s33 y33 => [(17, .pointer (some ⟨g386, 0, none⟩)), (19, .pointer (some ⟨g394, 0, none⟩)), (158, .bool (s33))]) (fun s33 y33 => [.m g394 32 [.bool (r387.1.Neg), .slice (A390) ((r387.1.Num).length) (c391), .slice (A392) ((r387.1.Den).length) (c393)], .r (A390) ((r387.1.Num).length) (c391) 105 1 ((r387.1.Num).flatMap e_u32), .r (A392) ((r387.1.Den).length) (c393) 105 1 ((r387.1.Den).flatMap e_u32), .m g386 32 [.bool (r379.1.Neg), .slice (A382) ((r379.1.Num).length) (c383), .slice (A384) ((r379.1.Den).length) (c385)], .r (A382) ((r379.1.Num).length) (c383) 105 1 ((r379.1.Num).flatMap e_u32), .r (A384) ((r379.1.Den).length) (c385) 105 1 ((r379.1.Den).flatMap e_u32)] ++ [.old w]) (fun s33 y33 => True) ?_ ?_
            · intro s33 y33 hx404 hG405
              subst hj33
              refine T_caseB (s := 158) rfl (fun h406 => ?_) (fun h406 => ?_)
              · have hx407 := ite_t h406 hx404
                refine T_condT rfl ?_
                refine T_seq ?_
                refine T_reg ?_
                refine T_val (Ev_assign rfl) rfl ?_
                refine T_nil ?_
                refine T_next ?_
                refine T_retc ?_
                refine T_outR ?_
                obtain rfl := Option.some.inj hx407
                exact T_retP (rs := [.tmp 4]) Try.results7 (.tmp rfl (.nil)) (Ln := []) ⟨rfl, rfl, trivial⟩ (loNil) (by exact .drop 0 rfl (.drop 0 rfl (.drop 0 rfl (.drop 0 rfl (.drop 0 rfl (.drop 0 rfl (.refl)))))))
              · have hx408 := ite_bf h406 hx404
                refine T_condF rfl ?_
                refine T_skip ?_
                refine T_next ?_
                refine T_seq ?_
                refine T_reg ?_
                refine T_val (Ev_loadK rfl (i := 3) rfl rfl agg32) rfl ?_
                refine T_rowP (k := 4) rfl (by decide) (fun _ => rfl) (fun hn409 hs410 => ?_)
                refine T_rowP (k := 5) rfl (by decide) (fun _ => rfl) (fun hn411 hs412 => ?_)
                obtain ⟨r413, h414, hx415⟩ := bnd_some hx408
                refine T_x (Wx_callL rfl (fun w1 hw1 => exact_Sign_ok r379.1 (Has.len' (Has.up (L := ([.r (A382) ((r379.1.Num).length) (c383) 105 1 ((r379.1.Num).flatMap e_u32), .r (A384) ((r379.1.Den).length) (c385) 105 1 ((r379.1.Den).flatMap e_u32)] : List Ent)) hs410 (SubE.cons2 (i := 0) rfl (SubE.nil)))) (Has.len' (Has.up (L := ([.r (A382) ((r379.1.Num).length) (c383) 105 1 ((r379.1.Num).flatMap e_u32), .r (A384) ((r379.1.Den).length) (c385) 105 1 ((r379.1.Den).flatMap e_u32)] : List Ent)) hs412 (SubE.cons2 (i := 1) rfl (SubE.nil)))) h414 w1 (okAll (K := ([.r (A382) ((r379.1.Num).length) (c383) 105 1 ((r379.1.Num).flatMap e_u32), .r (A384) ((r379.1.Den).length) (c385) 105 1 ((r379.1.Den).flatMap e_u32)] : List Ent)) (by exact (SubE.cons2 (i := 4) rfl (SubE.cons2 (i := 5) rfl (SubE.nil)))) hw1)) rfl ?_)
                rintro _ _ hlo ⟨rfl, rfl, -⟩
                refine T_app0 ?_
                refine T_val (Ev_move rfl) rfl ?_
                refine T_val (Ev_extract rfl rfl) rfl ?_
                refine T_val (Ev_extract rfl rfl) rfl ?_
                refine T_val (Ev_assign rfl) rfl ?_
                refine T_val (Ev_assign rfl) rfl ?_
                refine T_nil ?_
                refine T_next ?_
                refine T_seq ?_
                refine T_reg ?_
                refine T_val (Ev_loadK rfl (i := 0) rfl rfl agg32) rfl ?_
                refine T_rowP (k := 1) rfl (by decide) (fun _ => rfl) (fun hn416 hs417 => ?_)
                refine T_rowP (k := 2) rfl (by decide) (fun _ => rfl) (fun hn418 hs419 => ?_)
                obtain ⟨r420, h421, hx422⟩ := bnd_some hx415
                refine T_x (Wx_callL rfl (fun w1 hw1 => exact_Sign_ok r387.1 (Has.len' (Has.up (L := ([.r (A390) ((r387.1.Num).length) (c391) 105 1 ((r387.1.Num).flatMap e_u32), .r (A392) ((r387.1.Den).length) (c393) 105 1 ((r387.1.Den).flatMap e_u32)] : List Ent)) hs417 (SubE.cons2 (i := 0) rfl (SubE.nil)))) (Has.len' (Has.up (L := ([.r (A390) ((r387.1.Num).length) (c391) 105 1 ((r387.1.Num).flatMap e_u32), .r (A392) ((r387.1.Den).length) (c393) 105 1 ((r387.1.Den).flatMap e_u32)] : List Ent)) hs419 (SubE.cons2 (i := 1) rfl (SubE.nil)))) h421 w1 (okAll (K := ([.r (A390) ((r387.1.Num).length) (c391) 105 1 ((r387.1.Num).flatMap e_u32), .r (A392) ((r387.1.Den).length) (c393) 105 1 ((r387.1.Den).flatMap e_u32)] : List Ent)) (by exact (SubE.cons2 (i := 1) rfl (SubE.cons2 (i := 2) rfl (SubE.nil)))) hw1)) rfl ?_)
                rintro _ _ hlo ⟨rfl, rfl, -⟩
                refine T_app0 ?_
                refine T_val (Ev_move rfl) rfl ?_
                refine T_val (Ev_extract rfl rfl) rfl ?_
                refine T_val (Ev_extract rfl rfl) rfl ?_
                refine T_val (Ev_assign rfl) rfl ?_
                refine T_val (Ev_assign rfl) rfl ?_
                refine T_nil ?_
                refine T_next ?_
                obtain ⟨j37, hj37, hx422⟩ := jn_some hx422
                refine T_cutP (τ := Bool) (γ := Unit) (J := j37) (out := r) (fun s37 y37 => [(4, .bool (s37))]) (fun s37 y37 => [] ++ [.old w]) (fun s37 y37 => True) ?_ ?_
                · intro s37 y37 hx438 hG439
                  subst hj37
                  refine T_retc ?_
                  obtain rfl := Option.some.inj hx438
                  exact T_retP (rs := [.tmp 4]) Try.results7 (.tmp rfl (.nil)) (Ln := []) ⟨rfl, rfl, trivial⟩ (loNil) (by exact .refl)
                · skip
                  refine T_reg ?_
                  refine T_val (Ev_move rfl) rfl ?_
                  refine T_val (Ev_eql rfl rfl) rfl ?_
                  refine T_val (Ev_move rfl) rfl ?_
                  refine T_caseP (s := 171) rfl (fun h423 => ?_) (fun h423 => ?_)
                  · have hx424 := ite_t h423 hx422
                    refine T_valG rfl rfl rfl (Ev_move rfl) rfl ?_
                    refine T_valG rfl rfl rfl (Ev_eql rfl rfl) rfl ?_
                    refine T_val (Ev_pickT rfl rfl) rfl ?_
                    refine T_val (Ev_move rfl) rfl ?_
                    refine T_caseP (s := 175) rfl (fun h425 => ?_) (fun h425 => ?_)
                    · have hx426 := ite_t h425 hx424
                      refine T_valG rfl rfl rfl (Ev_move rfl) rfl ?_
                      refine T_valG rfl rfl rfl (Ev_eql rfl rfl) rfl ?_
                      refine T_val (Ev_pickT rfl rfl) rfl ?_
                      refine T_val (Ev_move rfl) rfl ?_
                      refine T_caseP (s := 179) rfl (fun h427 => ?_) (fun h427 => ?_)
                      · have hx428 := ite_t h427 hx426
                        refine T_valG rfl rfl rfl (Ev_move rfl) rfl ?_
                        refine T_valG rfl rfl rfl (Ev_eql rfl rfl) rfl ?_
                        refine T_val (Ev_pickT rfl rfl) rfl ?_
                        refine T_val (Ev_move rfl) rfl ?_
                        refine T_caseP (s := 183) rfl (fun h429 => ?_) (fun h429 => ?_)
                        · have hx430 := ite_t h429 hx428
                          obtain ⟨r431, h432, hx433⟩ := bnd_some hx430
                          refine T_xG rfl rfl rfl (Wx_callL rfl (fun w1 hw1 => lidarlaw09_first_ok  h432 w1) rfl ?_)
                          rintro _ _ hlo ⟨rfl, rfl, -⟩
                          refine T_app0 ?_
                          refine T_val (Ev_pickT rfl rfl) rfl ?_
                          refine T_val (Ev_assign rfl) rfl ?_
                          refine T_nil ?_
                          exact T_metP r431 () hx433 trivial (by exact .cons rfl (.nil)) (by exact .drop 0 rfl (.drop 0 rfl (.drop 0 rfl (.drop 0 rfl (.drop 0 rfl (.drop 0 rfl (.refl)))))))
                        · have hx434 := ite_f h429 hx428
                          refine T_skipG rfl rfl rfl rfl rfl ?_
                          refine T_val (Ev_pickF rfl rfl) rfl ?_
                          refine T_val (Ev_assign rfl) rfl ?_
                          refine T_nil ?_
                          exact T_metP false () hx434 trivial (by exact .cons rfl (.nil)) (by exact .drop 0 rfl (.drop 0 rfl (.drop 0 rfl (.drop 0 rfl (.drop 0 rfl (.drop 0 rfl (.refl)))))))
                      · have hx435 := ite_f h427 hx426
                        refine T_skipG rfl rfl rfl rfl rfl ?_
                        refine T_skipG rfl rfl rfl rfl rfl ?_
                        refine T_val (Ev_pickF rfl rfl) rfl ?_
                        refine T_val (Ev_move rfl) rfl ?_
                        refine T_skipG rfl rfl rfl rfl rfl ?_
                        refine T_val (Ev_pickF rfl rfl) rfl ?_
                        refine T_val (Ev_assign rfl) rfl ?_
                        refine T_nil ?_
                        exact T_metP false () hx435 trivial (by exact .cons rfl (.nil)) (by exact .drop 0 rfl (.drop 0 rfl (.drop 0 rfl (.drop 0 rfl (.drop 0 rfl (.drop 0 rfl (.refl)))))))
                    · have hx436 := ite_f h425 hx424
                      refine T_skipG rfl rfl rfl rfl rfl ?_
                      refine T_skipG rfl rfl rfl rfl rfl ?_
                      refine T_val (Ev_pickF rfl rfl) rfl ?_
                      refine T_val (Ev_move rfl) rfl ?_
                      refine T_skipG rfl rfl rfl rfl rfl ?_
                      refine T_skipG rfl rfl rfl rfl rfl ?_
                      refine T_val (Ev_pickF rfl rfl) rfl ?_
                      refine T_val (Ev_move rfl) rfl ?_
                      refine T_skipG rfl rfl rfl rfl rfl ?_
                      refine T_val (Ev_pickF rfl rfl) rfl ?_
                      refine T_val (Ev_assign rfl) rfl ?_
                      refine T_nil ?_
                      exact T_metP false () hx436 trivial (by exact .cons rfl (.nil)) (by exact .drop 0 rfl (.drop 0 rfl (.drop 0 rfl (.drop 0 rfl (.drop 0 rfl (.drop 0 rfl (.refl)))))))
                  · have hx437 := ite_f h423 hx422
                    refine T_skipG rfl rfl rfl rfl rfl ?_
                    refine T_skipG rfl rfl rfl rfl rfl ?_
                    refine T_val (Ev_pickF rfl rfl) rfl ?_
                    refine T_val (Ev_move rfl) rfl ?_
                    refine T_skipG rfl rfl rfl rfl rfl ?_
                    refine T_skipG rfl rfl rfl rfl rfl ?_
                    refine T_val (Ev_pickF rfl rfl) rfl ?_
                    refine T_val (Ev_move rfl) rfl ?_
                    refine T_skipG rfl rfl rfl rfl rfl ?_
                    refine T_skipG rfl rfl rfl rfl rfl ?_
                    refine T_val (Ev_pickF rfl rfl) rfl ?_
                    refine T_val (Ev_move rfl) rfl ?_
                    refine T_skipG rfl rfl rfl rfl rfl ?_
                    refine T_val (Ev_pickF rfl rfl) rfl ?_
                    refine T_val (Ev_assign rfl) rfl ?_
                    refine T_nil ?_
                    exact T_metP false () hx437 trivial (by exact .cons rfl (.nil)) (by exact .drop 0 rfl (.drop 0 rfl (.drop 0 rfl (.drop 0 rfl (.drop 0 rfl (.drop 0 rfl (.refl)))))))
            · skip
              refine T_reg ?_
              refine T_val (Ev_move rfl) rfl ?_
              refine T_val (Ev_neq rfl rfl) rfl ?_
              refine T_val (Ev_move rfl) rfl ?_
              refine T_caseNP (s := 147) rfl (fun h395 => ?_) (fun h395 => ?_)
              · have hx396 := ite_f h395 hx389
                refine T_skipG rfl rfl rfl rfl rfl ?_
                refine T_skipG rfl rfl rfl rfl rfl ?_
                refine T_val (Ev_pickT rfl rfl) rfl ?_
                refine T_val (Ev_move rfl) rfl ?_
                refine T_skipG rfl rfl rfl rfl rfl ?_
                refine T_skipG rfl rfl rfl rfl rfl ?_
                refine T_val (Ev_pickT rfl rfl) rfl ?_
                refine T_val (Ev_move rfl) rfl ?_
                refine T_skipG rfl rfl rfl rfl rfl ?_
                refine T_skipG rfl rfl rfl rfl rfl ?_
                refine T_val (Ev_pickT rfl rfl) rfl ?_
                refine T_nil ?_
                exact T_metP true () hx396 trivial (by exact .cons rfl (.cons rfl (.cons rfl (.nil)))) (by exact .pick 0 rfl (.pick 0 rfl (.pick 0 rfl (.pick 0 rfl (.pick 0 rfl (.pick 0 rfl (.drop 0 rfl (.drop 0 rfl (.drop 0 rfl (.drop 0 rfl (.drop 0 rfl (.drop 0 rfl (.drop 0 rfl (.drop 0 rfl (.drop 0 rfl (.drop 0 rfl (.drop 0 rfl (.drop 0 rfl (.refl)))))))))))))))))))
              · have hx397 := ite_t h395 hx389
                refine T_valG rfl rfl rfl (Ev_move rfl) rfl ?_
                refine T_valG rfl rfl rfl (Ev_neq rfl rfl) rfl ?_
                refine T_val (Ev_pickF rfl rfl) rfl ?_
                refine T_val (Ev_move rfl) rfl ?_
                refine T_caseNP (s := 151) rfl (fun h398 => ?_) (fun h398 => ?_)
                · have hx399 := ite_f h398 hx397
                  refine T_skipG rfl rfl rfl rfl rfl ?_
                  refine T_skipG rfl rfl rfl rfl rfl ?_
                  refine T_val (Ev_pickT rfl rfl) rfl ?_
                  refine T_val (Ev_move rfl) rfl ?_
                  refine T_skipG rfl rfl rfl rfl rfl ?_
                  refine T_skipG rfl rfl rfl rfl rfl ?_
                  refine T_val (Ev_pickT rfl rfl) rfl ?_
                  refine T_nil ?_
                  exact T_metP true () hx399 trivial (by exact .cons rfl (.cons rfl (.cons rfl (.nil)))) (by exact .pick 0 rfl (.pick 0 rfl (.pick 0 rfl (.pick 0 rfl (.pick 0 rfl (.pick 0 rfl (.drop 0 rfl (.drop 0 rfl (.drop 0 rfl (.drop 0 rfl (.drop 0 rfl (.drop 0 rfl (.drop 0 rfl (.drop 0 rfl (.drop 0 rfl (.drop 0 rfl (.drop 0 rfl (.drop 0 rfl (.refl)))))))))))))))))))
                · have hx400 := ite_t h398 hx397
                  refine T_valG rfl rfl rfl (Ev_move rfl) rfl ?_
                  refine T_valG rfl rfl rfl (Ev_neq rfl rfl) rfl ?_
                  refine T_val (Ev_pickF rfl rfl) rfl ?_
                  refine T_val (Ev_move rfl) rfl ?_
                  refine T_caseNP (s := 155) rfl (fun h401 => ?_) (fun h401 => ?_)
                  · have hx402 := ite_f h401 hx400
                    refine T_skipG rfl rfl rfl rfl rfl ?_
                    refine T_skipG rfl rfl rfl rfl rfl ?_
                    refine T_val (Ev_pickT rfl rfl) rfl ?_
                    refine T_nil ?_
                    exact T_metP true () hx402 trivial (by exact .cons rfl (.cons rfl (.cons rfl (.nil)))) (by exact .pick 0 rfl (.pick 0 rfl (.pick 0 rfl (.pick 0 rfl (.pick 0 rfl (.pick 0 rfl (.drop 0 rfl (.drop 0 rfl (.drop 0 rfl (.drop 0 rfl (.drop 0 rfl (.drop 0 rfl (.drop 0 rfl (.drop 0 rfl (.drop 0 rfl (.drop 0 rfl (.drop 0 rfl (.drop 0 rfl (.refl)))))))))))))))))))
                  · have hx403 := ite_t h401 hx400
                    refine T_valG rfl rfl rfl (Ev_move rfl) rfl ?_
                    refine T_valG rfl rfl rfl (Ev_neq rfl rfl) rfl ?_
                    refine T_val (Ev_pickF rfl rfl) rfl ?_
                    refine T_nil ?_
                    exact T_metP (!(decide (r387.2 = 0))) () hx403 trivial (by exact .cons rfl (.cons rfl (.cons rfl (.nil)))) (by exact .pick 0 rfl (.pick 0 rfl (.pick 0 rfl (.pick 0 rfl (.pick 0 rfl (.pick 0 rfl (.drop 0 rfl (.drop 0 rfl (.drop 0 rfl (.drop 0 rfl (.drop 0 rfl (.drop 0 rfl (.drop 0 rfl (.drop 0 rfl (.drop 0 rfl (.drop 0 rfl (.drop 0 rfl (.drop 0 rfl (.refl)))))))))))))))))))
          · skip
            refine T_seq ?_
            refine T_reg ?_
            refine T_val (Ev_assign rfl) rfl ?_
            refine T_nil ?_
            refine T_next ?_
            refine T_block ?_
            obtain ⟨t188, hl188, ho188⟩ := bnd_some hx56
            refine T_none 3 1 ?_
            have hn189 : 0 = (([] : List Int)).length := by simp [setI_len, cpy_len, List.length_append] <;> omega
            refine T_ent (.here) (e' := .r (none) ((([] : List Int)).length) (0) 3 1 ((([] : List Int)).flatMap e_i64)) (by first | (rw [← hn189]; done) | rfl) ?_
            refine T_loopP (σ := (List Int) × Int) (γ := (Option Addr) × Nat) hl188 (fun s188 y188 => [(5, .pointer (some ⟨g27, 0, none⟩)), (6, .pointer (some ⟨g28, 0, none⟩)), (7, .slice (A34) ((r31.1).length) (c35)), (9, .slice (A41) ((r38.1).length) (c42)), (11, .slice (y188.1) ((s188.1).length) (y188.2)), (12, .int .i64 (s188.2))]) (fun s188 y188 => [.r (y188.1) ((s188.1).length) (y188.2) 3 1 ((s188.1).flatMap e_i64), .r (A41) ((r38.1).length) (c42) 3 1 ((r38.1).flatMap e_i64), .r (A34) ((r31.1).length) (c35) 3 1 ((r31.1).flatMap e_i64), .m g28 26 [.int .i64 (r20.2.Raster.X0), .int .i64 (r20.2.Raster.Y0), .int .i64 (r20.2.Raster.Step), .int .i64 (r20.2.Raster.NX), .int .i64 (r20.2.Raster.NY), .slice (A23) ((r20.2.Cells).length) (c24)], .m g27 26 [.int .i64 (r20.1.Raster.X0), .int .i64 (r20.1.Raster.Y0), .int .i64 (r20.1.Raster.Step), .int .i64 (r20.1.Raster.NX), .int .i64 (r20.1.Raster.NY), .slice (A0_0) ((r20.1.Cells).length) (c0_0)], .r (A23) ((r20.2.Cells).length) (c24) 41 3 ((r20.2.Cells).flatMap e_api_Cell)] ++ [.old w]) (fun s188 y188 => True) (none, 0) trivial (by exact .cons rfl (.cons rfl (.cons rfl (.cons rfl (.cons rfl (.cons rfl (.nil))))))) (by exact .pick 0 rfl (.pick 0 rfl (.pick 0 rfl (.pick 0 rfl (.pick 0 rfl (.pick 0 rfl (.refl))))))) ?_
            intro s188 y188 hG188 x188 hx188 ht188
            unfold lidarlaw09_ModelExchanges_l10 at hx188
            refine T_seq ?_
            refine T_seq ?_
            refine T_reg ?_
            refine T_val (Ev_move rfl) rfl ?_
            refine T_val (Ev_move rfl) rfl ?_
            refine T_val (Ev_len rfl 3 Try.underlying27) rfl ?_
            refine T_val (Ev_lss rfl rfl) rfl ?_
            refine T_nil ?_
            refine T_next ?_
            refine T_caseP (s := 74) rfl (fun h190 => ?_) (fun h190 => ?_)
            · have hx191 := ite_t h190 hx188
              refine T_condT rfl ?_
              refine T_skip ?_
              refine T_next ?_
              obtain ⟨j23, hj23, hx191⟩ := jn_some hx191
              refine T_cutP (τ := List Int) (γ := (Option Addr) × Nat) (J := j23) (out := x188) (fun s23 y23 => [(5, .pointer (some ⟨g27, 0, none⟩)), (6, .pointer (some ⟨g28, 0, none⟩)), (7, .slice (A34) ((r31.1).length) (c35)), (9, .slice (A41) ((r38.1).length) (c42)), (11, .slice (y23.1) ((s23).length) (y23.2)), (12, .int .i64 (s188.2))]) (fun s23 y23 => [.r (y23.1) ((s23).length) (y23.2) 3 1 ((s23).flatMap e_i64), .r (A41) ((r38.1).length) (c42) 3 1 ((r38.1).flatMap e_i64), .r (A34) ((r31.1).length) (c35) 3 1 ((r31.1).flatMap e_i64), .m g28 26 [.int .i64 (r20.2.Raster.X0), .int .i64 (r20.2.Raster.Y0), .int .i64 (r20.2.Raster.Step), .int .i64 (r20.2.Raster.NX), .int .i64 (r20.2.Raster.NY), .slice (A23) ((r20.2.Cells).length) (c24)], .m g27 26 [.int .i64 (r20.1.Raster.X0), .int .i64 (r20.1.Raster.Y0), .int .i64 (r20.1.Raster.Step), .int .i64 (r20.1.Raster.NX), .int .i64 (r20.1.Raster.NY), .slice (A0_0) ((r20.1.Cells).length) (c0_0)], .r (A23) ((r20.2.Cells).length) (c24) 41 3 ((r20.2.Cells).flatMap e_api_Cell)] ++ [.old w]) (fun s23 y23 => True) ?_ ?_
              · intro s23 y23 hx317 hG318
                subst hj23
                refine T_reg ?_
                refine T_val (Ev_move rfl) rfl ?_
                refine T_val (Ev_add_w64 rfl rfl) rfl ?_
                refine T_val (Ev_assign rfl) rfl ?_
                refine T_nil ?_
                exact T_roundP (s23, w64 (s188.2 + 1)) (y23.1, y23.2) hx317 trivial (by exact .cons rfl (.cons rfl (.cons rfl (.cons rfl (.cons rfl (.cons rfl (.nil))))))) (by exact .pick 0 rfl (.pick 0 rfl (.pick 0 rfl (.pick 0 rfl (.pick 0 rfl (.pick 0 rfl (.refl)))))))
              · skip
                refine T_block ?_
                refine T_seq ?_
                obtain ⟨j25, hj25, hx191⟩ := jn_some hx191
                refine T_cutP (τ := Bool) (γ := Unit) (J := j25) (out := x188) (fun s25 y25 => [(5, .pointer (some ⟨g27, 0, none⟩)), (6, .pointer (some ⟨g28, 0, none⟩)), (7, .slice (A34) ((r31.1).length) (c35)), (9, .slice (A41) ((r38.1).length) (c42)), (11, .slice (y188.1) ((s188.1).length) (y188.2)), (12, .int .i64 (s188.2)), (107, .bool (s25))]) (fun s25 y25 => [.r (y188.1) ((s188.1).length) (y188.2) 3 1 ((s188.1).flatMap e_i64), .r (A41) ((r38.1).length) (c42) 3 1 ((r38.1).flatMap e_i64), .r (A34) ((r31.1).length) (c35) 3 1 ((r31.1).flatMap e_i64), .m g28 26 [.int .i64 (r20.2.Raster.X0), .int .i64 (r20.2.Raster.Y0), .int .i64 (r20.2.Raster.Step), .int .i64 (r20.2.Raster.NX), .int .i64 (r20.2.Raster.NY), .slice (A23) ((r20.2.Cells).length) (c24)], .m g27 26 [.int .i64 (r20.1.Raster.X0), .int .i64 (r20.1.Raster.Y0), .int .i64 (r20.1.Raster.Step), .int .i64 (r20.1.Raster.NX), .int .i64 (r20.1.Raster.NY), .slice (A0_0) ((r20.1.Cells).length) (c0_0)], .r (A23) ((r20.2.Cells).length) (c24) 41 3 ((r20.2.Cells).flatMap e_api_Cell)] ++ [.old w]) (fun s25 y25 => True) ?_ ?_
                · intro s25 y25 hx293 hG294
                  subst hj25
                  refine T_caseB (s := 107) rfl (fun h295 => ?_) (fun h295 => ?_)
                  · have hx296 := ite_t h295 hx293
                    refine T_condT rfl ?_
                    refine T_seq ?_
                    refine T_reg ?_
                    refine T_val (Ev_assign rfl) rfl ?_
                    refine T_nil ?_
                    refine T_next ?_
                    refine T_retc ?_
                    refine T_outR ?_
                    refine T_inR ?_
                    refine T_outR ?_
                    obtain rfl := exit_eq ht188 hx296
                    refine T_outR ?_
                    refine T_inR ?_
                    refine T_outR ?_
                    obtain rfl := Option.some.inj ho188
                    exact T_retP (rs := [.tmp 4]) Try.results7 (.tmp rfl (.nil)) (Ln := []) ⟨rfl, rfl, trivial⟩ (loNil) (by exact .drop 0 rfl (.drop 0 rfl (.drop 0 rfl (.drop 0 rfl (.drop 0 rfl (.drop 0 rfl (.refl)))))))
                  · have hx297 := ite_bf h295 hx293
                    refine T_condF rfl ?_
                    refine T_skip ?_
                    refine T_next ?_
                    refine T_seq ?_
                    refine T_reg ?_
                    refine T_val (Ev_move rfl) rfl ?_
                    refine T_val (Ev_move rfl) rfl ?_
                    obtain ⟨x298, h299, hx300⟩ := bnd_some hx297
                    refine T_idxR (k := 2) rfl (by decide) (fun _ => rfl) h299 (fun b301 j303 hA304 hj305 hl306 hm308 hp307 => ?_)
                    refine T_val (Ev_index rfl rfl hA304 (j := j303) hj305 hl306 slc27) rfl ?_
                    refine T_val (Ev_loadP0 rfl hp307 (SubE.cons2 (i := 2) rfl (SubE.nil)) rfl one3) rfl ?_
                    refine T_val (Ev_neq rfl rfl) rfl ?_
                    refine T_nil ?_
                    refine T_next ?_
                    refine T_caseNP (s := 112) rfl (fun h309 => ?_) (fun h309 => ?_)
                    · have hx310 := ite_f h309 hx300
                      refine T_condT rfl ?_
                      refine T_reg ?_
                      refine T_val (Ev_move rfl) rfl ?_
                      refine T_val (Ev_move rfl) rfl ?_
                      refine T_x (Wx_buildSlice rfl (bls27_1_0i64 _) rfl (fun g311 => ?_))
                      obtain ⟨h312, hx313⟩ := gd_some hx310
                      refine T_h (Wh_appendP e_i64 (s188.1) [s188.2] rfl rfl rfl elm27 (fun _ => rfl) (i' := 0) rfl rfl rfl rfl h312 rfl (fun _ _ => .there (.here)) (fun _ _ => .drop .refl) (by decide) (fun A314 c315 => ?_))
                      refine T_val (Ev_assign rfl) rfl ?_
                      refine T_nil ?_
                      refine T_inN ?_
                      exact T_metP (s188.1 ++ [s188.2]) (A314, c315) hx313 trivial (by exact .cons rfl (.cons rfl (.cons rfl (.cons rfl (.cons rfl (.cons rfl (.nil))))))) (by exact .pick 0 rfl (.pick 0 rfl (.pick 0 rfl (.pick 0 rfl (.pick 0 rfl (.pick 0 rfl (.refl)))))))
                    · have hx316 := ite_t h309 hx300
                      refine T_condF rfl ?_
                      refine T_skip ?_
                      refine T_inN ?_
                      exact T_metP s188.1 (y188.1, y188.2) hx316 trivial (by exact .cons rfl (.cons rfl (.cons rfl (.cons rfl (.cons rfl (.cons rfl (.nil))))))) (by exact .pick 0 rfl (.pick 0 rfl (.pick 0 rfl (.pick 0 rfl (.pick 0 rfl (.pick 0 rfl (.refl)))))))
                · skip
                  refine T_draw [0, 0, 0, 1, 0, 0, 0, 0, 0, 1, 0, 0, 0, 0, 0, 0, 1, 0, 0, 0, 0, 0, 1, 0, 0, 0, 1, 0, 0, 0, 0] [[], [], [0, 1], [0, 1, 2], [0, 1, 2, 3], [0, 1, 2, 3, 4], [0, 1, 2, 3, 4, 5], [0, 1, 2, 3, 4, 5], [0, 1, 2, 3, 4, 5, 6, 7], [0, 1, 2, 3, 4, 5, 6, 7, 8], [0, 1, 2, 3, 4, 5, 6, 7, 8, 9], [0, 1, 2, 3, 4, 5, 6, 7, 8, 9, 10], [0, 1, 2, 3, 4, 5, 6, 7, 8, 9, 10, 11], [0, 1, 2, 3, 4, 5, 6, 7, 8, 9, 10, 11, 12], [0, 1, 2, 3, 4, 5, 6, 7, 8, 9, 10, 11, 12], [0, 1, 2, 3, 4, 5, 6, 7, 8, 9, 10, 11, 12, 13, 14], [0, 1, 2, 3, 4, 5, 6, 7, 8, 9, 10, 11, 12, 13, 14, 15], [0, 1, 2, 3, 4, 5, 6, 7, 8, 9, 10, 11, 12, 13, 14, 15, 16], [0, 1, 2, 3, 4, 5, 6, 7, 8, 9, 10, 11, 12, 13, 14, 15, 16, 17], [0, 1, 2, 3, 4, 5, 6, 7, 8, 9, 10, 11, 12, 13, 14, 15, 16, 17, 18], [0, 1, 2, 3, 4, 5, 6, 7, 8, 9, 10, 11, 12, 13, 14, 15, 16, 17, 18], [0, 1, 2, 3, 4, 5, 6, 7, 8, 9, 10, 11, 12, 13, 14, 15, 16, 17, 18, 19, 20], [0, 1, 2, 3, 4, 5, 6, 7, 8, 9, 10, 11, 12, 13, 14, 15, 16, 17, 18, 19, 20, 21], [0, 1, 2, 3, 4, 5, 6, 7, 8, 9, 10, 11, 12, 13, 14, 15, 16, 17, 18], [0, 1, 2, 3, 4, 5, 6, 7, 8, 9, 10, 11, 12, 13, 14, 15, 16, 17, 18], [0, 1, 2, 3, 4, 5, 6, 7, 8, 9, 10, 11, 12, 13, 14, 15, 16, 17, 18, 23, 24], [0, 1, 2, 3, 4, 5, 6, 7, 8, 9, 10, 11, 12, 13, 14, 15, 16, 17, 18, 23, 24, 25], [0, 1, 2, 3, 4, 5, 6, 7, 8, 9, 10, 11, 12, 13, 14, 15, 16, 17, 18, 23, 24, 25, 26], [0, 1, 2, 3, 4, 5, 6, 7, 8, 9, 10, 11, 12, 13, 14, 15, 16, 17, 18, 19, 20, 21, 22, 23, 24, 25, 26, 27], [0, 1, 2, 3, 4, 5, 6, 7, 8, 9, 10, 11, 12, 13, 14, 15, 16, 17, 18, 19, 20, 21, 22, 23, 24, 25, 26, 27, 28], [0, 1, 2, 3, 4, 5, 6, 7, 8, 9, 10, 11, 12, 13, 14, 15, 16, 17, 18, 19, 20, 21, 22, 23, 24, 25, 26, 27, 28, 29]] (.q 0 (.q 1 (.q 2 (.q 3 (.q 4 (.q 5 (.q 6 (.q 7 (.q 8 (.q 9 (.q 10 (.q 11 (.q 12 (.q 13 (.q 14 (.q 15 (.q 16 (.q 17 (.q 18 (.q 19 (.q 20 (.q 21 (.q 22 (.q 23 (.q 24 (.q 25 (.q 26 (.q 27 (.q 28 (.q 29 (.q 30 (.done)))))))))))))))))))))))))))))))) mixed (by kernel_rfl) (by kernel_rfl) ?_
                  refine P_p rfl rfl (Ev_move rfl) rfl ?_
                  refine P_p rfl rfl (Ev_move rfl) rfl ?_
                  obtain ⟨x193, h194, hx195⟩ := bnd_some hx191
                  refine T_idxR (k := 2) rfl (by decide) (fun _ => rfl) h194 (fun b196 j198 hA199 hj200 hl201 hm203 hp202 => ?_)
                  refine P_p rfl rfl (Ev_index rfl rfl hA199 (j := j198) hj200 hl201 slc27) rfl ?_
                  refine P_q rfl rfl (Ev_loadP0 rfl hp202 (SubE.cons2 (i := 2) rfl (SubE.nil)) rfl one3) rfl ?_
                  refine P_p rfl rfl (Ev_eql rfl rfl) rfl ?_
                  refine P_p rfl rfl (Ev_move rfl) rfl ?_
                  refine T_caseP (s := 82) rfl (fun h204 => ?_) (fun h204 => ?_)
                  · have hx205 := ite_t h204 hx195
                    refine P_pG rfl rfl rfl rfl rfl (Ev_move rfl) rfl ?_
                    refine P_pG rfl rfl rfl rfl rfl (Ev_move rfl) rfl ?_
                    obtain ⟨x206, h207, hx208⟩ := bnd_some hx205
                    refine T_idxR (k := 1) rfl (by decide) (fun _ => rfl) h207 (fun b209 j211 hA212 hj213 hl214 hm216 hp215 => ?_)
                    refine P_pG rfl rfl rfl rfl rfl (Ev_index rfl rfl hA212 (j := j211) hj213 hl214 slc27) rfl ?_
                    refine P_qG rfl rfl rfl rfl rfl (Ev_loadP0 rfl hp215 (SubE.cons2 (i := 1) rfl (SubE.nil)) rfl one3) rfl ?_
                    refine P_pG rfl rfl rfl rfl rfl (Ev_neq rfl rfl) rfl ?_
                    refine P_p rfl rfl (Ev_pickT rfl rfl) rfl ?_
                    refine P_p rfl rfl (Ev_move rfl) rfl ?_
                    refine T_caseNP (s := 89) rfl (fun h217 => ?_) (fun h217 => ?_)
                    · have hx218 := ite_f h217 hx208
                      refine P_skip rfl rfl rfl rfl rfl rfl ?_
                      refine P_skip rfl rfl rfl rfl rfl rfl ?_
                      refine P_skip rfl rfl rfl rfl rfl rfl ?_
                      refine P_skip rfl rfl rfl rfl rfl rfl ?_
                      refine P_skip rfl rfl rfl rfl rfl rfl ?_
                      refine P_skip rfl rfl rfl rfl rfl rfl ?_
                      refine P_skipU rfl rfl rfl rfl rfl ?_
                      refine P_skipU rfl rfl rfl rfl rfl ?_
                      refine P_skipU rfl rfl rfl rfl rfl ?_
                      refine P_skipU rfl rfl rfl rfl rfl ?_
                      refine P_skipU rfl rfl rfl rfl rfl ?_
                      refine P_skipU rfl rfl rfl rfl rfl ?_
                      refine P_skipU rfl rfl rfl rfl rfl ?_
                      refine P_skipU rfl rfl rfl rfl rfl ?_
                      refine P_skipU rfl rfl rfl rfl rfl ?_
                      refine P_skipU rfl rfl rfl rfl rfl ?_
                      refine P_skip rfl rfl rfl rfl rfl rfl ?_
                      refine P_p rfl rfl (Ev_pickT rfl rfl) rfl ?_
                      refine P_done ?_
                      exact T_metP true () hx218 trivial (by exact .cons rfl (.cons rfl (.cons rfl (.cons rfl (.cons rfl (.cons rfl (.cons rfl (.nil)))))))) (by exact .pick 0 rfl (.pick 0 rfl (.pick 0 rfl (.pick 0 rfl (.pick 0 rfl (.pick 0 rfl (.refl)))))))
                    · have hx219 := ite_t h217 hx208
                      refine P_pG rfl rfl rfl rfl rfl (Ev_move rfl) rfl ?_
                      refine P_pG rfl rfl rfl rfl rfl (Ev_move rfl) rfl ?_
                      obtain ⟨x220, h221, hx222⟩ := bnd_some hx219
                      refine T_idxR (k := 2) rfl (by decide) (fun _ => rfl) h221 (fun b223 j225 hA226 hj227 hl228 hm230 hp229 => ?_)
                      refine P_pG rfl rfl rfl rfl rfl (Ev_index rfl rfl hA226 (j := j225) hj227 hl228 slc27) rfl ?_
                      refine P_qG rfl rfl rfl rfl rfl (Ev_loadP0 rfl hp229 (SubE.cons2 (i := 2) rfl (SubE.nil)) rfl one3) rfl ?_
                      refine P_pG rfl rfl rfl rfl rfl (Ev_neq rfl rfl) rfl ?_
                      refine P_pG rfl rfl rfl rfl rfl (Ev_move rfl) rfl ?_
                      refine T_caseNP (s := 95) rfl (fun h231 => ?_) (fun h231 => ?_)
                      · have hx232 := ite_f h231 hx222
                        refine P_pG rfl rfl rfl rfl rfl (Ev_move rfl) rfl ?_
                        refine P_pG rfl rfl rfl rfl rfl (Ev_move rfl) rfl ?_
                        obtain ⟨x233, h234, hx235⟩ := bnd_some hx232
                        refine T_idxR (k := 1) rfl (by decide) (fun _ => rfl) h234 (fun b236 j238 hA239 hj240 hl241 hm243 hp242 => ?_)
                        refine P_pG rfl rfl rfl rfl rfl (Ev_index rfl rfl hA239 (j := j238) hj240 hl241 slc27) rfl ?_
                        refine P_qG rfl rfl rfl rfl rfl (Ev_loadP0 rfl hp242 (SubE.cons2 (i := 1) rfl (SubE.nil)) rfl one3) rfl ?_
                        refine P_pG rfl rfl rfl rfl rfl (Ev_move rfl) rfl ?_
                        refine P_pG rfl rfl rfl rfl rfl (Ev_move rfl) rfl ?_
                        obtain ⟨x244, h245, hx246⟩ := bnd_some hx235
                        refine T_idxR (k := 2) rfl (by decide) (fun _ => rfl) h245 (fun b247 j249 hA250 hj251 hl252 hm254 hp253 => ?_)
                        refine P_pG rfl rfl rfl rfl rfl (Ev_index rfl rfl hA250 (j := j249) hj251 hl252 slc27) rfl ?_
                        refine P_qG rfl rfl rfl rfl rfl (Ev_loadP0 rfl hp253 (SubE.cons2 (i := 2) rfl (SubE.nil)) rfl one3) rfl ?_
                        refine P_pG rfl rfl rfl rfl rfl (Ev_neg_w64 rfl) rfl ?_
                        refine P_pG rfl rfl rfl rfl rfl (Ev_neq rfl rfl) rfl ?_
                        refine P_pG rfl rfl rfl rfl rfl (Ev_pickT rfl rfl) rfl ?_
                        refine P_p rfl rfl (Ev_pickF rfl rfl) rfl ?_
                        refine P_done ?_
                        exact T_metP (!(decide (x233 = (w64 (-(x244)))))) () hx246 trivial (by exact .cons rfl (.cons rfl (.cons rfl (.cons rfl (.cons rfl (.cons rfl (.cons rfl (.nil)))))))) (by exact .pick 0 rfl (.pick 0 rfl (.pick 0 rfl (.pick 0 rfl (.pick 0 rfl (.pick 0 rfl (.refl)))))))
                      · have hx255 := ite_t h231 hx222
                        refine P_skip rfl rfl rfl rfl rfl rfl ?_
                        refine P_skip rfl rfl rfl rfl rfl rfl ?_
                        refine P_skip rfl rfl rfl rfl rfl rfl ?_
                        refine P_skip rfl rfl rfl rfl rfl rfl ?_
                        refine P_skip rfl rfl rfl rfl rfl rfl ?_
                        refine P_skip rfl rfl rfl rfl rfl rfl ?_
                        refine P_skip rfl rfl rfl rfl rfl rfl ?_
                        refine P_skip rfl rfl rfl rfl rfl rfl ?_
                        refine P_skip rfl rfl rfl rfl rfl rfl ?_
                        refine P_skip rfl rfl rfl rfl rfl rfl ?_
                        refine P_pG rfl rfl rfl rfl rfl (Ev_pickF rfl rfl) rfl ?_
                        refine P_p rfl rfl (Ev_pickF rfl rfl) rfl ?_
                        refine P_done ?_
                        exact T_metP false () hx255 trivial (by exact .cons rfl (.cons rfl (.cons rfl (.cons rfl (.cons rfl (.cons rfl (.cons rfl (.nil)))))))) (by exact .pick 0 rfl (.pick 0 rfl (.pick 0 rfl (.pick 0 rfl (.pick 0 rfl (.pick 0 rfl (.refl)))))))
                  · have hx256 := ite_f h204 hx195
                    refine P_skip rfl rfl rfl rfl rfl rfl ?_
                    refine P_skip rfl rfl rfl rfl rfl rfl ?_
                    refine P_skip rfl rfl rfl rfl rfl rfl ?_
                    refine P_skip rfl rfl rfl rfl rfl rfl ?_
                    refine P_skip rfl rfl rfl rfl rfl rfl ?_
                    refine P_p rfl rfl (Ev_pickF rfl rfl) rfl ?_
                    refine P_p rfl rfl (Ev_move rfl) rfl ?_
                    refine P_pG rfl rfl rfl rfl rfl (Ev_move rfl) rfl ?_
                    refine P_pG rfl rfl rfl rfl rfl (Ev_move rfl) rfl ?_
                    obtain ⟨x257, h258, hx259⟩ := bnd_some hx256
                    refine T_idxR (k := 2) rfl (by decide) (fun _ => rfl) h258 (fun b260 j262 hA263 hj264 hl265 hm267 hp266 => ?_)
                    refine P_pG rfl rfl rfl rfl rfl (Ev_index rfl rfl hA263 (j := j262) hj264 hl265 slc27) rfl ?_
                    refine P_qG rfl rfl rfl rfl rfl (Ev_loadP0 rfl hp266 (SubE.cons2 (i := 2) rfl (SubE.nil)) rfl one3) rfl ?_
                    refine P_pG rfl rfl rfl rfl rfl (Ev_neq rfl rfl) rfl ?_
                    refine P_pG rfl rfl rfl rfl rfl (Ev_move rfl) rfl ?_
                    refine T_caseNP (s := 95) rfl (fun h268 => ?_) (fun h268 => ?_)
                    · have hx269 := ite_f h268 hx259
                      refine P_pG rfl rfl rfl rfl rfl (Ev_move rfl) rfl ?_
                      refine P_pG rfl rfl rfl rfl rfl (Ev_move rfl) rfl ?_
                      obtain ⟨x270, h271, hx272⟩ := bnd_some hx269
                      refine T_idxR (k := 1) rfl (by decide) (fun _ => rfl) h271 (fun b273 j275 hA276 hj277 hl278 hm280 hp279 => ?_)
                      refine P_pG rfl rfl rfl rfl rfl (Ev_index rfl rfl hA276 (j := j275) hj277 hl278 slc27) rfl ?_
                      refine P_qG rfl rfl rfl rfl rfl (Ev_loadP0 rfl hp279 (SubE.cons2 (i := 1) rfl (SubE.nil)) rfl one3) rfl ?_
                      refine P_pG rfl rfl rfl rfl rfl (Ev_move rfl) rfl ?_
                      refine P_pG rfl rfl rfl rfl rfl (Ev_move rfl) rfl ?_
                      obtain ⟨x281, h282, hx283⟩ := bnd_some hx272
                      refine T_idxR (k := 2) rfl (by decide) (fun _ => rfl) h282 (fun b284 j286 hA287 hj288 hl289 hm291 hp290 => ?_)
                      refine P_pG rfl rfl rfl rfl rfl (Ev_index rfl rfl hA287 (j := j286) hj288 hl289 slc27) rfl ?_
                      refine P_qG rfl rfl rfl rfl rfl (Ev_loadP0 rfl hp290 (SubE.cons2 (i := 2) rfl (SubE.nil)) rfl one3) rfl ?_
                      refine P_pG rfl rfl rfl rfl rfl (Ev_neg_w64 rfl) rfl ?_
                      refine P_pG rfl rfl rfl rfl rfl (Ev_neq rfl rfl) rfl ?_
                      refine P_pG rfl rfl rfl rfl rfl (Ev_pickT rfl rfl) rfl ?_
                      refine P_p rfl rfl (Ev_pickF rfl rfl) rfl ?_
                      refine P_done ?_
                      exact T_metP (!(decide (x270 = (w64 (-(x281)))))) () hx283 trivial (by exact .cons rfl (.cons rfl (.cons rfl (.cons rfl (.cons rfl (.cons rfl (.cons rfl (.nil)))))))) (by exact .pick 0 rfl (.pick 0 rfl (.pick 0 rfl (.pick 0 rfl (.pick 0 rfl (.pick 0 rfl (.refl)))))))
                    · have hx292 := ite_t h268 hx259
                      refine P_skip rfl rfl rfl rfl rfl rfl ?_
                      refine P_skip rfl rfl rfl rfl rfl rfl ?_
                      refine P_skip rfl rfl rfl rfl rfl rfl ?_
                      refine P_skip rfl rfl rfl rfl rfl rfl ?_
                      refine P_skip rfl rfl rfl rfl rfl rfl ?_
                      refine P_skip rfl rfl rfl rfl rfl rfl ?_
                      refine P_skip rfl rfl rfl rfl rfl rfl ?_
                      refine P_skip rfl rfl rfl rfl rfl rfl ?_
                      refine P_skip rfl rfl rfl rfl rfl rfl ?_
                      refine P_skip rfl rfl rfl rfl rfl rfl ?_
                      refine P_pG rfl rfl rfl rfl rfl (Ev_pickF rfl rfl) rfl ?_
                      refine P_p rfl rfl (Ev_pickF rfl rfl) rfl ?_
                      refine P_done ?_
                      exact T_metP false () hx292 trivial (by exact .cons rfl (.cons rfl (.cons rfl (.cons rfl (.cons rfl (.cons rfl (.cons rfl (.nil)))))))) (by exact .pick 0 rfl (.pick 0 rfl (.pick 0 rfl (.pick 0 rfl (.pick 0 rfl (.pick 0 rfl (.refl)))))))
            · have hx192 := ite_f h190 hx188
              refine T_condF rfl ?_
              refine T_exit ?_
              refine T_outX ?_
              obtain rfl := exit_eq ht188 hx192
              refine T_outX ?_
              refine T_here ?_
              exact T_metP s188.1 (y188.1, y188.2) ho188 trivial (by exact .cons rfl (.cons rfl (.cons rfl (.nil)))) (by exact .pick 0 rfl (.pick 2 rfl (.pick 2 rfl (.pick 2 rfl (.drop 0 rfl (.drop 0 rfl (.refl)))))))
      · skip
        refine T_reg ?_
        refine T_val (Ev_move rfl) rfl ?_
        refine T_val (Ev_neq rfl rfl) rfl ?_
        refine T_val (Ev_move rfl) rfl ?_
        refine T_caseNP (s := 52) rfl (fun h43 => ?_) (fun h43 => ?_)
        · have hx44 := ite_f h43 hx40
          refine T_skipG rfl rfl rfl rfl rfl ?_
          refine T_skipG rfl rfl rfl rfl rfl ?_
          refine T_val (Ev_pickT rfl rfl) rfl ?_
          refine T_val (Ev_move rfl) rfl ?_
          refine T_skipG rfl rfl rfl rfl rfl ?_
          refine T_skipG rfl rfl rfl rfl rfl ?_
          refine T_skipG rfl rfl rfl rfl rfl ?_
          refine T_skipG rfl rfl rfl rfl rfl ?_
          refine T_skipG rfl rfl rfl rfl rfl ?_
          refine T_skipG rfl rfl rfl rfl rfl ?_
          refine T_val (Ev_pickT rfl rfl) rfl ?_
          refine T_val (Ev_move rfl) rfl ?_
          refine T_skipG rfl rfl rfl rfl rfl ?_
          refine T_skipG rfl rfl rfl rfl rfl ?_
          refine T_skipG rfl rfl rfl rfl rfl ?_
          refine T_skipG rfl rfl rfl rfl rfl ?_
          refine T_skipG rfl rfl rfl rfl rfl ?_
          refine T_val (Ev_pickT rfl rfl) rfl ?_
          refine T_nil ?_
          exact T_metP true () hx44 trivial (by exact .cons rfl (.cons rfl (.cons rfl (.cons rfl (.cons rfl (.nil)))))) (by exact .pick 0 rfl (.pick 0 rfl (.pick 0 rfl (.pick 0 rfl (.pick 0 rfl (.drop 0 rfl (.drop 0 rfl (.refl))))))))
        · have hx45 := ite_t h43 hx40
          refine T_valG rfl rfl rfl (Ev_move rfl) rfl ?_
          refine T_valG rfl rfl rfl (Ev_neq rfl rfl) rfl ?_
          refine T_val (Ev_pickF rfl rfl) rfl ?_
          refine T_val (Ev_move rfl) rfl ?_
          refine T_caseNP (s := 56) rfl (fun h46 => ?_) (fun h46 => ?_)
          · have hx47 := ite_f h46 hx45
            refine T_skipG rfl rfl rfl rfl rfl ?_
            refine T_skipG rfl rfl rfl rfl rfl ?_
            refine T_skipG rfl rfl rfl rfl rfl ?_
            refine T_skipG rfl rfl rfl rfl rfl ?_
            refine T_skipG rfl rfl rfl rfl rfl ?_
            refine T_skipG rfl rfl rfl rfl rfl ?_
            refine T_val (Ev_pickT rfl rfl) rfl ?_
            refine T_val (Ev_move rfl) rfl ?_
            refine T_skipG rfl rfl rfl rfl rfl ?_
            refine T_skipG rfl rfl rfl rfl rfl ?_
            refine T_skipG rfl rfl rfl rfl rfl ?_
            refine T_skipG rfl rfl rfl rfl rfl ?_
            refine T_skipG rfl rfl rfl rfl rfl ?_
            refine T_val (Ev_pickT rfl rfl) rfl ?_
            refine T_nil ?_
            exact T_metP true () hx47 trivial (by exact .cons rfl (.cons rfl (.cons rfl (.cons rfl (.cons rfl (.nil)))))) (by exact .pick 0 rfl (.pick 0 rfl (.pick 0 rfl (.pick 0 rfl (.pick 0 rfl (.drop 0 rfl (.drop 0 rfl (.refl))))))))
          · have hx48 := ite_t h46 hx45
            refine T_valG rfl rfl rfl (Ev_move rfl) rfl ?_
            refine T_valG rfl rfl rfl (Ev_len rfl 3 Try.underlying27) rfl ?_
            refine T_valG rfl rfl rfl (Ev_field rfl fld26_1 rfl) rfl ?_
            refine T_valG rfl rfl rfl (Ev_load1 rfl (i := 3) rfl rfl one24) rfl ?_
            refine T_valG rfl rfl rfl (Ev_len rfl 41 Try.underlying24) rfl ?_
            refine T_valG rfl rfl rfl (Ev_neq rfl rfl) rfl ?_
            refine T_val (Ev_pickF rfl rfl) rfl ?_
            refine T_val (Ev_move rfl) rfl ?_
            refine T_caseNP (s := 64) rfl (fun h49 => ?_) (fun h49 => ?_)
            · have hx50 := ite_f h49 hx48
              refine T_skipG rfl rfl rfl rfl rfl ?_
              refine T_skipG rfl rfl rfl rfl rfl ?_
              refine T_skipG rfl rfl rfl rfl rfl ?_
              refine T_skipG rfl rfl rfl rfl rfl ?_
              refine T_skipG rfl rfl rfl rfl rfl ?_
              refine T_val (Ev_pickT rfl rfl) rfl ?_
              refine T_nil ?_
              exact T_metP true () hx50 trivial (by exact .cons rfl (.cons rfl (.cons rfl (.cons rfl (.cons rfl (.nil)))))) (by exact .pick 0 rfl (.pick 0 rfl (.pick 0 rfl (.pick 0 rfl (.pick 0 rfl (.drop 0 rfl (.drop 0 rfl (.refl))))))))
            · have hx51 := ite_t h49 hx48
              refine T_valG rfl rfl rfl (Ev_move rfl) rfl ?_
              refine T_valG rfl rfl rfl (Ev_len rfl 3 Try.underlying27) rfl ?_
              refine T_valG rfl rfl rfl (Ev_move rfl) rfl ?_
              refine T_valG rfl rfl rfl (Ev_len rfl 3 Try.underlying27) rfl ?_
              refine T_valG rfl rfl rfl (Ev_neq rfl rfl) rfl ?_
              refine T_val (Ev_pickF rfl rfl) rfl ?_
              refine T_nil ?_
              exact T_metP (!(decide (((((r38.1).length : Nat) : Int)) = ((((r31.1).length : Nat) : Int))))) () hx51 trivial (by exact .cons rfl (.cons rfl (.cons rfl (.cons rfl (.cons rfl (.nil)))))) (by exact .pick 0 rfl (.pick 0 rfl (.pick 0 rfl (.pick 0 rfl (.pick 0 rfl (.drop 0 rfl (.drop 0 rfl (.refl))))))))
  · skip
    refine T_reg ?_
    refine T_val (Ev_loadK rfl (i := 1) rfl rfl agg26) rfl ?_
    obtain ⟨r3, h4, hx5⟩ := bnd_some hx
    refine T_x (Wx_callL rfl (fun w1 hw1 => lidarlaw09_good_ok p0 (Has.len' ha0') h4 w1 (okApp (K := K) (K2 := []) hK (by exact (SubE.cons2 (i := 2) rfl (SubE.nil))) (by exact (SubE.nil)) hw1)) rfl ?_)
    rintro _ _ hlo ⟨rfl, rfl, -⟩
    refine T_app0 ?_
    refine T_val (Ev_not rfl) rfl ?_
    refine T_val (Ev_move rfl) rfl ?_
    refine T_caseNB (s := 26) rfl (fun h6 => ?_) (fun h6 => ?_)
    · have hx7 := ite_bf h6 hx5
      refine T_skipG rfl rfl rfl rfl rfl ?_
      refine T_skipG rfl rfl rfl rfl rfl ?_
      refine T_skipG rfl rfl rfl rfl rfl ?_
      refine T_val (Ev_pickT rfl rfl) rfl ?_
      refine T_nil ?_
      exact T_metP true () hx7 trivial (by exact .cons rfl (.cons rfl (.cons rfl (.nil)))) (by exact .pick 0 rfl (.pick 0 rfl (.refl)))
    · have hx8 := ite_t h6 hx5
      refine T_valG rfl rfl rfl (Ev_loadK rfl (i := 0) rfl rfl agg26) rfl ?_
      obtain ⟨r9, h10, hx11⟩ := bnd_some hx8
      refine T_xG rfl rfl rfl (Wx_callL rfl (fun w1 hw1 => lidarlaw09_good_ok p1 (Has.len' ha1') h10 w1 (okApp (K := K) (K2 := []) hK (by exact (SubE.cons2 (i := 2) rfl (SubE.nil))) (by exact (SubE.nil)) hw1)) rfl ?_)
      rintro _ _ hlo ⟨rfl, rfl, -⟩
      refine T_app0 ?_
      refine T_valG rfl rfl rfl (Ev_not rfl) rfl ?_
      refine T_val (Ev_pickF rfl rfl) rfl ?_
      refine T_nil ?_
      exact T_metP (!(r9)) () hx11 trivial (by exact .cons rfl (.cons rfl (.cons rfl (.nil)))) (by exact .pick 0 rfl (.pick 0 rfl (.refl)))
end Go.Proofs.Ytjhknbpiaikblaa
