/- Walks of the program, with their plain functions: rational numbers, amounts. -/
import Derived.Test.YtdcdabkoajhllaaK2
namespace Go.Proofs.Ytdcdabkoajhllaa
open Go Go.RowKit
theorem fld51_0 : FieldOf Try.prog 51 0 0 := .mk Try.underlying51 rfl rfl (show Try.prog.info? 4 = some Try.t4 from by kernel_rfl) (show Try.t4.size = 1 from by kernel_rfl) rfl
theorem bld51_  : BuildOf Try.prog 51 [] [.bool (false), .slice (none) (0) (0), .slice (none) (0) (0)] := fun w => by kernel_rfl
theorem bld51_0b1s (x0 : Bool) (x1 : Option Addr) (x2 : Nat) (x3 : Nat) : BuildOf Try.prog 51 [(0, .bool x0), (1, .slice x1 x2 x3)] [.bool x0, .slice x1 x2 x3, .slice (none) (0) (0)] := fun w => by kernel_rfl
theorem bls90_1_0abss (x0 : Bool) (x1 : Option Addr) (x2 : Nat) (x3 : Nat) (x4 : Option Addr) (x5 : Nat) (x6 : Nat) : BuildSliceOf Try.prog 90 1 [(0, .agg #[.bool x0, .slice x1 x2 x3, .slice x4 x5 x6])] 51 [.bool x0, .slice x1 x2 x3, .slice x4 x5 x6] := fun w => by kernel_rfl
theorem bls90_2_0abss1abss (x0 : Bool) (x1 : Option Addr) (x2 : Nat) (x3 : Nat) (x4 : Option Addr) (x5 : Nat) (x6 : Nat) (x7 : Bool) (x8 : Option Addr) (x9 : Nat) (x10 : Nat) (x11 : Option Addr) (x12 : Nat) (x13 : Nat) : BuildSliceOf Try.prog 90 2 [(0, .agg #[.bool x0, .slice x1 x2 x3, .slice x4 x5 x6]), (1, .agg #[.bool x7, .slice x8 x9 x10, .slice x11 x12 x13])] 51 [.bool x0, .slice x1 x2 x3, .slice x4 x5 x6, .bool x7, .slice x8 x9 x10, .slice x11 x12 x13] := fun w => by kernel_rfl
noncomputable def ratio_Of (p0 : S_api_Rat) : Option S_ratio_Num :=
 bnd (ratio_nat_norm p0.Den) fun r3 =>
 jn (fun (s3 : List Int) =>
 bnd (ratio_nat_norm p0.Num) fun r18 =>
 bnd (ratio_Num_Reduced (⟨p0.Neg, r18, s3⟩ : S_ratio_Num)) fun r25 =>
 some r25)
 (fun j3 => if ((((r3).length : Nat) : Int)) = 0 then (j3 ([1]))
 else (j3 r3))
noncomputable def ratio_Num_Done (p0 : S_ratio_Num) : Option (S_api_Rat × Int) :=
 bnd (ratio_Num_Reduced p0) fun r3 =>
 jn (fun (s4 : Bool) =>
 if s4 = true then (some ((⟨false, ([] : List Int), ([] : List Int)⟩ : S_api_Rat), 1))
 else (jn (fun (s6 : List Int) =>
 jn (fun (s8 : List Int) =>
 some ((⟨r3.neg, cpy s6 0 r3.n, s8⟩ : S_api_Rat), 0))
 (fun j8 => jn (fun (s9 : Bool) =>
 if s9 = true then (gd ((0 : Int) ≤ ((((r3.d).length : Nat) : Int)) ∧ 4 * Int.toNat ((((r3.d).length : Nat) : Int)) ≤ 140737488355328) <|
 j8 (cpy (List.replicate (Int.toNat ((((r3.d).length : Nat) : Int))) (0 : Int)) 0 r3.d))
 else (j8 ([] : List Int)))
 (fun j9 => if 1 < ((((r3.d).length : Nat) : Int)) then (j9 true)
 else (bnd (idx r3.d 0) fun x47 =>
 j9 (!(decide (x47 = 1)))))))
 (fun j6 => gd ((0 : Int) ≤ ((((r3.n).length : Nat) : Int)) ∧ 4 * Int.toNat ((((r3.n).length : Nat) : Int)) ≤ 140737488355328) <|
 j6 (List.replicate (Int.toNat ((((r3.n).length : Nat) : Int))) (0 : Int)))))
 (fun j4 => if 256 < ((((r3.n).length : Nat) : Int)) then (j4 true)
 else (j4 (decide (256 < ((((r3.d).length : Nat) : Int))))))
noncomputable def ratio_Num_Add (p0 : S_ratio_Num) (p1 : S_ratio_Num) : Option S_ratio_Num :=
 bnd (ratio_nat_mul p0.n p1.d) fun r4 =>
 bnd (ratio_nat_mul p1.n p0.d) fun r13 =>
 bnd (ratio_nat_mul p0.d p1.d) fun r22 =>
 if ((p0.neg) == (p1.neg)) = true then (bnd (ratio_nat_add r4 r13) fun r33 =>
 some (⟨p0.neg, r33, r22⟩ : S_ratio_Num))
 else (bnd (ratio_nat_cmp r4 r13) fun r43 =>
 if 0 ≤ r43 then (bnd (ratio_nat_sub r4 r13) fun r48 =>
 some (⟨p0.neg, r48, r22⟩ : S_ratio_Num))
 else (bnd (ratio_nat_sub r13 r4) fun r58 =>
 some (⟨p1.neg, r58, r22⟩ : S_ratio_Num)))
noncomputable def ratio_Num_Sign (p0 : S_ratio_Num) : Option Int :=
 if ((((p0.n).length : Nat) : Int)) = 0 then (some 0)
 else (if p0.neg = true then (some (-1))
 else (some 1))
noncomputable def ratio_Num_Mul (p0 : S_ratio_Num) (p1 : S_ratio_Num) : Option S_ratio_Num :=
 bnd (ratio_nat_mul p0.n p1.n) fun r4 =>
 bnd (ratio_nat_mul p0.d p1.d) fun r13 =>
 some (⟨!((p0.neg) == (p1.neg)), r4, r13⟩ : S_ratio_Num)
noncomputable def ratio_Num_Neg (p0 : S_ratio_Num) : Option S_ratio_Num :=
 jn (fun (s2 : Bool) =>
 some (⟨s2, p0.n, p0.d⟩ : S_ratio_Num))
 (fun j2 => if p0.neg = true then (j2 false)
 else (j2 (decide (0 < ((((p0.n).length : Nat) : Int))))))
noncomputable def ratio_Num_Sub (p0 : S_ratio_Num) (p1 : S_ratio_Num) : Option S_ratio_Num :=
 bnd (ratio_Num_Neg p1) fun r4 =>
 bnd (ratio_Num_Add p0 r4) fun r11 =>
 some r11
noncomputable def ratio_Num_Cmp (p0 : S_ratio_Num) (p1 : S_ratio_Num) : Option Int :=
 bnd (ratio_Num_Sub p0 p1) fun r3 =>
 bnd (ratio_Num_Sign r3) fun r22 =>
 some r22
noncomputable def ratio_Int (p0 : Int) : Option S_ratio_Num :=
 if p0 < 0 then (bnd (ratio_natOf (wu64 ((wu64 (w64 (-(w64 (p0 + 1))))) + 1))) fun r4 =>
 some (⟨true, r4, [1]⟩ : S_ratio_Num))
 else (bnd (ratio_natOf (wu64 (p0))) fun r15 =>
 some (⟨false, r15, [1]⟩ : S_ratio_Num))
noncomputable def ratio_Num_Floor_l8 (s3 : List Int) : (Int × Int) → Option (Sum (Int × Int) Int) := fun s69 =>
 if 0 ≤ s69.2 then (bnd (idx s3 s69.2) fun x73 =>
 some (.inl (bit_or .i64 (shl_ .i64 s69.1 32) (w64 (x73)), w64 (s69.2 - 1))))
 else (some (.inr s69.1))
noncomputable def ratio_Num_Floor (p0 : S_ratio_Num) : Option (Int × Bool) :=
 bnd (ratio_nat_div p0.n p0.d) fun r2 =>
 jn (fun (s3 : List Int) =>
 bnd (ratio_natOf 4611686018427387904) fun r40 =>
 bnd (ratio_nat_cmp s3 r40) fun r48 =>
 if 0 < r48 then (some (0, false))
 else (jn (fun (s9 : Int) =>
 jn (fun (s17 : Int) =>
 some (s17, true))
 (fun j17 => if p0.neg = true then (j17 (w64 (-(s9))))
 else (j17 s9)))
 (fun j9 => bnd (lfix (ratio_Num_Floor_l8 s3) (0, w64 (((((s3).length : Nat) : Int)) - 1))) fun t69 =>
 j9 t69)))
 (fun j3 => jn (fun (s4 : Bool) =>
 if s4 = true then (bnd (ratio_nat_add r2.1 ([1])) fun r26 =>
 j3 r26)
 else (j3 r2.1))
 (fun j4 => if p0.neg = true then (j4 (decide (0 < ((((r2.2).length : Nat) : Int)))))
 else (j4 false)))
noncomputable def exact_floor (p0 : S_ratio_Num) : Option (Int × Bool) :=
 bnd (ratio_Num_Floor p0) fun r2 =>
 jn (fun (s4 : Bool) =>
 if s4 = true then (some (0, false))
 else (some (r2.1, true)))
 (fun j4 => if r2.2 = true then (if r2.1 < (-1152921504606846976) then (j4 true)
 else (j4 (decide (1152921504606846976 < r2.1))))
 else (j4 true))
noncomputable def exact_Floor (p0 : S_api_Rat) : Option (Int × Int) :=
 bnd (exact_anyLarge ([p0])) fun r4 =>
 if r4 = true then (some (0, 1))
 else (bnd (ratio_Of p0) fun r10 =>
 bnd (exact_floor r10) fun r33 =>
 if r33.2 = true then (some (r33.1, 0))
 else (some (0, 3)))
noncomputable def exact_Ceil (p0 : S_api_Rat) : Option (Int × Int) :=
 bnd (exact_anyLarge ([p0])) fun r4 =>
 if r4 = true then (some (0, 1))
 else (bnd (ratio_Of p0) fun r10 =>
 bnd (ratio_Num_Neg r10) fun r33 =>
 bnd (exact_floor r33) fun r38 =>
 if r38.2 = true then (some (w64 (-(r38.1)), 0))
 else (some (0, 3)))
noncomputable def exact_FromInt (p0 : Int) : Option S_api_Rat :=
 bnd (ratio_Int p0) fun r2 =>
 bnd (ratio_Num_Done r2) fun r14 =>
 some r14.1
noncomputable def exact_Mul (p0 : S_api_Rat) (p1 : S_api_Rat) : Option (S_api_Rat × Int) :=
 bnd (exact_anyLarge ([p0, p1])) fun r6 =>
 if r6 = true then (some ((⟨false, ([] : List Int), ([] : List Int)⟩ : S_api_Rat), 1))
 else (bnd (ratio_Of p0) fun r12 =>
 bnd (ratio_Of p1) fun r35 =>
 bnd (ratio_Num_Mul r12 r35) fun r58 =>
 bnd (ratio_Num_Done r58) fun r73 =>
 some (r73.1, r73.2))
noncomputable def exact_Cmp (p0 : S_api_Rat) (p1 : S_api_Rat) : Option (Int × Int) :=
 bnd (exact_anyLarge ([p0, p1])) fun r5 =>
 if r5 = true then (some (0, 1))
 else (bnd (ratio_Of p0) fun r11 =>
 bnd (ratio_Of p1) fun r34 =>
 bnd (ratio_Num_Cmp r11 r34) fun r57 =>
 some (r57, 0))
noncomputable def model_times (p0 : S_api_Raster) (p1 : Int) : Option S_api_Rat :=
 bnd (exact_FromInt (w64 (p0.Step * p0.Step))) fun r3 =>
 bnd (exact_FromInt p1) fun r10 =>
 bnd (exact_Mul r3 r10) fun r25 =>
 some r25.1
noncomputable def model_amount_l3 (p2 : List Int) (p1 : S_api_Grid) (p0 : S_api_Grid) : (Int × Int × Int) → Option (Sum (Int × Int × Int) (Int × Int)) := fun s64 =>
 if s64.2.2 < ((((p2).length : Nat) : Int)) then (bnd (idx p2 s64.2.2) fun x68 =>
 bnd (idx p1.Cells x68) fun x79 =>
 bnd (idx p0.Cells x68) fun x90 =>
 bnd (idx p1.Cells x68) fun x101 =>
 bnd (idx p0.Cells x68) fun x112 =>
 some (.inl (w64 (s64.1 + (w64 (x79.Z.Lo - x90.Z.Hi))), w64 (s64.2.1 + (w64 (x101.Z.Hi - x112.Z.Lo))), w64 (s64.2.2 + 1))))
 else (some (.inr (s64.1, s64.2.1)))
noncomputable def model_amount (p0 : S_api_Grid) (p1 : S_api_Grid) (p2 : List Int) : Option (S_api_Rat × S_api_Rat) :=
 jn (fun (s3 : Int × Int) =>
 bnd (model_times p0.Raster s3.1) fun r125 =>
 bnd (model_times p0.Raster s3.2) fun r132 =>
 some (r125, r132))
 (fun j3 => bnd (lfix (model_amount_l3 p2 p1 p0) (0, 0, 0)) fun t64 =>
 j3 t64)
set_option maxRecDepth 100000 in
theorem ratio_Of_ok (p0 : S_api_Rat) {K : List Ent} {A0_0 : Option Addr} {c0_0 : Nat} {A0_1 : Option Addr} {c0_1 : Nat} (ha0 : Has K A0_0 (p0.Num).length c0_0 1 e_u32 (p0.Num)) (ha1 : Has K A0_1 (p0.Den).length c0_1 1 e_u32 (p0.Den)) {r : S_ratio_Num} (hx : ratio_Of p0 = some r) (w : World) (hK : ∀ e ∈ K, Ent.ok w e) : CtL Try.prog 23 [.agg #[.bool (p0.Neg), .slice (A0_0) ((p0.Num).length) (c0_0), .slice (A0_1) ((p0.Den).length) (c0_1)]] w fun v Ln => ∃ (A0 : Option Addr) (c0 : Nat) (A2 : Option Addr) (c2 : Nat) (e0 : Ent) (e1 : Ent) (e2 : Ent) (e3 : Ent) (e4 : Ent) (e5 : Ent), v = .agg #[.bool (r.neg), .slice (A0) ((r.n).length) (c0), .slice (A2) ((r.d).length) (c2)] ∧ Ln = [e0, e1, e2, e3, e4, e5] ∧ Has (K ++ [e0, e1, e2, e3, e4, e5]) A0 (r.n).length c0 1 e_u32 (r.n) ∧ Has (K ++ [e0, e1, e2, e3, e4, e5]) A2 (r.d).length c2 1 e_u32 (r.d) ∧ True := by
  have ha0' := Has.up0 ha0
  have ha1' := Has.up0 ha1
  refine CtL.mk 19 Try.func23 rfl Try.ntmps23 (by kernel_rfl) rfl ?_
  show T 19 _ [(0, .agg #[.bool (p0.Neg), .slice (A0_0) ((p0.Num).length) (c0_0), .slice (A0_1) ((p0.Den).length) (c0_1)])] _
  unfold ratio_Of at hx
  refine T_seq ?_
  refine T_reg ?_
  refine T_x (Wx_box rfl rfl rfl (fun g1 => ?_))
  refine T_x (Wx_alloc zer74 rfl (fun g2 => ?_))
  refine T_nil ?_
  refine T_next ?_
  refine T_seq ?_
  refine T_reg ?_
  refine T_val (Ev_field rfl fld51_2 rfl) rfl ?_
  refine T_val (Ev_load1 rfl (i := 1) rfl rfl one49) rfl ?_
  obtain ⟨r3, h4, hx5⟩ := bnd_some hx
  refine T_x (Wx_callL rfl (fun w1 hw1 => ratio_nat_norm_ok p0.Den (Has.len' ha1') h4 w1 (okApp (K := K) (K2 := []) hK (by exact (SubE.cons2 (i := 2) rfl (SubE.nil))) (by exact (SubE.nil)) hw1)) rfl ?_)
  rintro _ _ hlo ⟨A6, c7, rfl, rfl, hs8, -⟩
  refine T_app0 ?_
  have hs9 : Has (K ++ []) _ _ _ _ _ _ := Has.assoc hs8
  refine T_val (Ev_assign rfl) rfl ?_
  refine T_nil ?_
  refine T_next ?_
  obtain ⟨j3, hj3, hx5⟩ := jn_some hx5
  refine T_cutP (τ := List Int) (γ := (Option Addr) × Nat × Ent) (J := j3) (out := r) (fun s3 y3 => [(1, .pointer (some ⟨g1, 0, none⟩)), (2, .pointer (some ⟨g2, 0, none⟩)), (3, .slice (y3.1) ((s3).length) (y3.2.1))]) (fun s3 y3 => [y3.2.2, .m g2 74 [.bool (false), .slice (none) (0) (0), .slice (none) (0) (0)], .m g1 51 [.bool (p0.Neg), .slice (A0_0) ((p0.Num).length) (c0_0), .slice (A0_1) ((p0.Den).length) (c0_1)]] ++ [.old w]) (fun s3 y3 => y3.2.2.low = 0 ∧ Has (K ++ [y3.2.2]) (y3.1) ((s3).length) (y3.2.1) 1 e_u32 (s3) ∧ True) ?_ ?_
  · intro s3 y3 hx14 hG15
    obtain ⟨lo16, hs17, -⟩ := hG15
    subst hj3
    refine T_seq ?_
    refine T_draw [0, 1, 0, 1, 2, 0, 0, 2, 3] [[], [0], [], [2], [2, 3], [], [0, 1, 2, 3, 4, 5], [0, 1, 2, 3, 4, 5, 6], [0, 1, 2, 3, 4, 5, 6, 7]] (.q 0 (.q 1 (.q 2 (.q 3 (.q 5 (.e 4 (.q 6 (.e 7 (.e 8 (.done) (.stop)) (.stop))) (.stop))))))) mixed (by kernel_rfl) (by kernel_rfl) ?_
    refine P_p rfl rfl (Ev_field rfl fld51_0 rfl) rfl ?_
    refine P_q rfl rfl (Ev_load1 rfl (i := 2) rfl rfl one4) rfl ?_
    refine P_p rfl rfl (Ev_field rfl fld51_1 rfl) rfl ?_
    refine P_q rfl rfl (Ev_load1 rfl (i := 2) rfl rfl one49) rfl ?_
    refine P_p rfl rfl (Ev_move rfl) rfl ?_
    obtain ⟨r18, h19, hx20⟩ := bnd_some hx14
    refine P_x rfl (Wx_callL rfl (fun w1 hw1 => ratio_nat_norm_ok p0.Num (Has.len' ha0') h19 w1 (okApp (K := K) (K2 := []) hK (by exact (SubE.cons2 (i := 3) rfl (SubE.nil))) (by exact (SubE.nil)) hw1)) rfl ?_) ?_
    rotate_left; exact P_stop
    rintro _ _ hlo ⟨A21, c22, rfl, rfl, hs23, -⟩
    refine T_app0 ?_
    have hs24 : Has (K ++ []) _ _ _ _ _ _ := Has.assoc hs23
    refine P_p rfl rfl (Ev_build rfl (bld74_0b1s2s _ _ _ _ _ _ _)) rfl ?_
    obtain ⟨r25, h26, hx27⟩ := bnd_some hx20
    refine P_x rfl (Wx_callL rfl (fun w1 hw1 => ratio_Num_Reduced_ok (⟨p0.Neg, r18, s3⟩ : S_ratio_Num) (Has.len' (Has.up (L := (K ++ [y3.2.2])) hs24 (SubE.app2 SubE.nil))) (Has.len' hs17) h26 w1 (okApp (K := K) (K2 := [y3.2.2]) hK (by exact (SubE.cons2 (i := 3) rfl (SubE.nil))) (by exact (SubE.cons2 (i := 0) rfl (SubE.nil))) hw1)) rfl ?_) ?_
    rotate_left; exact P_stop
    rintro _ _ hlo ⟨A28, c29, A30, c31, e32, e33, e34, e35, e36, rfl, rfl, hs37, hs38, -⟩
    have lo39 := hlo e32 (by simp)
    have lo40 := hlo e33 (by simp)
    have lo41 := hlo e34 (by simp)
    have lo42 := hlo e35 (by simp)
    have lo43 := hlo e36 (by simp)
    refine T_app5 ?_
    have hs44 : Has (K ++ [y3.2.2, e32, e33, e34, e35, e36]) _ _ _ _ _ _ := Has.assoc hs37
    have hs45 : Has (K ++ [y3.2.2, e32, e33, e34, e35, e36]) _ _ _ _ _ _ := Has.assoc hs38
    refine P_h rfl rfl (Wh_store rfl rfl rfl (.there (.there (.there (.there (.there (.there (.here))))))) (.put (.put (.put (.done)))) rfl (List.cons_ne_nil _ _) agg74.2 ?_) ?_
    rotate_left; exact P_stop
    refine P_done ?_
    refine T_next ?_
    refine T_retc ?_
    obtain rfl := Option.some.inj hx27
    exact T_retP (rs := [.cell 2 74]) Try.results23 (.cell rfl (i := 6) rfl rfl agg74 (.nil)) (Ln := [y3.2.2, e32, e33, e34, e35, e36]) ⟨A28, c29, A30, c31, y3.2.2, e32, e33, e34, e35, e36, rfl, rfl, Has.len' hs44, Has.len' hs45, trivial⟩ (loCons lo16 (loCons lo39 (loCons lo40 (loCons lo41 (loCons lo42 (loCons lo43 (loNil))))))) (by exact .pick 5 rfl (.pick 0 rfl (.pick 0 rfl (.pick 0 rfl (.pick 0 rfl (.pick 0 rfl (.drop 0 rfl (.drop 0 rfl (.refl)))))))))
  · skip
    refine T_seq ?_
    refine T_reg ?_
    refine T_val (Ev_move rfl) rfl ?_
    refine T_val (Ev_len rfl 27 Try.underlying72) rfl ?_
    refine T_val (Ev_eql rfl rfl) rfl ?_
    refine T_nil ?_
    refine T_next ?_
    refine T_caseP (s := 9) rfl (fun h10 => ?_) (fun h10 => ?_)
    · have hx11 := ite_t h10 hx5
      refine T_condT rfl ?_
      refine T_reg ?_
      refine T_x (Wx_buildSlice rfl (bls72_1_0u32 _) rfl (fun g12 => ?_))
      refine T_val (Ev_assign rfl) rfl ?_
      refine T_nil ?_
      refine T_mr (enc := e_u32) (sz := 1) ([1]) (.here) rfl rfl (fun _ => rfl) (by show 1 ≤ maxLen; decide) ?_
      refine T_rowP (k := 0) rfl (by decide) (fun _ => rfl) (fun hn46 hs47 => ?_)
      refine T_slot (s := 3) (v' := .slice (some ⟨g12, 0, none⟩) (([1]).length) (1)) rfl (by have hn48 : (1) = ([1]).length := (Has.len hs47).symm; first | (rw [← hn48]; done) | rfl) ?_
      exact T_metP ([1]) (some ⟨g12, 0, none⟩, 1, .r (some ⟨g12, 0, none⟩) (1) (1) 27 1 (([1]).flatMap e_u32)) hx11 ((by exact ⟨rfl, Has.len' ((Has.up (L := (K ++ [.r (some ⟨g12, 0, none⟩) (1) (1) 27 1 (([1]).flatMap e_u32)])) hs47 (SubE.appR2 (SubE.cons2 (i := 0) rfl (SubE.nil))))), trivial⟩)) (by exact .cons rfl (.cons rfl (.cons rfl (.nil)))) (by exact .pick 0 rfl (.pick 0 rfl (.pick 0 rfl (.refl))))
    · have hx13 := ite_f h10 hx5
      refine T_condF rfl ?_
      refine T_skip ?_
      refine T_none 0 1 ?_
      exact T_metP r3 (A6, c7, .r none 0 0 0 1 []) hx13 ((by exact ⟨rfl, Has.len' ((Has.up (L := (K ++ [.r none 0 0 0 1 []])) hs9 (SubE.app2 SubE.nil))), trivial⟩)) (by exact .cons rfl (.cons rfl (.cons rfl (.nil)))) (by exact .pick 0 rfl (.pick 0 rfl (.pick 0 rfl (.refl))))
set_option maxRecDepth 100000 in
theorem ratio_Num_Done_ok (p0 : S_ratio_Num) {K : List Ent} {A0_0 : Option Addr} {c0_0 : Nat} {A0_1 : Option Addr} {c0_1 : Nat} (ha0 : Has K A0_0 (p0.n).length c0_0 1 e_u32 (p0.n)) (ha1 : Has K A0_1 (p0.d).length c0_1 1 e_u32 (p0.d)) {r : S_api_Rat × Int} (hx : ratio_Num_Done p0 = some r) (w : World) (hK : ∀ e ∈ K, Ent.ok w e) : CtL Try.prog 25 [.agg #[.bool (p0.neg), .slice (A0_0) ((p0.n).length) (c0_0), .slice (A0_1) ((p0.d).length) (c0_1)]] w fun v Ln => ∃ (A0 : Option Addr) (c0 : Nat) (A2 : Option Addr) (c2 : Nat), v = .tuple #[.agg #[.bool (r.1.Neg), .slice (A0) ((r.1.Num).length) (c0), .slice (A2) ((r.1.Den).length) (c2)], .int .i64 (r.2)] ∧ Ln = [.r A0 (r.1.Num).length c0 27 1 ((r.1.Num).flatMap e_u32), .r A2 (r.1.Den).length c2 27 1 ((r.1.Den).flatMap e_u32)] ∧ True := by
  have ha0' := Has.up0 ha0
  have ha1' := Has.up0 ha1
  refine CtL.mk 52 Try.func25 rfl Try.ntmps25 (by kernel_rfl) rfl ?_
  show T 52 _ [(0, .agg #[.bool (p0.neg), .slice (A0_0) ((p0.n).length) (c0_0), .slice (A0_1) ((p0.d).length) (c0_1)])] _
  unfold ratio_Num_Done at hx
  refine T_seq ?_
  refine T_reg ?_
  refine T_x (Wx_box rfl rfl rfl (fun g1 => ?_))
  refine T_x (Wx_alloc zer51 rfl (fun g2 => ?_))
  refine T_val (Ev_assign rfl) rfl ?_
  refine T_nil ?_
  refine T_next ?_
  refine T_seq ?_
  refine T_reg ?_
  refine T_val (Ev_loadK rfl (i := 1) rfl rfl agg74) rfl ?_
  obtain ⟨r3, h4, hx5⟩ := bnd_some hx
  refine T_x (Wx_callL rfl (fun w1 hw1 => ratio_Num_Reduced_ok p0 (Has.len' ha0') (Has.len' ha1') h4 w1 (okApp (K := K) (K2 := []) hK (by exact (SubE.cons2 (i := 2) rfl (SubE.nil))) (by exact (SubE.nil)) hw1)) rfl ?_)
  rintro _ _ hlo ⟨A6, c7, A8, c9, e10, e11, e12, e13, e14, rfl, rfl, hs15, hs16, -⟩
  have lo17 := hlo e10 (by simp)
  have lo18 := hlo e11 (by simp)
  have lo19 := hlo e12 (by simp)
  have lo20 := hlo e13 (by simp)
  have lo21 := hlo e14 (by simp)
  refine T_app5 ?_
  have hs22 : Has (K ++ [e10, e11, e12, e13, e14]) _ _ _ _ _ _ := Has.assoc hs15
  have hs23 : Has (K ++ [e10, e11, e12, e13, e14]) _ _ _ _ _ _ := Has.assoc hs16
  refine T_h (Wh_store rfl rfl rfl (.there (.there (.there (.there (.there (.there (.here))))))) (.put (.put (.put (.done)))) rfl (List.cons_ne_nil _ _) agg74.2 ?_)
  refine T_nil ?_
  refine T_next ?_
  refine T_seq ?_
  obtain ⟨j4, hj4, hx5⟩ := jn_some hx5
  refine T_cutP (τ := Bool) (γ := Unit) (J := j4) (out := r) (fun s4 y4 => [(1, .pointer (some ⟨g1, 0, none⟩)), (2, .pointer (some ⟨g2, 0, none⟩)), (16, .bool (s4))]) (fun s4 y4 => [e10, e11, e12, e13, e14, .m g2 51 [.bool (false), .slice (none) (0) (0), .slice (none) (0) (0)], .m g1 74 [.bool (r3.neg), .slice (A6) ((r3.n).length) (c7), .slice (A8) ((r3.d).length) (c9)]] ++ [.old w]) (fun s4 y4 => True) ?_ ?_
  · intro s4 y4 hx27 hG28
    subst hj4
    refine T_caseB (s := 16) rfl (fun h29 => ?_) (fun h29 => ?_)
    · have hx30 := ite_t h29 hx27
      refine T_condT rfl ?_
      refine T_seq ?_
      refine T_reg ?_
      refine T_val (Ev_build rfl (bld51_)) rfl ?_
      refine T_h (Wh_store rfl rfl rfl (.there (.there (.there (.there (.there (.here)))))) (.put (.put (.put (.done)))) rfl (List.cons_ne_nil _ _) agg51.2 ?_)
      refine T_val (Ev_assign rfl) rfl ?_
      refine T_nil ?_
      refine T_next ?_
      refine T_retc ?_
      refine T_outR ?_
      refine T_none 27 1 ?_
      refine T_none 27 1 ?_
      obtain rfl := Option.some.inj hx30
      exact T_retP (rs := [.cell 2 51, .tmp 3]) Try.results25 (.cell rfl (i := 7) rfl rfl agg51 (.tmp rfl (.nil))) (Ln := [.r (none) (0) (0) 27 1 ((([] : List Int)).flatMap e_u32), .r (none) (0) (0) 27 1 ((([] : List Int)).flatMap e_u32)]) ⟨none, 0, none, 0, rfl, rfl, trivial⟩ (loCons rfl (loCons rfl (loNil))) (by exact .pick 1 rfl (.pick 0 rfl (.drop 0 rfl (.drop 0 rfl (.drop 0 rfl (.drop 0 rfl (.drop 0 rfl (.drop 0 rfl (.drop 0 rfl (.refl))))))))))
    · have hx31 := ite_bf h29 hx27
      refine T_condF rfl ?_
      refine T_skip ?_
      refine T_next ?_
      obtain ⟨j6, hj6, hx31⟩ := jn_some hx31
      refine T_cutP (τ := List Int) (γ := Nat × (Option Addr) × Nat) (J := j6) (out := r) (fun s6 y6 => [(1, .pointer (some ⟨g1, 0, none⟩)), (2, .pointer (some ⟨g2, 0, none⟩)), (4, .pointer (some ⟨y6.1, 0, none⟩))]) (fun s6 y6 => [.m y6.1 51 [.bool (r3.neg), .slice (y6.2.1) ((s6).length) (y6.2.2), .slice (none) (0) (0)], .r (y6.2.1) ((s6).length) (y6.2.2) 27 1 ((s6).flatMap e_u32), e10, e11, e12, e13, e14, .m g2 51 [.bool (false), .slice (none) (0) (0), .slice (none) (0) (0)], .m g1 74 [.bool (r3.neg), .slice (A6) ((r3.n).length) (c7), .slice (A8) ((r3.d).length) (c9)]] ++ [.old w]) (fun s6 y6 => True) ?_ ?_
      · intro s6 y6 hx41 hG42
        subst hj6
        refine T_seq ?_
        refine T_reg ?_
        refine T_val (Ev_field rfl fld51_1 rfl) rfl ?_
        refine T_val (Ev_load1 rfl (i := 0) rfl rfl one49) rfl ?_
        refine T_val (Ev_field rfl fld74_1 rfl) rfl ?_
        refine T_val (Ev_load1 rfl (i := 8) rfl rfl one72) rfl ?_
        have hw43 := Has.low (E := [e10, e11, e12, e13, e14]) hs22 hK
        refine T_h (Wh_copyW e_u32 (s6) (r3.n) 0 rfl rfl hw43 (SubE.cons2 (i := 9) rfl (SubE.cons2 (i := 2) rfl (SubE.cons2 (i := 3) rfl (SubE.cons2 (i := 4) rfl (SubE.cons2 (i := 5) rfl (SubE.cons2 (i := 6) rfl (SubE.nil))))))) rfl (Nat.zero_le _) (fun _ h hc => win_all h hc) (.there (.here)) Try.underlying49 (by kernel_rfl) (by decide) (fun _ => rfl) (fun _ => rfl) rfl ?_)
        refine T_nil ?_
        refine T_next ?_
        obtain ⟨j8, hj8, hx41⟩ := jn_some hx41
        refine T_cutP (τ := List Int) (γ := (Option Addr) × Nat) (J := j8) (out := r) (fun s8 y8 => [(2, .pointer (some ⟨g2, 0, none⟩)), (4, .pointer (some ⟨y6.1, 0, none⟩))]) (fun s8 y8 => [.r (y8.1) ((s8).length) (y8.2) 27 1 ((s8).flatMap e_u32), .m y6.1 51 [.bool (r3.neg), .slice (y6.2.1) ((s6).length) (y6.2.2), .slice (y8.1) ((s8).length) (y8.2)], .r (y6.2.1) ((s6).length) (y6.2.2) 27 1 ((cpy s6 0 r3.n).flatMap e_u32), .m g2 51 [.bool (false), .slice (none) (0) (0), .slice (none) (0) (0)]] ++ [.old w]) (fun s8 y8 => True) ?_ ?_
        · intro s8 y8 hx67 hG68
          subst hj8
          refine T_seq ?_
          refine T_reg ?_
          refine T_val (Ev_loadK rfl (i := 1) rfl rfl agg51) rfl ?_
          refine T_h (Wh_store rfl rfl rfl (.there (.there (.there (.here)))) (.put (.put (.put (.done)))) rfl (List.cons_ne_nil _ _) agg51.2 ?_)
          refine T_val (Ev_assign rfl) rfl ?_
          refine T_nil ?_
          refine T_next ?_
          refine T_retc ?_
          have hn69 : (s6).length = (cpy s6 0 r3.n).length := by simp [setI_len, cpy_len, List.length_append] <;> omega
          refine T_ent (.there (.there (.here))) (e' := .r (y6.2.1) ((cpy s6 0 r3.n).length) (y6.2.2) 27 1 ((cpy s6 0 r3.n).flatMap e_u32)) (by first | (rw [← hn69]; done) | rfl) ?_
          refine T_ent (.there (.there (.there (.here)))) (e' := .m g2 51 [.bool (r3.neg), .slice (y6.2.1) ((cpy s6 0 r3.n).length) (y6.2.2), .slice (y8.1) ((s8).length) (y8.2)]) (by first | (rw [show ((s6).length) = (cpy s6 0 r3.n).length from (by simp [setI_len, cpy_len, List.length_append] <;> omega)]; done) | rfl) ?_
          obtain rfl := Option.some.inj hx67
          exact T_retP (rs := [.cell 2 51, .tmp 3]) Try.results25 (.cell rfl (i := 3) rfl rfl agg51 (.tmp rfl (.nil))) (Ln := [.r (y6.2.1) ((cpy s6 0 r3.n).length) (y6.2.2) 27 1 ((cpy s6 0 r3.n).flatMap e_u32), .r (y8.1) ((s8).length) (y8.2) 27 1 ((s8).flatMap e_u32)]) ⟨y6.2.1, y6.2.2, y8.1, y8.2, rfl, rfl, trivial⟩ (loCons rfl (loCons rfl (loNil))) (by exact .pick 2 rfl (.pick 0 rfl (.drop 0 rfl (.drop 0 rfl (.refl)))))
        · skip
          obtain ⟨j9, hj9, hx41⟩ := jn_some hx41
          refine T_cutP (τ := Bool) (γ := Unit) (J := j9) (out := r) (fun s9 y9 => [(1, .pointer (some ⟨g1, 0, none⟩)), (2, .pointer (some ⟨g2, 0, none⟩)), (4, .pointer (some ⟨y6.1, 0, none⟩)), (40, .bool (s9))]) (fun s9 y9 => [.m y6.1 51 [.bool (r3.neg), .slice (y6.2.1) ((s6).length) (y6.2.2), .slice (none) (0) (0)], .r (y6.2.1) ((s6).length) (y6.2.2) 27 1 ((cpy s6 0 r3.n).flatMap e_u32), e10, e11, e12, e13, e14, .m g2 51 [.bool (false), .slice (none) (0) (0), .slice (none) (0) (0)], .m g1 74 [.bool (r3.neg), .slice (A6) ((r3.n).length) (c7), .slice (A8) ((r3.d).length) (c9)]] ++ [.old w]) (fun s9 y9 => True) ?_ ?_
          · intro s9 y9 hx58 hG59
            subst hj9
            refine T_caseB (s := 40) rfl (fun h60 => ?_) (fun h60 => ?_)
            · have hx61 := ite_t h60 hx58
              refine T_condT rfl ?_
              refine T_seq ?_
              refine T_reg ?_
              refine T_val (Ev_field rfl fld74_2 rfl) rfl ?_
              refine T_val (Ev_load1 rfl (i := 8) rfl rfl one72) rfl ?_
              refine T_val (Ev_len rfl 27 Try.underlying72) rfl ?_
              obtain ⟨h63, hx64⟩ := gd_some hx61
              refine T_x (Wx_makeP e_u32 (0) (z := .int .u32 (0)) rfl rfl rfl h63.1 Try.underlying49 (show Try.prog.info? 27 = some Try.t27 from by kernel_rfl) (by kernel_rfl) rfl rfl (by kernel_rfl) (show 4 * _ ≤ _ from h63.2) (by decide) rfl (fun A62 => ?_))
              refine T_val (Ev_field rfl fld51_2 rfl) rfl ?_
              refine T_h (Wh_store rfl rfl rfl (.there (.here)) (.skip (.skip (.put (.done)))) rfl (List.cons_ne_nil _ _) one49.2 ?_)
              refine T_nil ?_
              refine T_next ?_
              refine T_reg ?_
              refine T_val (Ev_field rfl fld51_2 rfl) rfl ?_
              refine T_val (Ev_load1 rfl (i := 1) rfl rfl one49) rfl ?_
              refine T_val (Ev_field rfl fld74_2 rfl) rfl ?_
              refine T_val (Ev_load1 rfl (i := 9) rfl rfl one72) rfl ?_
              have hw65 := Has.low (E := [e10, e11, e12, e13, e14]) hs23 hK
              refine T_h (Wh_copyW e_u32 (List.replicate (Int.toNat ((((r3.d).length : Nat) : Int))) (0 : Int)) (r3.d) 0 rfl rfl hw65 (SubE.cons2 (i := 10) rfl (SubE.cons2 (i := 3) rfl (SubE.cons2 (i := 4) rfl (SubE.cons2 (i := 5) rfl (SubE.cons2 (i := 6) rfl (SubE.cons2 (i := 7) rfl (SubE.nil))))))) rfl (Nat.zero_le _) (fun _ h hc => win_all h hc) (.here) Try.underlying49 (by kernel_rfl) (by decide) (fun _ => rfl) (fun _ => rfl) rfl ?_)
              refine T_nil ?_
              have hn70 : (List.replicate (Int.toNat ((((r3.d).length : Nat) : Int))) (0 : Int)).length = (cpy (List.replicate (Int.toNat ((((r3.d).length : Nat) : Int))) (0 : Int)) 0 r3.d).length := (cpy_len (Nat.zero_le _)).symm
              refine T_ent (.here) (e' := .r (A62) ((cpy (List.replicate (Int.toNat ((((r3.d).length : Nat) : Int))) (0 : Int)) 0 r3.d).length) ((List.replicate (Int.toNat ((((r3.d).length : Nat) : Int))) (0 : Int)).length) 27 1 ((cpy (List.replicate (Int.toNat ((((r3.d).length : Nat) : Int))) (0 : Int)) 0 r3.d).flatMap e_u32)) (by first | (rw [← hn70]; done) | rfl) ?_
              refine T_ent (.there (.here)) (e' := .m y6.1 51 [.bool (r3.neg), .slice (y6.2.1) ((s6).length) (y6.2.2), .slice (A62) ((cpy (List.replicate (Int.toNat ((((r3.d).length : Nat) : Int))) (0 : Int)) 0 r3.d).length) ((List.replicate (Int.toNat ((((r3.d).length : Nat) : Int))) (0 : Int)).length)]) (by first | (rw [show ((List.replicate (Int.toNat ((((r3.d).length : Nat) : Int))) (0 : Int)).length) = (cpy (List.replicate (Int.toNat ((((r3.d).length : Nat) : Int))) (0 : Int)) 0 r3.d).length from (cpy_len (Nat.zero_le _)).symm]; done) | rfl) ?_
              exact T_metP (cpy (List.replicate (Int.toNat ((((r3.d).length : Nat) : Int))) (0 : Int)) 0 r3.d) (A62, (List.replicate (Int.toNat ((((r3.d).length : Nat) : Int))) (0 : Int)).length) hx64 trivial (by exact .cons rfl (.cons rfl (.nil))) (by exact .pick 0 rfl (.pick 0 rfl (.pick 0 rfl (.pick 5 rfl (.drop 0 rfl (.drop 0 rfl (.drop 0 rfl (.drop 0 rfl (.drop 0 rfl (.drop 0 rfl (.refl)))))))))))
            · have hx66 := ite_bf h60 hx58
              refine T_condF rfl ?_
              refine T_skip ?_
              refine T_none 27 1 ?_
              have hn71 : 0 = (([] : List Int)).length := by simp [setI_len, cpy_len, List.length_append] <;> omega
              refine T_ent (.here) (e' := .r (none) ((([] : List Int)).length) (0) 27 1 ((([] : List Int)).flatMap e_u32)) (by first | (rw [← hn71]; done) | rfl) ?_
              exact T_metP ([] : List Int) (none, 0) hx66 trivial (by exact .cons rfl (.cons rfl (.nil))) (by exact .pick 0 rfl (.pick 0 rfl (.pick 0 rfl (.pick 5 rfl (.drop 0 rfl (.drop 0 rfl (.drop 0 rfl (.drop 0 rfl (.drop 0 rfl (.drop 0 rfl (.refl)))))))))))
          · skip
            refine T_reg ?_
            refine T_val (Ev_field rfl fld74_2 rfl) rfl ?_
            refine T_val (Ev_load1 rfl (i := 8) rfl rfl one72) rfl ?_
            refine T_val (Ev_len rfl 27 Try.underlying72) rfl ?_
            refine T_val (Ev_gtr rfl rfl) rfl ?_
            refine T_val (Ev_move rfl) rfl ?_
            refine T_caseP (s := 34) rfl (fun h44 => ?_) (fun h44 => ?_)
            · have hx45 := ite_t h44 hx41
              refine T_skipG rfl rfl rfl rfl rfl ?_
              refine T_skipG rfl rfl rfl rfl rfl ?_
              refine T_skipG rfl rfl rfl rfl rfl ?_
              refine T_skipG rfl rfl rfl rfl rfl ?_
              refine T_skipG rfl rfl rfl rfl rfl ?_
              refine T_val (Ev_pickT rfl rfl) rfl ?_
              refine T_nil ?_
              exact T_metP true () hx45 trivial (by exact .cons rfl (.cons rfl (.cons rfl (.cons rfl (.nil))))) (by exact .pick 0 rfl (.pick 0 rfl (.pick 0 rfl (.pick 0 rfl (.pick 0 rfl (.pick 0 rfl (.pick 0 rfl (.pick 0 rfl (.pick 0 rfl (.refl))))))))))
            · have hx46 := ite_f h44 hx41
              refine T_valG rfl rfl rfl (Ev_field rfl fld74_2 rfl) rfl ?_
              refine T_valG rfl rfl rfl (Ev_load1 rfl (i := 8) rfl rfl one72) rfl ?_
              obtain ⟨x47, h48, hx49⟩ := bnd_some hx46
              have hw57 := Has.low (E := [e10, e11, e12, e13, e14]) hs23 hK
              obtain ⟨b50, o51, j52, hA53, hj54, hl55, hp56⟩ := Has.at_idx hw57 h48
              refine T_valG rfl rfl rfl (Ev_index rfl rfl hA53 (j := j52) hj54 hl55 slc72) rfl ?_
              refine T_valG rfl rfl rfl (Ev_loadP0 rfl hp56 (SubE.cons2 (i := 9) rfl (SubE.cons2 (i := 2) rfl (SubE.cons2 (i := 3) rfl (SubE.cons2 (i := 4) rfl (SubE.cons2 (i := 5) rfl (SubE.cons2 (i := 6) rfl (SubE.nil))))))) rfl one27) rfl ?_
              refine T_valG rfl rfl rfl (Ev_neq rfl rfl) rfl ?_
              refine T_val (Ev_pickF rfl rfl) rfl ?_
              refine T_nil ?_
              exact T_metP (!(decide (x47 = 1))) () hx49 trivial (by exact .cons rfl (.cons rfl (.cons rfl (.cons rfl (.nil))))) (by exact .pick 0 rfl (.pick 0 rfl (.pick 0 rfl (.pick 0 rfl (.pick 0 rfl (.pick 0 rfl (.pick 0 rfl (.pick 0 rfl (.pick 0 rfl (.refl))))))))))
      · skip
        obtain ⟨h33, hx36⟩ := gd_some hx31
        refine T_draw [0, 1, 0, 1, 0, 2, 0, 2, 3] [[], [0], [], [2], [2, 3], [2, 3, 4], [0, 1, 2, 3, 4, 5], [], [0, 1, 2, 3, 4, 5, 6, 7]] (.q 0 (.q 1 (.q 2 (.q 3 (.q 4 (.e 5 (.q 6 (.e 7 (.e 8 (.done) (.stop)) (.stop))) (.e 7 (.e 5 (.q 6 (.e 8 (.done) (.stop))) (.stop)) (.stop)))))))) mixed (by kernel_rfl) (by kernel_rfl) ?_
        refine P_p rfl rfl (Ev_field rfl fld74_0 rfl) rfl ?_
        refine P_q rfl rfl (Ev_load1 rfl (i := 6) rfl rfl one4) rfl ?_
        refine P_p rfl rfl (Ev_field rfl fld74_1 rfl) rfl ?_
        refine P_q rfl rfl (Ev_load1 rfl (i := 6) rfl rfl one72) rfl ?_
        refine P_p rfl rfl (Ev_len rfl 27 Try.underlying72) rfl ?_
        refine P_x rfl (Wx_makeP e_u32 (0) (z := .int .u32 (0)) rfl rfl rfl h33.1 Try.underlying49 (show Try.prog.info? 27 = some Try.t27 from by kernel_rfl) (by kernel_rfl) rfl rfl (by kernel_rfl) (show 4 * _ ≤ _ from h33.2) (by decide) rfl (fun A37 => ?_)) ?_
        · skip
          refine P_p rfl rfl (Ev_build rfl (bld51_0b1s _ _ _ _)) rfl ?_
          refine P_x rfl (Wx_alloc zer51 rfl (fun g38 => ?_)) ?_
          rotate_left; exact P_stop
          refine P_h rfl rfl (Wh_store rfl rfl rfl (.here) (.put (.put (.put (.done)))) rfl (List.cons_ne_nil _ _) agg51.2 ?_) ?_
          rotate_left; exact P_stop
          refine P_done ?_
          exact T_metP (List.replicate (Int.toNat ((((r3.n).length : Nat) : Int))) (0 : Int)) (g38, A37, (List.replicate (Int.toNat ((((r3.n).length : Nat) : Int))) (0 : Int)).length) hx36 trivial (by exact .cons rfl (.cons rfl (.cons rfl (.nil)))) (by exact .pick 0 rfl (.pick 0 rfl (.pick 0 rfl (.pick 0 rfl (.pick 0 rfl (.pick 0 rfl (.pick 0 rfl (.pick 0 rfl (.pick 0 rfl (.refl))))))))))
        · skip
          refine P_x rfl (Wx_alloc zer51 rfl (fun g39 => ?_)) ?_
          rotate_left; exact P_stop
          refine P_x rfl (Wx_makeP e_u32 (0) (z := .int .u32 (0)) rfl rfl rfl h33.1 Try.underlying49 (show Try.prog.info? 27 = some Try.t27 from by kernel_rfl) (by kernel_rfl) rfl rfl (by kernel_rfl) (show 4 * _ ≤ _ from h33.2) (by decide) rfl (fun A40 => ?_)) ?_
          rotate_left; exact P_stop
          refine P_p rfl rfl (Ev_build rfl (bld51_0b1s _ _ _ _)) rfl ?_
          refine P_h rfl rfl (Wh_store rfl rfl rfl (.there (.here)) (.put (.put (.put (.done)))) rfl (List.cons_ne_nil _ _) agg51.2 ?_) ?_
          rotate_left; exact P_stop
          refine P_done ?_
          exact T_metP (List.replicate (Int.toNat ((((r3.n).length : Nat) : Int))) (0 : Int)) (g39, A40, (List.replicate (Int.toNat ((((r3.n).length : Nat) : Int))) (0 : Int)).length) hx36 trivial (by exact .cons rfl (.cons rfl (.cons rfl (.nil)))) (by exact .pick 1 rfl (.pick 0 rfl (.pick 0 rfl (.pick 0 rfl (.pick 0 rfl (.pick 0 rfl (.pick 0 rfl (.pick 0 rfl (.pick 0 rfl (.refl))))))))))
  · skip
    refine T_reg ?_
    refine T_val (Ev_field rfl fld74_1 rfl) rfl ?_
    refine T_val (Ev_load1 rfl (i := 6) rfl rfl one72) rfl ?_
    refine T_val (Ev_len rfl 27 Try.underlying72) rfl ?_
    refine T_val (Ev_gtr rfl rfl) rfl ?_
    refine T_val (Ev_move rfl) rfl ?_
    refine T_caseP (s := 11) rfl (fun h24 => ?_) (fun h24 => ?_)
    · have hx25 := ite_t h24 hx5
      refine T_skipG rfl rfl rfl rfl rfl ?_
      refine T_skipG rfl rfl rfl rfl rfl ?_
      refine T_skipG rfl rfl rfl rfl rfl ?_
      refine T_skipG rfl rfl rfl rfl rfl ?_
      refine T_val (Ev_pickT rfl rfl) rfl ?_
      refine T_nil ?_
      exact T_metP true () hx25 trivial (by exact .cons rfl (.cons rfl (.cons rfl (.nil)))) (by exact .pick 0 rfl (.pick 0 rfl (.pick 0 rfl (.pick 0 rfl (.pick 0 rfl (.pick 0 rfl (.pick 0 rfl (.refl))))))))
    · have hx26 := ite_f h24 hx5
      refine T_valG rfl rfl rfl (Ev_field rfl fld74_2 rfl) rfl ?_
      refine T_valG rfl rfl rfl (Ev_load1 rfl (i := 6) rfl rfl one72) rfl ?_
      refine T_valG rfl rfl rfl (Ev_len rfl 27 Try.underlying72) rfl ?_
      refine T_valG rfl rfl rfl (Ev_gtr rfl rfl) rfl ?_
      refine T_val (Ev_pickF rfl rfl) rfl ?_
      refine T_nil ?_
      exact T_metP (decide (256 < ((((r3.d).length : Nat) : Int)))) () hx26 trivial (by exact .cons rfl (.cons rfl (.cons rfl (.nil)))) (by exact .pick 0 rfl (.pick 0 rfl (.pick 0 rfl (.pick 0 rfl (.pick 0 rfl (.pick 0 rfl (.pick 0 rfl (.refl))))))))
set_option maxRecDepth 100000 in
theorem ratio_Num_Add_ok (p0 : S_ratio_Num) (p1 : S_ratio_Num) {K : List Ent} {A0_0 : Option Addr} {c0_0 : Nat} {A0_1 : Option Addr} {c0_1 : Nat} {A0_2 : Option Addr} {c0_2 : Nat} {A0_3 : Option Addr} {c0_3 : Nat} (ha0 : Has K A0_0 (p0.n).length c0_0 1 e_u32 (p0.n)) (ha1 : Has K A0_1 (p0.d).length c0_1 1 e_u32 (p0.d)) (ha2 : Has K A0_2 (p1.n).length c0_2 1 e_u32 (p1.n)) (ha3 : Has K A0_3 (p1.d).length c0_3 1 e_u32 (p1.d)) {r : S_ratio_Num} (hx : ratio_Num_Add p0 p1 = some r) (w : World) (hK : ∀ e ∈ K, Ent.ok w e) : CtL Try.prog 52 [.agg #[.bool (p0.neg), .slice (A0_0) ((p0.n).length) (c0_0), .slice (A0_1) ((p0.d).length) (c0_1)], .agg #[.bool (p1.neg), .slice (A0_2) ((p1.n).length) (c0_2), .slice (A0_3) ((p1.d).length) (c0_3)]] w fun v Ln => ∃ (A0 : Option Addr) (c0 : Nat) (A2 : Option Addr) (c2 : Nat) (e0 : Ent) (e1 : Ent) (e2 : Ent) (e3 : Ent), v = .agg #[.bool (r.neg), .slice (A0) ((r.n).length) (c0), .slice (A2) ((r.d).length) (c2)] ∧ Ln = [e0, e1, e2, e3] ∧ Has (K ++ [e0, e1, e2, e3]) A0 (r.n).length c0 1 e_u32 (r.n) ∧ Has (K ++ [e0, e1, e2, e3]) A2 (r.d).length c2 1 e_u32 (r.d) ∧ True := by
  have ha0' := Has.up0 ha0
  have ha1' := Has.up0 ha1
  have ha2' := Has.up0 ha2
  have ha3' := Has.up0 ha3
  refine CtL.mk 53 Try.func52 rfl Try.ntmps52 (by kernel_rfl) rfl ?_
  show T 53 _ [(0, .agg #[.bool (p0.neg), .slice (A0_0) ((p0.n).length) (c0_0), .slice (A0_1) ((p0.d).length) (c0_1)]), (1, .agg #[.bool (p1.neg), .slice (A0_2) ((p1.n).length) (c0_2), .slice (A0_3) ((p1.d).length) (c0_3)])] _
  unfold ratio_Num_Add at hx
  refine T_seq ?_
  refine T_reg ?_
  refine T_x (Wx_box rfl rfl rfl (fun g1 => ?_))
  refine T_x (Wx_box rfl rfl rfl (fun g2 => ?_))
  refine T_x (Wx_alloc zer74 rfl (fun g3 => ?_))
  refine T_nil ?_
  refine T_next ?_
  refine T_seq ?_
  refine T_draw [0, 1, 0, 1, 2, 0, 1, 0, 1, 2, 2, 2] [[], [0], [], [2], [0, 1, 2, 3], [], [5], [], [7], [0, 1, 2, 3, 4, 5, 6, 7, 8], [0, 1, 2, 3, 4, 5, 6, 7, 8, 9], [0, 1, 2, 3, 4, 5, 6, 7, 8, 9, 10]] (.q 0 (.q 1 (.q 2 (.q 3 (.q 5 (.q 6 (.q 7 (.q 8 (.e 4 (.e 9 (.e 10 (.e 11 (.done) (.stop)) (.stop)) (.stop)) (.stop)))))))))) mixed (by kernel_rfl) (by kernel_rfl) ?_
  refine P_p rfl rfl (Ev_field rfl fld74_1 rfl) rfl ?_
  refine P_q rfl rfl (Ev_load1 rfl (i := 2) rfl rfl one72) rfl ?_
  refine P_p rfl rfl (Ev_field rfl fld74_2 rfl) rfl ?_
  refine P_q rfl rfl (Ev_load1 rfl (i := 1) rfl rfl one72) rfl ?_
  refine P_p rfl rfl (Ev_field rfl fld74_1 rfl) rfl ?_
  refine P_q rfl rfl (Ev_load1 rfl (i := 1) rfl rfl one72) rfl ?_
  refine P_p rfl rfl (Ev_field rfl fld74_2 rfl) rfl ?_
  refine P_q rfl rfl (Ev_load1 rfl (i := 2) rfl rfl one72) rfl ?_
  obtain ⟨r4, h5, hx6⟩ := bnd_some hx
  refine P_x rfl (Wx_callL rfl (fun w1 hw1 => ratio_nat_mul_ok p0.n p1.d (Has.len' ha0') (Has.len' ha3') h5 w1 (okApp (K := K) (K2 := []) hK (by exact (SubE.cons2 (i := 3) rfl (SubE.nil))) (by exact (SubE.nil)) hw1)) rfl ?_) ?_
  rotate_left; exact P_stop
  rintro _ _ hlo ⟨A7, c8, e9, rfl, rfl, hs10, -⟩
  have lo11 := hlo e9 (by simp)
  refine T_app1 ?_
  have hs12 : Has (K ++ [e9]) _ _ _ _ _ _ := Has.assoc hs10
  obtain ⟨r13, h14, hx15⟩ := bnd_some hx6
  refine P_x rfl (Wx_callL rfl (fun w1 hw1 => ratio_nat_mul_ok p1.n p0.d (Has.len' ha2') (Has.len' ha1') h14 w1 (okApp (K := K) (K2 := []) hK (by exact (SubE.cons2 (i := 4) rfl (SubE.nil))) (by exact (SubE.nil)) hw1)) rfl ?_) ?_
  rotate_left; exact P_stop
  rintro _ _ hlo ⟨A16, c17, e18, rfl, rfl, hs19, -⟩
  have lo20 := hlo e18 (by simp)
  refine T_app1 ?_
  have hs21 : Has (K ++ [e18]) _ _ _ _ _ _ := Has.assoc hs19
  refine P_x rfl (Wx_val (Ev_assign rfl) rfl ?_) ?_
  rotate_left; exact P_stop
  refine P_x rfl (Wx_val (Ev_assign rfl) rfl ?_) ?_
  rotate_left; exact P_stop
  refine P_done ?_
  refine T_next ?_
  refine T_seq ?_
  refine T_reg ?_
  refine T_val (Ev_field rfl fld74_2 rfl) rfl ?_
  refine T_val (Ev_load1 rfl (i := 4) rfl rfl one72) rfl ?_
  refine T_val (Ev_field rfl fld74_2 rfl) rfl ?_
  refine T_val (Ev_load1 rfl (i := 3) rfl rfl one72) rfl ?_
  obtain ⟨r22, h23, hx24⟩ := bnd_some hx15
  refine T_x (Wx_callL rfl (fun w1 hw1 => ratio_nat_mul_ok p0.d p1.d (Has.len' ha1') (Has.len' ha3') h23 w1 (okApp (K := K) (K2 := []) hK (by exact (SubE.cons2 (i := 5) rfl (SubE.nil))) (by exact (SubE.nil)) hw1)) rfl ?_)
  rintro _ _ hlo ⟨A25, c26, e27, rfl, rfl, hs28, -⟩
  have lo29 := hlo e27 (by simp)
  refine T_app1 ?_
  have hs30 : Has (K ++ [e27]) _ _ _ _ _ _ := Has.assoc hs28
  refine T_val (Ev_assign rfl) rfl ?_
  refine T_nil ?_
  refine T_next ?_
  refine T_seq ?_
  refine T_seq ?_
  refine T_reg ?_
  refine T_val (Ev_field rfl fld74_0 rfl) rfl ?_
  refine T_val (Ev_load1 rfl (i := 5) rfl rfl one4) rfl ?_
  refine T_val (Ev_field rfl fld74_0 rfl) rfl ?_
  refine T_val (Ev_load1 rfl (i := 4) rfl rfl one4) rfl ?_
  refine T_val (Ev_eqlB rfl rfl (by kernel_rfl)) rfl ?_
  refine T_nil ?_
  refine T_next ?_
  refine T_caseB (s := 27) rfl (fun h31 => ?_) (fun h31 => ?_)
  · have hx32 := ite_t h31 hx24
    refine T_condT rfl ?_
    refine T_seq ?_
    refine T_draw [0, 1, 0, 0, 2, 0, 0, 3] [[], [0], [], [], [2, 3], [], [0, 1, 2, 3, 4, 5], [0, 1, 2, 3, 4, 5, 6]] (.q 0 (.q 1 (.q 2 (.q 3 (.q 5 (.e 4 (.q 6 (.e 7 (.done) (.stop))) (.stop))))))) mixed (by kernel_rfl) (by kernel_rfl) ?_
    refine P_p rfl rfl (Ev_field rfl fld74_0 rfl) rfl ?_
    refine P_q rfl rfl (Ev_load1 rfl (i := 5) rfl rfl one4) rfl ?_
    refine P_p rfl rfl (Ev_move rfl) rfl ?_
    refine P_p rfl rfl (Ev_move rfl) rfl ?_
    refine P_p rfl rfl (Ev_move rfl) rfl ?_
    obtain ⟨r33, h34, hx35⟩ := bnd_some hx32
    refine P_x rfl (Wx_callL rfl (fun w1 hw1 => ratio_nat_add_ok r4 r13 (Has.len' (Has.up (L := (K ++ [e9, e18])) hs12 (SubE.app2 (SubE.cons2 (i := 0) rfl (SubE.nil))))) (Has.len' (Has.up (L := (K ++ [e9, e18])) hs21 (SubE.app2 (SubE.cons2 (i := 1) rfl (SubE.nil))))) h34 w1 (okApp (K := K) (K2 := [e9, e18]) hK (by exact (SubE.cons2 (i := 6) rfl (SubE.nil))) (by exact (SubE.cons2 (i := 2) rfl (SubE.cons2 (i := 1) rfl (SubE.nil)))) hw1)) rfl ?_) ?_
    rotate_left; exact P_stop
    rintro _ _ hlo ⟨A36, c37, e38, rfl, rfl, hs39, -⟩
    have lo40 := hlo e38 (by simp)
    refine T_app1 ?_
    have hs41 : Has (K ++ [e9, e18, e38]) _ _ _ _ _ _ := Has.assoc hs39
    refine P_p rfl rfl (Ev_build rfl (bld74_0b1s2s _ _ _ _ _ _ _)) rfl ?_
    refine P_h rfl rfl (Wh_store rfl rfl rfl (.there (.there (.there (.there (.here))))) (.put (.put (.put (.done)))) rfl (List.cons_ne_nil _ _) agg74.2 ?_) ?_
    rotate_left; exact P_stop
    refine P_done ?_
    refine T_next ?_
    refine T_retc ?_
    refine T_outR ?_
    obtain rfl := Option.some.inj hx35
    exact T_retP (rs := [.cell 4 74]) Try.results52 (.cell rfl (i := 4) rfl rfl agg74 (.nil)) (Ln := [e9, e18, e38, e27]) ⟨A36, c37, A25, c26, e9, e18, e38, e27, rfl, rfl, Has.len' (Has.up (L := (K ++ [e9, e18, e38, e27])) hs41 (SubE.app2 (SubE.cons2 (i := 0) rfl (SubE.cons2 (i := 1) rfl (SubE.cons2 (i := 2) rfl (SubE.nil)))))), Has.len' (Has.up (L := (K ++ [e9, e18, e38, e27])) hs30 (SubE.app2 (SubE.cons2 (i := 3) rfl (SubE.nil)))), trivial⟩ (loCons lo11 (loCons lo20 (loCons lo40 (loCons lo29 (loNil))))) (by exact .pick 3 rfl (.pick 2 rfl (.pick 0 rfl (.pick 0 rfl (.drop 0 rfl (.drop 0 rfl (.drop 0 rfl (.refl))))))))
  · have hx42 := ite_bf h31 hx24
    refine T_condF rfl ?_
    refine T_skip ?_
    refine T_next ?_
    refine T_seq ?_
    refine T_seq ?_
    refine T_reg ?_
    refine T_val (Ev_move rfl) rfl ?_
    refine T_val (Ev_move rfl) rfl ?_
    obtain ⟨r43, h44, hx45⟩ := bnd_some hx42
    refine T_x (Wx_callL rfl (fun w1 hw1 => ratio_nat_cmp_ok r4 r13 (Has.len' (Has.up (L := (K ++ [e9, e18])) hs12 (SubE.app2 (SubE.cons2 (i := 0) rfl (SubE.nil))))) (Has.len' (Has.up (L := (K ++ [e9, e18])) hs21 (SubE.app2 (SubE.cons2 (i := 1) rfl (SubE.nil))))) h44 w1 (okApp (K := K) (K2 := [e9, e18]) hK (by exact (SubE.cons2 (i := 6) rfl (SubE.nil))) (by exact (SubE.cons2 (i := 2) rfl (SubE.cons2 (i := 1) rfl (SubE.nil)))) hw1)) rfl ?_)
    rintro _ _ hlo ⟨rfl, rfl, -⟩
    refine T_app0 ?_
    refine T_val (Ev_geq rfl rfl) rfl ?_
    refine T_nil ?_
    refine T_next ?_
    refine T_caseP (s := 38) rfl (fun h46 => ?_) (fun h46 => ?_)
    · have hx47 := ite_t h46 hx45
      refine T_condT rfl ?_
      refine T_seq ?_
      refine T_draw [0, 1, 0, 0, 2, 0, 0, 3] [[], [0], [], [], [2, 3], [], [0, 1, 2, 3, 4, 5], [0, 1, 2, 3, 4, 5, 6]] (.q 0 (.q 1 (.q 2 (.q 3 (.q 5 (.e 4 (.q 6 (.e 7 (.done) (.stop))) (.stop))))))) mixed (by kernel_rfl) (by kernel_rfl) ?_
      refine P_p rfl rfl (Ev_field rfl fld74_0 rfl) rfl ?_
      refine P_q rfl rfl (Ev_load1 rfl (i := 5) rfl rfl one4) rfl ?_
      refine P_p rfl rfl (Ev_move rfl) rfl ?_
      refine P_p rfl rfl (Ev_move rfl) rfl ?_
      refine P_p rfl rfl (Ev_move rfl) rfl ?_
      obtain ⟨r48, h49, hx50⟩ := bnd_some hx47
      refine P_x rfl (Wx_callL rfl (fun w1 hw1 => ratio_nat_sub_ok r4 r13 (Has.len' (Has.up (L := (K ++ [e9, e18])) hs12 (SubE.app2 (SubE.cons2 (i := 0) rfl (SubE.nil))))) (Has.len' (Has.up (L := (K ++ [e9, e18])) hs21 (SubE.app2 (SubE.cons2 (i := 1) rfl (SubE.nil))))) h49 w1 (okApp (K := K) (K2 := [e9, e18]) hK (by exact (SubE.cons2 (i := 6) rfl (SubE.nil))) (by exact (SubE.cons2 (i := 2) rfl (SubE.cons2 (i := 1) rfl (SubE.nil)))) hw1)) rfl ?_) ?_
      rotate_left; exact P_stop
      rintro _ _ hlo ⟨A51, c52, e53, rfl, rfl, hs54, -⟩
      have lo55 := hlo e53 (by simp)
      refine T_app1 ?_
      have hs56 : Has (K ++ [e9, e18, e53]) _ _ _ _ _ _ := Has.assoc hs54
      refine P_p rfl rfl (Ev_build rfl (bld74_0b1s2s _ _ _ _ _ _ _)) rfl ?_
      refine P_h rfl rfl (Wh_store rfl rfl rfl (.there (.there (.there (.there (.here))))) (.put (.put (.put (.done)))) rfl (List.cons_ne_nil _ _) agg74.2 ?_) ?_
      rotate_left; exact P_stop
      refine P_done ?_
      refine T_next ?_
      refine T_retc ?_
      refine T_outR ?_
      obtain rfl := Option.some.inj hx50
      exact T_retP (rs := [.cell 4 74]) Try.results52 (.cell rfl (i := 4) rfl rfl agg74 (.nil)) (Ln := [e9, e18, e53, e27]) ⟨A51, c52, A25, c26, e9, e18, e53, e27, rfl, rfl, Has.len' (Has.up (L := (K ++ [e9, e18, e53, e27])) hs56 (SubE.app2 (SubE.cons2 (i := 0) rfl (SubE.cons2 (i := 1) rfl (SubE.cons2 (i := 2) rfl (SubE.nil)))))), Has.len' (Has.up (L := (K ++ [e9, e18, e53, e27])) hs30 (SubE.app2 (SubE.cons2 (i := 3) rfl (SubE.nil)))), trivial⟩ (loCons lo11 (loCons lo20 (loCons lo55 (loCons lo29 (loNil))))) (by exact .pick 3 rfl (.pick 2 rfl (.pick 0 rfl (.pick 0 rfl (.drop 0 rfl (.drop 0 rfl (.drop 0 rfl (.refl))))))))
    · have hx57 := ite_f h46 hx45
      refine T_condF rfl ?_
      refine T_skip ?_
      refine T_next ?_
      refine T_seq ?_
      refine T_draw [0, 1, 0, 0, 2, 0, 0, 3] [[], [0], [], [], [2, 3], [], [0, 1, 2, 3, 4, 5], [0, 1, 2, 3, 4, 5, 6]] (.q 0 (.q 1 (.q 2 (.q 3 (.q 5 (.e 4 (.q 6 (.e 7 (.done) (.stop))) (.stop))))))) mixed (by kernel_rfl) (by kernel_rfl) ?_
      refine P_p rfl rfl (Ev_field rfl fld74_0 rfl) rfl ?_
      refine P_q rfl rfl (Ev_load1 rfl (i := 4) rfl rfl one4) rfl ?_
      refine P_p rfl rfl (Ev_move rfl) rfl ?_
      refine P_p rfl rfl (Ev_move rfl) rfl ?_
      refine P_p rfl rfl (Ev_move rfl) rfl ?_
      obtain ⟨r58, h59, hx60⟩ := bnd_some hx57
      refine P_x rfl (Wx_callL rfl (fun w1 hw1 => ratio_nat_sub_ok r13 r4 (Has.len' (Has.up (L := (K ++ [e18, e9])) hs21 (SubE.app2 (SubE.cons2 (i := 0) rfl (SubE.nil))))) (Has.len' (Has.up (L := (K ++ [e18, e9])) hs12 (SubE.app2 (SubE.cons2 (i := 1) rfl (SubE.nil))))) h59 w1 (okApp (K := K) (K2 := [e18, e9]) hK (by exact (SubE.cons2 (i := 6) rfl (SubE.nil))) (by exact (SubE.cons2 (i := 1) rfl (SubE.cons2 (i := 2) rfl (SubE.nil)))) hw1)) rfl ?_) ?_
      rotate_left; exact P_stop
      rintro _ _ hlo ⟨A61, c62, e63, rfl, rfl, hs64, -⟩
      have lo65 := hlo e63 (by simp)
      refine T_app1 ?_
      have hs66 : Has (K ++ [e18, e9, e63]) _ _ _ _ _ _ := Has.assoc hs64
      refine P_p rfl rfl (Ev_build rfl (bld74_0b1s2s _ _ _ _ _ _ _)) rfl ?_
      refine P_h rfl rfl (Wh_store rfl rfl rfl (.there (.there (.there (.there (.here))))) (.put (.put (.put (.done)))) rfl (List.cons_ne_nil _ _) agg74.2 ?_) ?_
      rotate_left; exact P_stop
      refine P_done ?_
      refine T_next ?_
      refine T_retc ?_
      obtain rfl := Option.some.inj hx60
      exact T_retP (rs := [.cell 4 74]) Try.results52 (.cell rfl (i := 4) rfl rfl agg74 (.nil)) (Ln := [e18, e9, e63, e27]) ⟨A61, c62, A25, c26, e18, e9, e63, e27, rfl, rfl, Has.len' (Has.up (L := (K ++ [e18, e9, e63, e27])) hs66 (SubE.app2 (SubE.cons2 (i := 0) rfl (SubE.cons2 (i := 1) rfl (SubE.cons2 (i := 2) rfl (SubE.nil)))))), Has.len' (Has.up (L := (K ++ [e18, e9, e63, e27])) hs30 (SubE.app2 (SubE.cons2 (i := 3) rfl (SubE.nil)))), trivial⟩ (loCons lo20 (loCons lo11 (loCons lo65 (loCons lo29 (loNil))))) (by exact .pick 2 rfl (.pick 2 rfl (.pick 0 rfl (.pick 0 rfl (.drop 0 rfl (.drop 0 rfl (.drop 0 rfl (.refl))))))))
set_option maxRecDepth 100000 in
theorem ratio_Num_Sign_ok (p0 : S_ratio_Num) {K : List Ent} {A0_0 : Option Addr} {c0_0 : Nat} {A0_1 : Option Addr} {c0_1 : Nat} (ha0 : Has K A0_0 (p0.n).length c0_0 1 e_u32 (p0.n)) (ha1 : Has K A0_1 (p0.d).length c0_1 1 e_u32 (p0.d)) {r : Int} (hx : ratio_Num_Sign p0 = some r) (w : World) (hK : ∀ e ∈ K, Ent.ok w e) : CtL Try.prog 43 [.agg #[.bool (p0.neg), .slice (A0_0) ((p0.n).length) (c0_0), .slice (A0_1) ((p0.d).length) (c0_1)]] w fun v Ln => v = .int .i64 (r) ∧ Ln = [] ∧ True := by
  have ha0' := Has.up0 ha0
  have ha1' := Has.up0 ha1
  refine CtL.mk 11 Try.func43 rfl Try.ntmps43 (by kernel_rfl) rfl ?_
  show T 11 _ [(0, .agg #[.bool (p0.neg), .slice (A0_0) ((p0.n).length) (c0_0), .slice (A0_1) ((p0.d).length) (c0_1)])] _
  unfold ratio_Num_Sign at hx
  refine T_seq ?_
  refine T_reg ?_
  refine T_x (Wx_box rfl rfl rfl (fun g1 => ?_))
  refine T_val (Ev_assign rfl) rfl ?_
  refine T_nil ?_
  refine T_next ?_
  refine T_seq ?_
  refine T_block ?_
  refine T_seq ?_
  refine T_reg ?_
  refine T_val (Ev_field rfl fld74_1 rfl) rfl ?_
  refine T_val (Ev_load1 rfl (i := 0) rfl rfl one72) rfl ?_
  refine T_val (Ev_len rfl 27 Try.underlying72) rfl ?_
  refine T_val (Ev_eql rfl rfl) rfl ?_
  refine T_val (Ev_assign rfl) rfl ?_
  refine T_nil ?_
  refine T_next ?_
  refine T_caseP (s := 3) rfl (fun h2 => ?_) (fun h2 => ?_)
  · have hx3 := ite_t h2 hx
    refine T_condT rfl ?_
    refine T_seq ?_
    refine T_reg ?_
    refine T_val (Ev_assign rfl) rfl ?_
    refine T_nil ?_
    refine T_next ?_
    refine T_retc ?_
    refine T_inR ?_
    refine T_outR ?_
    obtain rfl := Option.some.inj hx3
    exact T_retP (rs := [.tmp 2]) Try.results43 (.tmp rfl (.nil)) (Ln := []) ⟨rfl, rfl, trivial⟩ (loNil) (by exact .drop 0 rfl (.refl))
  · have hx4 := ite_f h2 hx
    refine T_condF rfl ?_
    refine T_seq ?_
    refine T_reg ?_
    refine T_val (Ev_field rfl fld74_0 rfl) rfl ?_
    refine T_val (Ev_load1 rfl (i := 0) rfl rfl one4) rfl ?_
    refine T_val (Ev_assign rfl) rfl ?_
    refine T_nil ?_
    refine T_next ?_
    refine T_caseB (s := 8) rfl (fun h5 => ?_) (fun h5 => ?_)
    · have hx6 := ite_t h5 hx4
      refine T_condT rfl ?_
      refine T_seq ?_
      refine T_reg ?_
      refine T_val (Ev_assign rfl) rfl ?_
      refine T_nil ?_
      refine T_next ?_
      refine T_retc ?_
      refine T_inR ?_
      refine T_outR ?_
      obtain rfl := Option.some.inj hx6
      exact T_retP (rs := [.tmp 2]) Try.results43 (.tmp rfl (.nil)) (Ln := []) ⟨rfl, rfl, trivial⟩ (loNil) (by exact .drop 0 rfl (.refl))
    · have hx7 := ite_bf h5 hx4
      refine T_condF rfl ?_
      refine T_skip ?_
      refine T_inN ?_
      refine T_next ?_
      refine T_seq ?_
      refine T_reg ?_
      refine T_val (Ev_assign rfl) rfl ?_
      refine T_nil ?_
      refine T_next ?_
      refine T_retc ?_
      obtain rfl := Option.some.inj hx7
      exact T_retP (rs := [.tmp 2]) Try.results43 (.tmp rfl (.nil)) (Ln := []) ⟨rfl, rfl, trivial⟩ (loNil) (by exact .drop 0 rfl (.refl))
set_option maxRecDepth 100000 in
theorem ratio_Num_Mul_ok (p0 : S_ratio_Num) (p1 : S_ratio_Num) {K : List Ent} {A0_0 : Option Addr} {c0_0 : Nat} {A0_1 : Option Addr} {c0_1 : Nat} {A0_2 : Option Addr} {c0_2 : Nat} {A0_3 : Option Addr} {c0_3 : Nat} (ha0 : Has K A0_0 (p0.n).length c0_0 1 e_u32 (p0.n)) (ha1 : Has K A0_1 (p0.d).length c0_1 1 e_u32 (p0.d)) (ha2 : Has K A0_2 (p1.n).length c0_2 1 e_u32 (p1.n)) (ha3 : Has K A0_3 (p1.d).length c0_3 1 e_u32 (p1.d)) {r : S_ratio_Num} (hx : ratio_Num_Mul p0 p1 = some r) (w : World) (hK : ∀ e ∈ K, Ent.ok w e) : CtL Try.prog 24 [.agg #[.bool (p0.neg), .slice (A0_0) ((p0.n).length) (c0_0), .slice (A0_1) ((p0.d).length) (c0_1)], .agg #[.bool (p1.neg), .slice (A0_2) ((p1.n).length) (c0_2), .slice (A0_3) ((p1.d).length) (c0_3)]] w fun v Ln => ∃ (A0 : Option Addr) (c0 : Nat) (A2 : Option Addr) (c2 : Nat) (e0 : Ent) (e1 : Ent), v = .agg #[.bool (r.neg), .slice (A0) ((r.n).length) (c0), .slice (A2) ((r.d).length) (c2)] ∧ Ln = [e0, e1] ∧ Has (K ++ [e0, e1]) A0 (r.n).length c0 1 e_u32 (r.n) ∧ Has (K ++ [e0, e1]) A2 (r.d).length c2 1 e_u32 (r.d) ∧ True := by
  have ha0' := Has.up0 ha0
  have ha1' := Has.up0 ha1
  have ha2' := Has.up0 ha2
  have ha3' := Has.up0 ha3
  refine CtL.mk 21 Try.func24 rfl Try.ntmps24 (by kernel_rfl) rfl ?_
  show T 21 _ [(0, .agg #[.bool (p0.neg), .slice (A0_0) ((p0.n).length) (c0_0), .slice (A0_1) ((p0.d).length) (c0_1)]), (1, .agg #[.bool (p1.neg), .slice (A0_2) ((p1.n).length) (c0_2), .slice (A0_3) ((p1.d).length) (c0_3)])] _
  unfold ratio_Num_Mul at hx
  refine T_seq ?_
  refine T_reg ?_
  refine T_x (Wx_box rfl rfl rfl (fun g1 => ?_))
  refine T_x (Wx_box rfl rfl rfl (fun g2 => ?_))
  refine T_x (Wx_alloc zer74 rfl (fun g3 => ?_))
  refine T_nil ?_
  refine T_next ?_
  refine T_seq ?_
  refine T_draw [0, 1, 0, 1, 0, 0, 1, 0, 1, 2, 0, 1, 0, 1, 2, 0, 3] [[], [0], [], [2], [0, 1, 2, 3], [], [5], [], [7], [5, 6, 7, 8], [], [10], [], [12], [5, 6, 7, 8, 9, 10, 11, 12, 13], [0, 1, 2, 3, 4, 5, 6, 7, 8, 9, 10, 11, 12, 13, 14], [0, 1, 2, 3, 4, 5, 6, 7, 8, 9, 10, 11, 12, 13, 14, 15]] (.q 0 (.q 1 (.q 2 (.q 3 (.q 4 (.q 5 (.q 6 (.q 7 (.q 8 (.q 10 (.q 11 (.q 12 (.q 13 (.e 9 (.e 14 (.q 15 (.e 16 (.done) (.stop))) (.stop)) (.stop))))))))))))))) mixed (by kernel_rfl) (by kernel_rfl) ?_
  refine P_p rfl rfl (Ev_field rfl fld74_0 rfl) rfl ?_
  refine P_q rfl rfl (Ev_load1 rfl (i := 2) rfl rfl one4) rfl ?_
  refine P_p rfl rfl (Ev_field rfl fld74_0 rfl) rfl ?_
  refine P_q rfl rfl (Ev_load1 rfl (i := 1) rfl rfl one4) rfl ?_
  refine P_p rfl rfl (Ev_neqB rfl rfl (by kernel_rfl)) rfl ?_
  refine P_p rfl rfl (Ev_field rfl fld74_1 rfl) rfl ?_
  refine P_q rfl rfl (Ev_load1 rfl (i := 2) rfl rfl one72) rfl ?_
  refine P_p rfl rfl (Ev_field rfl fld74_1 rfl) rfl ?_
  refine P_q rfl rfl (Ev_load1 rfl (i := 1) rfl rfl one72) rfl ?_
  refine P_p rfl rfl (Ev_field rfl fld74_2 rfl) rfl ?_
  refine P_q rfl rfl (Ev_load1 rfl (i := 2) rfl rfl one72) rfl ?_
  refine P_p rfl rfl (Ev_field rfl fld74_2 rfl) rfl ?_
  refine P_q rfl rfl (Ev_load1 rfl (i := 1) rfl rfl one72) rfl ?_
  obtain ⟨r4, h5, hx6⟩ := bnd_some hx
  refine P_x rfl (Wx_callL rfl (fun w1 hw1 => ratio_nat_mul_ok p0.n p1.n (Has.len' ha0') (Has.len' ha2') h5 w1 (okApp (K := K) (K2 := []) hK (by exact (SubE.cons2 (i := 3) rfl (SubE.nil))) (by exact (SubE.nil)) hw1)) rfl ?_) ?_
  rotate_left; exact P_stop
  rintro _ _ hlo ⟨A7, c8, e9, rfl, rfl, hs10, -⟩
  have lo11 := hlo e9 (by simp)
  refine T_app1 ?_
  have hs12 : Has (K ++ [e9]) _ _ _ _ _ _ := Has.assoc hs10
  obtain ⟨r13, h14, hx15⟩ := bnd_some hx6
  refine P_x rfl (Wx_callL rfl (fun w1 hw1 => ratio_nat_mul_ok p0.d p1.d (Has.len' ha1') (Has.len' ha3') h14 w1 (okApp (K := K) (K2 := []) hK (by exact (SubE.cons2 (i := 4) rfl (SubE.nil))) (by exact (SubE.nil)) hw1)) rfl ?_) ?_
  rotate_left; exact P_stop
  rintro _ _ hlo ⟨A16, c17, e18, rfl, rfl, hs19, -⟩
  have lo20 := hlo e18 (by simp)
  refine T_app1 ?_
  have hs21 : Has (K ++ [e18]) _ _ _ _ _ _ := Has.assoc hs19
  refine P_p rfl rfl (Ev_build rfl (bld74_0b1s2s _ _ _ _ _ _ _)) rfl ?_
  refine P_h rfl rfl (Wh_store rfl rfl rfl (.there (.there (.here))) (.put (.put (.put (.done)))) rfl (List.cons_ne_nil _ _) agg74.2 ?_) ?_
  rotate_left; exact P_stop
  refine P_done ?_
  refine T_next ?_
  refine T_retc ?_
  obtain rfl := Option.some.inj hx15
  exact T_retP (rs := [.cell 4 74]) Try.results24 (.cell rfl (i := 2) rfl rfl agg74 (.nil)) (Ln := [e9, e18]) ⟨A7, c8, A16, c17, e9, e18, rfl, rfl, Has.len' (Has.up (L := (K ++ [e9, e18])) hs12 (SubE.app2 (SubE.cons2 (i := 0) rfl (SubE.nil)))), Has.len' (Has.up (L := (K ++ [e9, e18])) hs21 (SubE.app2 (SubE.cons2 (i := 1) rfl (SubE.nil)))), trivial⟩ (loCons lo11 (loCons lo20 (loNil))) (by exact .pick 1 rfl (.pick 0 rfl (.drop 0 rfl (.drop 0 rfl (.drop 0 rfl (.refl))))))
set_option maxRecDepth 100000 in
theorem ratio_Num_Neg_ok (p0 : S_ratio_Num) {K : List Ent} {A0_0 : Option Addr} {c0_0 : Nat} {A0_1 : Option Addr} {c0_1 : Nat} (ha0 : Has K A0_0 (p0.n).length c0_0 1 e_u32 (p0.n)) (ha1 : Has K A0_1 (p0.d).length c0_1 1 e_u32 (p0.d)) {r : S_ratio_Num} (hx : ratio_Num_Neg p0 = some r) (w : World) (hK : ∀ e ∈ K, Ent.ok w e) : CtL Try.prog 45 [.agg #[.bool (p0.neg), .slice (A0_0) ((p0.n).length) (c0_0), .slice (A0_1) ((p0.d).length) (c0_1)]] w fun v Ln => v = .agg #[.bool (r.neg), .slice (A0_0) ((r.n).length) (c0_0), .slice (A0_1) ((r.d).length) (c0_1)] ∧ Ln = [] ∧ Has K A0_0 (r.n).length c0_0 1 e_u32 (r.n) ∧ Has K A0_1 (r.d).length c0_1 1 e_u32 (r.d) ∧ True := by
  have ha0' := Has.up0 ha0
  have ha1' := Has.up0 ha1
  refine CtL.mk 17 Try.func45 rfl Try.ntmps45 (by kernel_rfl) rfl ?_
  show T 17 _ [(0, .agg #[.bool (p0.neg), .slice (A0_0) ((p0.n).length) (c0_0), .slice (A0_1) ((p0.d).length) (c0_1)])] _
  unfold ratio_Num_Neg at hx
  refine T_seq ?_
  refine T_reg ?_
  refine T_x (Wx_box rfl rfl rfl (fun g1 => ?_))
  refine T_x (Wx_alloc zer74 rfl (fun g2 => ?_))
  refine T_nil ?_
  refine T_next ?_
  obtain ⟨j2, hj2, hx⟩ := jn_some hx
  refine T_cutP (τ := Bool) (γ := Unit) (J := j2) (out := r) (fun s2 y2 => [(2, .pointer (some ⟨g2, 0, none⟩))]) (fun s2 y2 => [.m g2 74 [.bool (s2), .slice (A0_0) ((p0.n).length) (c0_0), .slice (A0_1) ((p0.d).length) (c0_1)]] ++ [.old w]) (fun s2 y2 => True) ?_ ?_
  · intro s2 y2 hx6 hG7
    subst hj2
    refine T_retc ?_
    obtain rfl := Option.some.inj hx6
    exact T_retP (rs := [.cell 2 74]) Try.results45 (.cell rfl (i := 0) rfl rfl agg74 (.nil)) (Ln := []) ⟨rfl, rfl, Has.len' (Has.dn0 ha0'), Has.len' (Has.dn0 ha1'), trivial⟩ (loNil) (by exact .drop 0 rfl (.refl))
  · skip
    refine T_reg ?_
    refine T_val (Ev_field rfl fld74_0 rfl) rfl ?_
    refine T_val (Ev_load1 rfl (i := 1) rfl rfl one4) rfl ?_
    refine T_val (Ev_not rfl) rfl ?_
    refine T_val (Ev_move rfl) rfl ?_
    refine T_caseNB (s := 6) rfl (fun h3 => ?_) (fun h3 => ?_)
    · have hx4 := ite_bf h3 hx
      refine T_valG rfl rfl rfl (Ev_field rfl fld74_1 rfl) rfl ?_
      refine T_valG rfl rfl rfl (Ev_load1 rfl (i := 1) rfl rfl one72) rfl ?_
      refine T_valG rfl rfl rfl (Ev_len rfl 27 Try.underlying72) rfl ?_
      refine T_valG rfl rfl rfl (Ev_gtr rfl rfl) rfl ?_
      refine T_val (Ev_pickT rfl rfl) rfl ?_
      refine T_val (Ev_field rfl fld74_1 rfl) rfl ?_
      refine T_val (Ev_load1 rfl (i := 1) rfl rfl one72) rfl ?_
      refine T_val (Ev_field rfl fld74_2 rfl) rfl ?_
      refine T_val (Ev_load1 rfl (i := 1) rfl rfl one72) rfl ?_
      refine T_val (Ev_build rfl (bld74_0b1s2s _ _ _ _ _ _ _)) rfl ?_
      refine T_h (Wh_store rfl rfl rfl (.here) (.put (.put (.put (.done)))) rfl (List.cons_ne_nil _ _) agg74.2 ?_)
      refine T_nil ?_
      exact T_metP (decide (0 < ((((p0.n).length : Nat) : Int)))) () hx4 trivial (by exact .cons rfl (.nil)) (by exact .pick 0 rfl (.drop 0 rfl (.refl)))
    · have hx5 := ite_t h3 hx
      refine T_skipG rfl rfl rfl rfl rfl ?_
      refine T_skipG rfl rfl rfl rfl rfl ?_
      refine T_skipG rfl rfl rfl rfl rfl ?_
      refine T_skipG rfl rfl rfl rfl rfl ?_
      refine T_val (Ev_pickF rfl rfl) rfl ?_
      refine T_val (Ev_field rfl fld74_1 rfl) rfl ?_
      refine T_val (Ev_load1 rfl (i := 1) rfl rfl one72) rfl ?_
      refine T_val (Ev_field rfl fld74_2 rfl) rfl ?_
      refine T_val (Ev_load1 rfl (i := 1) rfl rfl one72) rfl ?_
      refine T_val (Ev_build rfl (bld74_0b1s2s _ _ _ _ _ _ _)) rfl ?_
      refine T_h (Wh_store rfl rfl rfl (.here) (.put (.put (.put (.done)))) rfl (List.cons_ne_nil _ _) agg74.2 ?_)
      refine T_nil ?_
      exact T_metP false () hx5 trivial (by exact .cons rfl (.nil)) (by exact .pick 0 rfl (.drop 0 rfl (.refl)))
set_option maxRecDepth 100000 in
theorem ratio_Num_Sub_ok (p0 : S_ratio_Num) (p1 : S_ratio_Num) {K : List Ent} {A0_0 : Option Addr} {c0_0 : Nat} {A0_1 : Option Addr} {c0_1 : Nat} {A0_2 : Option Addr} {c0_2 : Nat} {A0_3 : Option Addr} {c0_3 : Nat} (ha0 : Has K A0_0 (p0.n).length c0_0 1 e_u32 (p0.n)) (ha1 : Has K A0_1 (p0.d).length c0_1 1 e_u32 (p0.d)) (ha2 : Has K A0_2 (p1.n).length c0_2 1 e_u32 (p1.n)) (ha3 : Has K A0_3 (p1.d).length c0_3 1 e_u32 (p1.d)) {r : S_ratio_Num} (hx : ratio_Num_Sub p0 p1 = some r) (w : World) (hK : ∀ e ∈ K, Ent.ok w e) : CtL Try.prog 42 [.agg #[.bool (p0.neg), .slice (A0_0) ((p0.n).length) (c0_0), .slice (A0_1) ((p0.d).length) (c0_1)], .agg #[.bool (p1.neg), .slice (A0_2) ((p1.n).length) (c0_2), .slice (A0_3) ((p1.d).length) (c0_3)]] w fun v Ln => ∃ (A0 : Option Addr) (c0 : Nat) (A2 : Option Addr) (c2 : Nat) (e0 : Ent) (e1 : Ent) (e2 : Ent) (e3 : Ent), v = .agg #[.bool (r.neg), .slice (A0) ((r.n).length) (c0), .slice (A2) ((r.d).length) (c2)] ∧ Ln = [e0, e1, e2, e3] ∧ Has (K ++ [e0, e1, e2, e3]) A0 (r.n).length c0 1 e_u32 (r.n) ∧ Has (K ++ [e0, e1, e2, e3]) A2 (r.d).length c2 1 e_u32 (r.d) ∧ True := by
  have ha0' := Has.up0 ha0
  have ha1' := Has.up0 ha1
  have ha2' := Has.up0 ha2
  have ha3' := Has.up0 ha3
  refine CtL.mk 9 Try.func42 rfl Try.ntmps42 (by kernel_rfl) rfl ?_
  show T 9 _ [(0, .agg #[.bool (p0.neg), .slice (A0_0) ((p0.n).length) (c0_0), .slice (A0_1) ((p0.d).length) (c0_1)]), (1, .agg #[.bool (p1.neg), .slice (A0_2) ((p1.n).length) (c0_2), .slice (A0_3) ((p1.d).length) (c0_3)])] _
  unfold ratio_Num_Sub at hx
  refine T_seq ?_
  refine T_reg ?_
  refine T_x (Wx_box rfl rfl rfl (fun g1 => ?_))
  refine T_x (Wx_box rfl rfl rfl (fun g2 => ?_))
  refine T_x (Wx_alloc zer74 rfl (fun g3 => ?_))
  refine T_nil ?_
  refine T_next ?_
  refine T_seq ?_
  refine T_draw [1, 1, 2, 2, 3] [[], [], [1], [0, 1, 2], [0, 1, 2, 3]] (.q 0 (.q 1 (.e 2 (.e 3 (.e 4 (.done) (.stop)) (.stop)) (.stop)))) mixed (by kernel_rfl) (by kernel_rfl) ?_
  refine P_q rfl rfl (Ev_loadK rfl (i := 2) rfl rfl agg74) rfl ?_
  refine P_q rfl rfl (Ev_loadK rfl (i := 1) rfl rfl agg74) rfl ?_
  obtain ⟨r4, h5, hx6⟩ := bnd_some hx
  refine P_x rfl (Wx_callL rfl (fun w1 hw1 => ratio_Num_Neg_ok p1 (Has.len' ha2') (Has.len' ha3') h5 w1 (okApp (K := K) (K2 := []) hK (by exact (SubE.cons2 (i := 3) rfl (SubE.nil))) (by exact (SubE.nil)) hw1)) rfl ?_) ?_
  rotate_left; exact P_stop
  rintro _ _ hlo ⟨rfl, rfl, hs7, hs8, -⟩
  refine T_app0 ?_
  have hs9 := hs7
  have hs10 := hs8
  obtain ⟨r11, h12, hx13⟩ := bnd_some hx6
  refine P_x rfl (Wx_callL rfl (fun w1 hw1 => ratio_Num_Add_ok p0 r4 (Has.len' ha0') (Has.len' ha1') (Has.len' hs9) (Has.len' hs10) h12 w1 (okApp (K := K) (K2 := []) hK (by exact (SubE.cons2 (i := 3) rfl (SubE.nil))) (by exact (SubE.nil)) hw1)) rfl ?_) ?_
  rotate_left; exact P_stop
  rintro _ _ hlo ⟨A14, c15, A16, c17, e18, e19, e20, e21, rfl, rfl, hs22, hs23, -⟩
  have lo24 := hlo e18 (by simp)
  have lo25 := hlo e19 (by simp)
  have lo26 := hlo e20 (by simp)
  have lo27 := hlo e21 (by simp)
  refine T_app4 ?_
  have hs28 : Has (K ++ [e18, e19, e20, e21]) _ _ _ _ _ _ := Has.assoc hs22
  have hs29 : Has (K ++ [e18, e19, e20, e21]) _ _ _ _ _ _ := Has.assoc hs23
  refine P_h rfl rfl (Wh_store rfl rfl rfl (.there (.there (.there (.there (.here))))) (.put (.put (.put (.done)))) rfl (List.cons_ne_nil _ _) agg74.2 ?_) ?_
  rotate_left; exact P_stop
  refine P_done ?_
  refine T_next ?_
  refine T_retc ?_
  obtain rfl := Option.some.inj hx13
  exact T_retP (rs := [.cell 4 74]) Try.results42 (.cell rfl (i := 4) rfl rfl agg74 (.nil)) (Ln := [e18, e19, e20, e21]) ⟨A14, c15, A16, c17, e18, e19, e20, e21, rfl, rfl, Has.len' hs28, Has.len' hs29, trivial⟩ (loCons lo24 (loCons lo25 (loCons lo26 (loCons lo27 (loNil))))) (by exact .pick 0 rfl (.pick 0 rfl (.pick 0 rfl (.pick 0 rfl (.drop 0 rfl (.drop 0 rfl (.drop 0 rfl (.refl))))))))
set_option maxRecDepth 100000 in
theorem ratio_Num_Cmp_ok (p0 : S_ratio_Num) (p1 : S_ratio_Num) {K : List Ent} {A0_0 : Option Addr} {c0_0 : Nat} {A0_1 : Option Addr} {c0_1 : Nat} {A0_2 : Option Addr} {c0_2 : Nat} {A0_3 : Option Addr} {c0_3 : Nat} (ha0 : Has K A0_0 (p0.n).length c0_0 1 e_u32 (p0.n)) (ha1 : Has K A0_1 (p0.d).length c0_1 1 e_u32 (p0.d)) (ha2 : Has K A0_2 (p1.n).length c0_2 1 e_u32 (p1.n)) (ha3 : Has K A0_3 (p1.d).length c0_3 1 e_u32 (p1.d)) {r : Int} (hx : ratio_Num_Cmp p0 p1 = some r) (w : World) (hK : ∀ e ∈ K, Ent.ok w e) : CtL Try.prog 27 [.agg #[.bool (p0.neg), .slice (A0_0) ((p0.n).length) (c0_0), .slice (A0_1) ((p0.d).length) (c0_1)], .agg #[.bool (p1.neg), .slice (A0_2) ((p1.n).length) (c0_2), .slice (A0_3) ((p1.d).length) (c0_3)]] w fun v Ln => v = .int .i64 (r) ∧ Ln = [] ∧ True := by
  have ha0' := Has.up0 ha0
  have ha1' := Has.up0 ha1
  have ha2' := Has.up0 ha2
  have ha3' := Has.up0 ha3
  refine CtL.mk 9 Try.func27 rfl Try.ntmps27 (by kernel_rfl) rfl ?_
  show T 9 _ [(0, .agg #[.bool (p0.neg), .slice (A0_0) ((p0.n).length) (c0_0), .slice (A0_1) ((p0.d).length) (c0_1)]), (1, .agg #[.bool (p1.neg), .slice (A0_2) ((p1.n).length) (c0_2), .slice (A0_3) ((p1.d).length) (c0_3)])] _
  unfold ratio_Num_Cmp at hx
  refine T_seq ?_
  refine T_reg ?_
  refine T_x (Wx_box rfl rfl rfl (fun g1 => ?_))
  refine T_x (Wx_box rfl rfl rfl (fun g2 => ?_))
  refine T_val (Ev_assign rfl) rfl ?_
  refine T_nil ?_
  refine T_next ?_
  refine T_seq ?_
  refine T_reg ?_
  refine T_val (Ev_loadK rfl (i := 1) rfl rfl agg74) rfl ?_
  refine T_val (Ev_loadK rfl (i := 0) rfl rfl agg74) rfl ?_
  obtain ⟨r3, h4, hx5⟩ := bnd_some hx
  refine T_x (Wx_callL rfl (fun w1 hw1 => ratio_Num_Sub_ok p0 p1 (Has.len' ha0') (Has.len' ha1') (Has.len' ha2') (Has.len' ha3') h4 w1 (okApp (K := K) (K2 := []) hK (by exact (SubE.cons2 (i := 2) rfl (SubE.nil))) (by exact (SubE.nil)) hw1)) rfl ?_)
  rintro _ _ hlo ⟨A6, c7, A8, c9, e10, e11, e12, e13, rfl, rfl, hs14, hs15, -⟩
  have lo16 := hlo e10 (by simp)
  have lo17 := hlo e11 (by simp)
  have lo18 := hlo e12 (by simp)
  have lo19 := hlo e13 (by simp)
  refine T_app4 ?_
  have hs20 : Has (K ++ [e10, e11, e12, e13]) _ _ _ _ _ _ := Has.assoc hs14
  have hs21 : Has (K ++ [e10, e11, e12, e13]) _ _ _ _ _ _ := Has.assoc hs15
  obtain ⟨r22, h23, hx24⟩ := bnd_some hx5
  refine T_x (Wx_callL rfl (fun w1 hw1 => ratio_Num_Sign_ok r3 (Has.len' hs20) (Has.len' hs21) h23 w1 (okApp (K := K) (K2 := [e10, e11, e12, e13]) hK (by exact (SubE.cons2 (i := 6) rfl (SubE.nil))) (by exact (SubE.cons2 (i := 0) rfl (SubE.cons2 (i := 1) rfl (SubE.cons2 (i := 2) rfl (SubE.cons2 (i := 3) rfl (SubE.nil)))))) hw1)) rfl ?_)
  rintro _ _ hlo ⟨rfl, rfl, -⟩
  refine T_app0 ?_
  refine T_val (Ev_assign rfl) rfl ?_
  refine T_nil ?_
  refine T_next ?_
  refine T_retc ?_
  obtain rfl := Option.some.inj hx24
  exact T_retP (rs := [.tmp 4]) Try.results27 (.tmp rfl (.nil)) (Ln := []) ⟨rfl, rfl, trivial⟩ (loNil) (by exact .drop 0 rfl (.drop 0 rfl (.drop 0 rfl (.drop 0 rfl (.drop 0 rfl (.drop 0 rfl (.refl)))))))
set_option maxRecDepth 100000 in
theorem ratio_Int_ok (p0 : Int)  {r : S_ratio_Num} (hx : ratio_Int p0 = some r) (w : World) : CtL Try.prog 26 [.int .i64 (p0)] w fun v Ln => ∃ (A0 : Option Addr) (c0 : Nat) (A2 : Option Addr) (c2 : Nat) (e0 : Ent), v = .agg #[.bool (r.neg), .slice (A0) ((r.n).length) (c0), .slice (A2) ((r.d).length) (c2)] ∧ Ln = [.r A2 (r.d).length c2 27 1 ((r.d).flatMap e_u32), e0] ∧ Has ([e0] : List Ent) A0 (r.n).length c0 1 e_u32 (r.n) ∧ True := by
  refine CtL.mk 18 Try.func26 rfl Try.ntmps26 (by kernel_rfl) rfl ?_
  show T 18 _ [(0, .int .i64 (p0))] _
  unfold ratio_Int at hx
  refine T_seq ?_
  refine T_reg ?_
  refine T_x (Wx_alloc zer74 rfl (fun g1 => ?_))
  refine T_nil ?_
  refine T_next ?_
  refine T_seq ?_
  refine T_seq ?_
  refine T_reg ?_
  refine T_val (Ev_move rfl) rfl ?_
  refine T_val (Ev_lss rfl rfl) rfl ?_
  refine T_nil ?_
  refine T_next ?_
  refine T_caseP (s := 4) rfl (fun h2 => ?_) (fun h2 => ?_)
  · have hx3 := ite_t h2 hx
    refine T_condT rfl ?_
    refine T_seq ?_
    refine T_reg ?_
    refine T_val (Ev_move rfl) rfl ?_
    refine T_val (Ev_add_w64 rfl rfl) rfl ?_
    refine T_val (Ev_neg_w64 rfl) rfl ?_
    refine T_val (Ev_conv_wu64 rfl (by kernel_rfl) Try.underlying96) rfl ?_
    refine T_val (Ev_add_wu64 rfl rfl) rfl ?_
    obtain ⟨r4, h5, hx6⟩ := bnd_some hx3
    refine T_x (Wx_callL rfl (fun w1 hw1 => ratio_natOf_ok (wu64 ((wu64 (w64 (-(w64 (p0 + 1))))) + 1))  h5 w1) rfl ?_)
    rintro _ _ hlo ⟨A7, c8, e9, rfl, rfl, hs10, -⟩
    have lo11 := hlo e9 (by simp)
    refine T_app1 ?_
    refine T_x (Wx_buildSlice rfl (bls72_1_0u32 _) rfl (fun g12 => ?_))
    refine T_val (Ev_build rfl (bld74_0b1s2s _ _ _ _ _ _ _)) rfl ?_
    refine T_h (Wh_store rfl rfl rfl (.there (.there (.here))) (.put (.put (.put (.done)))) rfl (List.cons_ne_nil _ _) agg74.2 ?_)
    refine T_nil ?_
    refine T_next ?_
    refine T_retc ?_
    refine T_outR ?_
    refine T_mr (enc := e_u32) (sz := 1) ([1]) (.here) rfl rfl (fun _ => rfl) (by show 1 ≤ maxLen; decide) ?_
    have hn13 : 1 = ([1]).length := by simp [setI_len, cpy_len, List.length_append] <;> omega
    refine T_ent (.here) (e' := .r (some ⟨g12, 0, none⟩) (([1]).length) (1) 27 1 (([1]).flatMap e_u32)) (by first | (rw [← hn13]; done) | rfl) ?_
    refine T_ent (.there (.there (.here))) (e' := .m g1 74 [.bool (true), .slice (A7) ((r4).length) (c8), .slice (some ⟨g12, 0, none⟩) (([1]).length) (1)]) (by first | (rw [show (1) = ([1]).length from (by simp [setI_len, cpy_len, List.length_append] <;> omega)]; done) | rfl) ?_
    obtain rfl := Option.some.inj hx6
    exact T_retP (rs := [.cell 2 74]) Try.results26 (.cell rfl (i := 2) rfl rfl agg74 (.nil)) (Ln := [.r (some ⟨g12, 0, none⟩) (([1]).length) (1) 27 1 (([1]).flatMap e_u32), e9]) ⟨A7, c8, (some ⟨g12, 0, none⟩), 1, e9, rfl, rfl, Has.len' hs10, trivial⟩ (loCons rfl (loCons lo11 (loNil))) (by exact .pick 0 rfl (.pick 0 rfl (.drop 0 rfl (.refl))))
  · have hx14 := ite_f h2 hx
    refine T_condF rfl ?_
    refine T_skip ?_
    refine T_next ?_
    refine T_seq ?_
    refine T_reg ?_
    refine T_val (Ev_move rfl) rfl ?_
    refine T_val (Ev_conv_wu64 rfl (by kernel_rfl) Try.underlying96) rfl ?_
    obtain ⟨r15, h16, hx17⟩ := bnd_some hx14
    refine T_x (Wx_callL rfl (fun w1 hw1 => ratio_natOf_ok (wu64 (p0))  h16 w1) rfl ?_)
    rintro _ _ hlo ⟨A18, c19, e20, rfl, rfl, hs21, -⟩
    have lo22 := hlo e20 (by simp)
    refine T_app1 ?_
    refine T_x (Wx_buildSlice rfl (bls72_1_0u32 _) rfl (fun g23 => ?_))
    refine T_val (Ev_build rfl (bld74_0b1s2s _ _ _ _ _ _ _)) rfl ?_
    refine T_h (Wh_store rfl rfl rfl (.there (.there (.here))) (.put (.put (.put (.done)))) rfl (List.cons_ne_nil _ _) agg74.2 ?_)
    refine T_nil ?_
    refine T_next ?_
    refine T_retc ?_
    refine T_mr (enc := e_u32) (sz := 1) ([1]) (.here) rfl rfl (fun _ => rfl) (by show 1 ≤ maxLen; decide) ?_
    have hn24 : 1 = ([1]).length := by simp [setI_len, cpy_len, List.length_append] <;> omega
    refine T_ent (.here) (e' := .r (some ⟨g23, 0, none⟩) (([1]).length) (1) 27 1 (([1]).flatMap e_u32)) (by first | (rw [← hn24]; done) | rfl) ?_
    refine T_ent (.there (.there (.here))) (e' := .m g1 74 [.bool (false), .slice (A18) ((r15).length) (c19), .slice (some ⟨g23, 0, none⟩) (([1]).length) (1)]) (by first | (rw [show (1) = ([1]).length from (by simp [setI_len, cpy_len, List.length_append] <;> omega)]; done) | rfl) ?_
    obtain rfl := Option.some.inj hx17
    exact T_retP (rs := [.cell 2 74]) Try.results26 (.cell rfl (i := 2) rfl rfl agg74 (.nil)) (Ln := [.r (some ⟨g23, 0, none⟩) (([1]).length) (1) 27 1 (([1]).flatMap e_u32), e20]) ⟨A18, c19, (some ⟨g23, 0, none⟩), 1, e20, rfl, rfl, Has.len' hs21, trivial⟩ (loCons rfl (loCons lo22 (loNil))) (by exact .pick 0 rfl (.pick 0 rfl (.drop 0 rfl (.refl))))
set_option maxRecDepth 100000 in
theorem ratio_Num_Floor_ok (p0 : S_ratio_Num) {K : List Ent} {A0_0 : Option Addr} {c0_0 : Nat} {A0_1 : Option Addr} {c0_1 : Nat} (ha0 : Has K A0_0 (p0.n).length c0_0 1 e_u32 (p0.n)) (ha1 : Has K A0_1 (p0.d).length c0_1 1 e_u32 (p0.d)) {r : Int × Bool} (hx : ratio_Num_Floor p0 = some r) (w : World) (hK : ∀ e ∈ K, Ent.ok w e) : CtL Try.prog 53 [.agg #[.bool (p0.neg), .slice (A0_0) ((p0.n).length) (c0_0), .slice (A0_1) ((p0.d).length) (c0_1)]] w fun v Ln => v = .tuple #[.int .i64 (r.1), .bool (r.2)] ∧ Ln = [] ∧ True := by
  have ha0' := Has.up0 ha0
  have ha1' := Has.up0 ha1
  refine CtL.mk 50 Try.func53 rfl Try.ntmps53 (by kernel_rfl) rfl ?_
  show T 50 _ [(0, .agg #[.bool (p0.neg), .slice (A0_0) ((p0.n).length) (c0_0), .slice (A0_1) ((p0.d).length) (c0_1)])] _
  unfold ratio_Num_Floor at hx
  refine T_seq ?_
  refine T_reg ?_
  refine T_x (Wx_box rfl rfl rfl (fun g1 => ?_))
  refine T_val (Ev_assign rfl) rfl ?_
  refine T_val (Ev_assign rfl) rfl ?_
  refine T_nil ?_
  refine T_next ?_
  refine T_seq ?_
  refine T_reg ?_
  refine T_val (Ev_field rfl fld74_1 rfl) rfl ?_
  refine T_val (Ev_load1 rfl (i := 0) rfl rfl one72) rfl ?_
  refine T_val (Ev_field rfl fld74_2 rfl) rfl ?_
  refine T_val (Ev_load1 rfl (i := 0) rfl rfl one72) rfl ?_
  obtain ⟨r2, h3, hx4⟩ := bnd_some hx
  refine T_x (Wx_callL rfl (fun w1 hw1 => ratio_nat_div_ok p0.n p0.d (Has.len' ha0') (Has.len' ha1') h3 w1 (okApp (K := K) (K2 := []) hK (by exact (SubE.cons2 (i := 1) rfl (SubE.nil))) (by exact (SubE.nil)) hw1)) rfl ?_)
  rintro _ _ hlo ⟨A5, c6, A7, c8, e9, e10, rfl, rfl, hs11, hs12, -⟩
  have lo13 := hlo e9 (by simp)
  have lo14 := hlo e10 (by simp)
  refine T_app2 ?_
  have hs15 : Has (K ++ [e9, e10]) _ _ _ _ _ _ := Has.assoc hs11
  have hs16 : Has (K ++ [e9, e10]) _ _ _ _ _ _ := Has.assoc hs12
  refine T_val (Ev_move rfl) rfl ?_
  refine T_val (Ev_extract rfl rfl) rfl ?_
  refine T_val (Ev_extract rfl rfl) rfl ?_
  refine T_val (Ev_assign rfl) rfl ?_
  refine T_val (Ev_assign rfl) rfl ?_
  refine T_nil ?_
  refine T_next ?_
  obtain ⟨j3, hj3, hx4⟩ := jn_some hx4
  refine T_cutP (τ := List Int) (γ := (Option Addr) × Nat × Ent) (J := j3) (out := r) (fun s3 y3 => [(1, .pointer (some ⟨g1, 0, none⟩)), (4, .slice (y3.1) ((s3).length) (y3.2.1))]) (fun s3 y3 => [y3.2.2, e9, e10, .m g1 74 [.bool (p0.neg), .slice (A0_0) ((p0.n).length) (c0_0), .slice (A0_1) ((p0.d).length) (c0_1)]] ++ [.old w]) (fun s3 y3 => y3.2.2.low = 0 ∧ Has (K ++ [e9, e10, y3.2.2]) (y3.1) ((s3).length) (y3.2.1) 1 e_u32 (s3) ∧ True) ?_ ?_
  · intro s3 y3 hx36 hG37
    obtain ⟨lo38, hs39, -⟩ := hG37
    subst hj3
    refine T_seq ?_
    refine T_seq ?_
    refine T_reg ?_
    refine T_val (Ev_move rfl) rfl ?_
    obtain ⟨r40, h41, hx42⟩ := bnd_some hx36
    refine T_x (Wx_callL rfl (fun w1 hw1 => ratio_natOf_ok 4611686018427387904  h41 w1) rfl ?_)
    rintro _ _ hlo ⟨A43, c44, e45, rfl, rfl, hs46, -⟩
    have lo47 := hlo e45 (by simp)
    refine T_app1 ?_
    obtain ⟨r48, h49, hx50⟩ := bnd_some hx42
    refine T_x (Wx_callL rfl (fun w1 hw1 => ratio_nat_cmp_ok s3 r40 (Has.len' (Has.up (L := (K ++ [e9, e10, y3.2.2, e45])) hs39 (SubE.app2 (SubE.cons2 (i := 0) rfl (SubE.cons2 (i := 1) rfl (SubE.cons2 (i := 2) rfl (SubE.nil))))))) (Has.len' (Has.up (L := (K ++ [e9, e10, y3.2.2, e45])) hs46 (SubE.appR2 (SubE.cons2 (i := 3) rfl (SubE.nil))))) h49 w1 (okApp (K := K) (K2 := [e9, e10, y3.2.2, e45]) hK (by exact (SubE.cons2 (i := 5) rfl (SubE.nil))) (by exact (SubE.cons2 (i := 2) rfl (SubE.cons2 (i := 3) rfl (SubE.cons2 (i := 1) rfl (SubE.cons2 (i := 0) rfl (SubE.nil)))))) hw1)) rfl ?_)
    rintro _ _ hlo ⟨rfl, rfl, -⟩
    refine T_app0 ?_
    refine T_val (Ev_gtr rfl rfl) rfl ?_
    refine T_nil ?_
    refine T_next ?_
    refine T_caseP (s := 29) rfl (fun h51 => ?_) (fun h51 => ?_)
    · have hx52 := ite_t h51 hx50
      refine T_condT rfl ?_
      refine T_seq ?_
      refine T_reg ?_
      refine T_val (Ev_assign rfl) rfl ?_
      refine T_val (Ev_assign rfl) rfl ?_
      refine T_nil ?_
      refine T_next ?_
      refine T_retc ?_
      refine T_outR ?_
      obtain rfl := Option.some.inj hx52
      exact T_retP (rs := [.tmp 2, .tmp 3]) Try.results53 (.tmp rfl (.tmp rfl (.nil))) (Ln := []) ⟨rfl, rfl, trivial⟩ (loNil) (by exact .drop 0 rfl (.drop 0 rfl (.drop 0 rfl (.drop 0 rfl (.drop 0 rfl (.refl))))))
    · have hx53 := ite_f h51 hx50
      refine T_condF rfl ?_
      refine T_skip ?_
      refine T_next ?_
      refine T_seq ?_
      refine T_reg ?_
      refine T_val (Ev_assign rfl) rfl ?_
      refine T_nil ?_
      refine T_next ?_
      obtain ⟨j9, hj9, hx53⟩ := jn_some hx53
      refine T_cutP (τ := Int) (γ := Unit) (J := j9) (out := r) (fun s9 y9 => [(1, .pointer (some ⟨g1, 0, none⟩)), (6, .int .i64 (s9))]) (fun s9 y9 => [.m g1 74 [.bool (p0.neg), .slice (A0_0) ((p0.n).length) (c0_0), .slice (A0_1) ((p0.d).length) (c0_1)]] ++ [.old w]) (fun s9 y9 => True) ?_ ?_
      · intro s9 y9 hx84 hG85
        subst hj9
        obtain ⟨j17, hj17, hx84⟩ := jn_some hx84
        refine T_cutP (τ := Int) (γ := Unit) (J := j17) (out := r) (fun s17 y17 => [(6, .int .i64 (s17))]) (fun s17 y17 => [] ++ [.old w]) (fun s17 y17 => True) ?_ ?_
        · intro s17 y17 hx89 hG90
          subst hj17
          refine T_seq ?_
          refine T_reg ?_
          refine T_val (Ev_move rfl) rfl ?_
          refine T_val (Ev_assign rfl) rfl ?_
          refine T_val (Ev_assign rfl) rfl ?_
          refine T_nil ?_
          refine T_next ?_
          refine T_retc ?_
          obtain rfl := Option.some.inj hx89
          exact T_retP (rs := [.tmp 2, .tmp 3]) Try.results53 (.tmp rfl (.tmp rfl (.nil))) (Ln := []) ⟨rfl, rfl, trivial⟩ (loNil) (by exact .refl)
        · skip
          refine T_seq ?_
          refine T_reg ?_
          refine T_val (Ev_field rfl fld74_0 rfl) rfl ?_
          refine T_val (Ev_load1 rfl (i := 0) rfl rfl one4) rfl ?_
          refine T_nil ?_
          refine T_next ?_
          refine T_caseB (s := 46) rfl (fun h86 => ?_) (fun h86 => ?_)
          · have hx87 := ite_t h86 hx84
            refine T_condT rfl ?_
            refine T_reg ?_
            refine T_val (Ev_move rfl) rfl ?_
            refine T_val (Ev_neg_w64 rfl) rfl ?_
            refine T_val (Ev_assign rfl) rfl ?_
            refine T_nil ?_
            exact T_metP (w64 (-(s9))) () hx87 trivial (by exact .cons rfl (.nil)) (by exact .drop 0 rfl (.refl))
          · have hx88 := ite_bf h86 hx84
            refine T_condF rfl ?_
            refine T_skip ?_
            exact T_metP s9 () hx88 trivial (by exact .cons rfl (.nil)) (by exact .drop 0 rfl (.refl))
      · skip
        refine T_seq ?_
        refine T_reg ?_
        refine T_val (Ev_move rfl) rfl ?_
        refine T_val (Ev_len rfl 27 Try.underlying72) rfl ?_
        refine T_val (Ev_sub_w64 rfl rfl) rfl ?_
        refine T_val (Ev_assign rfl) rfl ?_
        refine T_nil ?_
        refine T_next ?_
        refine T_block ?_
        obtain ⟨t69, hl69, ho69⟩ := bnd_some hx53
        refine T_loopP (σ := Int × Int) (γ := Unit) hl69 (fun s69 y69 => [(1, .pointer (some ⟨g1, 0, none⟩)), (4, .slice (y3.1) ((s3).length) (y3.2.1)), (6, .int .i64 (s69.1)), (7, .int .i64 (s69.2))]) (fun s69 y69 => [y3.2.2, e9, e10, .m g1 74 [.bool (p0.neg), .slice (A0_0) ((p0.n).length) (c0_0), .slice (A0_1) ((p0.d).length) (c0_1)]] ++ [.old w]) (fun s69 y69 => True) () trivial (by exact .cons rfl (.cons rfl (.cons rfl (.cons rfl (.nil))))) (by exact .pick 1 rfl (.pick 1 rfl (.pick 1 rfl (.pick 1 rfl (.drop 0 rfl (.refl)))))) ?_
        intro s69 y69 hG69 x69 hx69 ht69
        unfold ratio_Num_Floor_l8 at hx69
        refine T_seq ?_
        refine T_seq ?_
        refine T_reg ?_
        refine T_val (Ev_move rfl) rfl ?_
        refine T_val (Ev_geq rfl rfl) rfl ?_
        refine T_nil ?_
        refine T_next ?_
        refine T_caseP (s := 34) rfl (fun h70 => ?_) (fun h70 => ?_)
        · have hx71 := ite_t h70 hx69
          refine T_condT rfl ?_
          refine T_skip ?_
          refine T_next ?_
          refine T_seq ?_
          refine T_block ?_
          refine T_reg ?_
          refine T_val (Ev_move rfl) rfl ?_
          refine T_val (Ev_shlW rfl rfl (by decide)) rfl ?_
          refine T_val (Ev_move rfl) rfl ?_
          refine T_val (Ev_move rfl) rfl ?_
          obtain ⟨x73, h74, hx75⟩ := bnd_some hx71
          have hw83 := Has.low (E := [e9, e10, y3.2.2]) hs39 hK
          obtain ⟨b76, o77, j78, hA79, hj80, hl81, hp82⟩ := Has.at_idx hw83 h74
          refine T_val (Ev_index rfl rfl hA79 (j := j78) hj80 hl81 slc72) rfl ?_
          refine T_val (Ev_loadP0 rfl hp82 (SubE.cons2 (i := 4) rfl (SubE.cons2 (i := 1) rfl (SubE.cons2 (i := 2) rfl (SubE.cons2 (i := 0) rfl (SubE.nil))))) rfl one27) rfl ?_
          refine T_val (Ev_conv_w64 rfl (by kernel_rfl) Try.underlying3) rfl ?_
          refine T_val (Ev_bitW_or rfl rfl) rfl ?_
          refine T_val (Ev_assign rfl) rfl ?_
          refine T_nil ?_
          refine T_inN ?_
          refine T_next ?_
          refine T_reg ?_
          refine T_val (Ev_move rfl) rfl ?_
          refine T_val (Ev_sub_w64 rfl rfl) rfl ?_
          refine T_val (Ev_assign rfl) rfl ?_
          refine T_nil ?_
          exact T_roundP (bit_or .i64 (shl_ .i64 s69.1 32) (w64 (x73)), w64 (s69.2 - 1)) () hx75 trivial (by exact .cons rfl (.cons rfl (.cons rfl (.cons rfl (.nil))))) (by exact .pick 0 rfl (.pick 0 rfl (.pick 0 rfl (.pick 0 rfl (.refl)))))
        · have hx72 := ite_f h70 hx69
          refine T_condF rfl ?_
          refine T_exit ?_
          refine T_outX ?_
          obtain rfl := exit_eq ht69 hx72
          refine T_outX ?_
          refine T_here ?_
          exact T_metP s69.1 () ho69 trivial (by exact .cons rfl (.cons rfl (.nil))) (by exact .pick 3 rfl (.drop 0 rfl (.drop 0 rfl (.drop 0 rfl (.refl)))))
  · skip
    obtain ⟨j4, hj4, hx4⟩ := jn_some hx4
    refine T_cutP (τ := Bool) (γ := Unit) (J := j4) (out := r) (fun s4 y4 => [(1, .pointer (some ⟨g1, 0, none⟩)), (4, .slice (A5) ((r2.1).length) (c6)), (22, .bool (s4))]) (fun s4 y4 => [e9, e10, .m g1 74 [.bool (p0.neg), .slice (A0_0) ((p0.n).length) (c0_0), .slice (A0_1) ((p0.d).length) (c0_1)]] ++ [.old w]) (fun s4 y4 => True) ?_ ?_
    · intro s4 y4 hx20 hG21
      subst hj4
      refine T_caseB (s := 22) rfl (fun h22 => ?_) (fun h22 => ?_)
      · have hx23 := ite_t h22 hx20
        refine T_condT rfl ?_
        refine T_reg ?_
        refine T_val (Ev_move rfl) rfl ?_
        refine T_x (Wx_buildSlice rfl (bls72_1_0u32 _) rfl (fun g24 => ?_))
        have hs25 : Has [.m g24 27 [.int .u32 (1)]] (some ⟨g24, 0, none⟩) 1 1 1 e_u32 [1] := Has.ofM (fun _ _ => rfl) rfl (by decide) rfl
        obtain ⟨r26, h27, hx28⟩ := bnd_some hx23
        refine T_x (Wx_callL rfl (fun w1 hw1 => ratio_nat_add_ok r2.1 ([1]) (Has.len' (Has.up (L := (K ++ [e9, e10, .m g24 27 [.int .u32 (1)]])) hs15 (SubE.app2 (SubE.cons2 (i := 0) rfl (SubE.cons2 (i := 1) rfl (SubE.nil)))))) (Has.len' (Has.up (L := (K ++ [e9, e10, .m g24 27 [.int .u32 (1)]])) hs25 (SubE.appR2 (SubE.cons2 (i := 2) rfl (SubE.nil))))) h27 w1 (okApp (K := K) (K2 := [e9, e10, .m g24 27 [.int .u32 (1)]]) hK (by exact (SubE.cons2 (i := 4) rfl (SubE.nil))) (by exact (SubE.cons2 (i := 1) rfl (SubE.cons2 (i := 2) rfl (SubE.cons2 (i := 0) rfl (SubE.nil))))) hw1)) rfl ?_)
        rintro _ _ hlo ⟨A29, c30, e31, rfl, rfl, hs32, -⟩
        have lo33 := hlo e31 (by simp)
        refine T_app1 ?_
        have hs34 : Has (K ++ [e9, e10, .m g24 27 [.int .u32 (1)], e31]) _ _ _ _ _ _ := Has.assoc hs32
        refine T_val (Ev_assign rfl) rfl ?_
        refine T_nil ?_
        refine T_bundle (es := [.m g24 27 [.int .u32 (1)], e31]) (by exact .pick 1 rfl (.pick 0 rfl (.refl))) (loCons rfl (loCons lo33 (loNil))) ?_
        exact T_metP r26 (A29, c30, bun [.m g24 27 [.int .u32 (1)], e31]) hx28 ((by exact ⟨rfl, Has.len' ((Has.up (L := (K ++ [e9, e10, (bun [.m g24 27 [.int .u32 (1)], e31])])) hs34 (SubE.app2 (SubE.cons2 (i := 0) rfl (SubE.cons2 (i := 1) rfl (SubE.consB (i := 2) (j := 0) rfl rfl (SubE.consB (i := 2) (j := 1) rfl rfl (SubE.nil)))))))), trivial⟩)) (by exact .cons rfl (.cons rfl (.nil))) (by exact .pick 0 rfl (.pick 0 rfl (.pick 0 rfl (.pick 0 rfl (.refl)))))
      · have hx35 := ite_bf h22 hx20
        refine T_condF rfl ?_
        refine T_skip ?_
        refine T_none 0 1 ?_
        exact T_metP r2.1 (A5, c6, .r none 0 0 0 1 []) hx35 ((by exact ⟨rfl, Has.len' ((Has.up (L := (K ++ [e9, e10, .r none 0 0 0 1 []])) hs15 (SubE.app2 (SubE.cons2 (i := 0) rfl (SubE.cons2 (i := 1) rfl (SubE.nil)))))), trivial⟩)) (by exact .cons rfl (.cons rfl (.nil))) (by exact .pick 0 rfl (.pick 0 rfl (.pick 0 rfl (.pick 0 rfl (.refl)))))
    · skip
      refine T_reg ?_
      refine T_val (Ev_field rfl fld74_0 rfl) rfl ?_
      refine T_val (Ev_load1 rfl (i := 2) rfl rfl one4) rfl ?_
      refine T_val (Ev_move rfl) rfl ?_
      refine T_caseB (s := 18) rfl (fun h17 => ?_) (fun h17 => ?_)
      · have hx18 := ite_t h17 hx4
        refine T_valG rfl rfl rfl (Ev_move rfl) rfl ?_
        refine T_valG rfl rfl rfl (Ev_len rfl 27 Try.underlying72) rfl ?_
        refine T_valG rfl rfl rfl (Ev_gtr rfl rfl) rfl ?_
        refine T_val (Ev_pickT rfl rfl) rfl ?_
        refine T_nil ?_
        exact T_metP (decide (0 < ((((r2.2).length : Nat) : Int)))) () hx18 trivial (by exact .cons rfl (.cons rfl (.cons rfl (.nil)))) (by exact .pick 0 rfl (.pick 0 rfl (.pick 0 rfl (.refl))))
      · have hx19 := ite_bf h17 hx4
        refine T_skipG rfl rfl rfl rfl rfl ?_
        refine T_skipG rfl rfl rfl rfl rfl ?_
        refine T_skipG rfl rfl rfl rfl rfl ?_
        refine T_val (Ev_pickF rfl rfl) rfl ?_
        refine T_nil ?_
        exact T_metP false () hx19 trivial (by exact .cons rfl (.cons rfl (.cons rfl (.nil)))) (by exact .pick 0 rfl (.pick 0 rfl (.pick 0 rfl (.refl))))
set_option maxRecDepth 100000 in
theorem exact_floor_ok (p0 : S_ratio_Num) {K : List Ent} {A0_0 : Option Addr} {c0_0 : Nat} {A0_1 : Option Addr} {c0_1 : Nat} (ha0 : Has K A0_0 (p0.n).length c0_0 1 e_u32 (p0.n)) (ha1 : Has K A0_1 (p0.d).length c0_1 1 e_u32 (p0.d)) {r : Int × Bool} (hx : exact_floor p0 = some r) (w : World) (hK : ∀ e ∈ K, Ent.ok w e) : CtL Try.prog 44 [.agg #[.bool (p0.neg), .slice (A0_0) ((p0.n).length) (c0_0), .slice (A0_1) ((p0.d).length) (c0_1)]] w fun v Ln => v = .tuple #[.int .i64 (r.1), .bool (r.2)] ∧ Ln = [] ∧ True := by
  have ha0' := Has.up0 ha0
  have ha1' := Has.up0 ha1
  refine CtL.mk 22 Try.func44 rfl Try.ntmps44 (by kernel_rfl) rfl ?_
  show T 22 _ [(0, .agg #[.bool (p0.neg), .slice (A0_0) ((p0.n).length) (c0_0), .slice (A0_1) ((p0.d).length) (c0_1)])] _
  unfold exact_floor at hx
  refine T_seq ?_
  refine T_reg ?_
  refine T_x (Wx_box rfl rfl rfl (fun g1 => ?_))
  refine T_val (Ev_assign rfl) rfl ?_
  refine T_val (Ev_assign rfl) rfl ?_
  refine T_nil ?_
  refine T_next ?_
  refine T_seq ?_
  refine T_reg ?_
  refine T_val (Ev_loadK rfl (i := 0) rfl rfl agg74) rfl ?_
  obtain ⟨r2, h3, hx4⟩ := bnd_some hx
  refine T_x (Wx_callL rfl (fun w1 hw1 => ratio_Num_Floor_ok p0 (Has.len' ha0') (Has.len' ha1') h3 w1 (okApp (K := K) (K2 := []) hK (by exact (SubE.cons2 (i := 1) rfl (SubE.nil))) (by exact (SubE.nil)) hw1)) rfl ?_)
  rintro _ _ hlo ⟨rfl, rfl, -⟩
  refine T_app0 ?_
  refine T_val (Ev_move rfl) rfl ?_
  refine T_val (Ev_extract rfl rfl) rfl ?_
  refine T_val (Ev_extract rfl rfl) rfl ?_
  refine T_val (Ev_assign rfl) rfl ?_
  refine T_val (Ev_assign rfl) rfl ?_
  refine T_nil ?_
  refine T_next ?_
  refine T_seq ?_
  obtain ⟨j4, hj4, hx4⟩ := jn_some hx4
  refine T_cutP (τ := Bool) (γ := Unit) (J := j4) (out := r) (fun s4 y4 => [(4, .int .i64 (r2.1)), (20, .bool (s4))]) (fun s4 y4 => [] ++ [.old w]) (fun s4 y4 => True) ?_ ?_
  · intro s4 y4 hx11 hG12
    subst hj4
    refine T_caseB (s := 20) rfl (fun h13 => ?_) (fun h13 => ?_)
    · have hx14 := ite_t h13 hx11
      refine T_condT rfl ?_
      refine T_seq ?_
      refine T_reg ?_
      refine T_val (Ev_assign rfl) rfl ?_
      refine T_val (Ev_assign rfl) rfl ?_
      refine T_nil ?_
      refine T_next ?_
      refine T_retc ?_
      refine T_outR ?_
      obtain rfl := Option.some.inj hx14
      exact T_retP (rs := [.tmp 2, .tmp 3]) Try.results44 (.tmp rfl (.tmp rfl (.nil))) (Ln := []) ⟨rfl, rfl, trivial⟩ (loNil) (by exact .refl)
    · have hx15 := ite_bf h13 hx11
      refine T_condF rfl ?_
      refine T_skip ?_
      refine T_next ?_
      refine T_seq ?_
      refine T_reg ?_
      refine T_val (Ev_move rfl) rfl ?_
      refine T_val (Ev_assign rfl) rfl ?_
      refine T_val (Ev_assign rfl) rfl ?_
      refine T_nil ?_
      refine T_next ?_
      refine T_retc ?_
      obtain rfl := Option.some.inj hx15
      exact T_retP (rs := [.tmp 2, .tmp 3]) Try.results44 (.tmp rfl (.tmp rfl (.nil))) (Ln := []) ⟨rfl, rfl, trivial⟩ (loNil) (by exact .refl)
  · skip
    refine T_reg ?_
    refine T_val (Ev_move rfl) rfl ?_
    refine T_val (Ev_not rfl) rfl ?_
    refine T_val (Ev_move rfl) rfl ?_
    refine T_caseNB (s := 13) rfl (fun h5 => ?_) (fun h5 => ?_)
    · have hx6 := ite_bf h5 hx4
      refine T_skipG rfl rfl rfl rfl rfl ?_
      refine T_skipG rfl rfl rfl rfl rfl ?_
      refine T_val (Ev_pickT rfl rfl) rfl ?_
      refine T_val (Ev_move rfl) rfl ?_
      refine T_skipG rfl rfl rfl rfl rfl ?_
      refine T_skipG rfl rfl rfl rfl rfl ?_
      refine T_val (Ev_pickT rfl rfl) rfl ?_
      refine T_nil ?_
      exact T_metP true () hx6 trivial (by exact .cons rfl (.cons rfl (.nil))) (by exact .drop 0 rfl (.refl))
    · have hx7 := ite_t h5 hx4
      refine T_valG rfl rfl rfl (Ev_move rfl) rfl ?_
      refine T_valG rfl rfl rfl (Ev_lss rfl rfl) rfl ?_
      refine T_val (Ev_pickF rfl rfl) rfl ?_
      refine T_val (Ev_move rfl) rfl ?_
      refine T_caseP (s := 17) rfl (fun h8 => ?_) (fun h8 => ?_)
      · have hx9 := ite_t h8 hx7
        refine T_skipG rfl rfl rfl rfl rfl ?_
        refine T_skipG rfl rfl rfl rfl rfl ?_
        refine T_val (Ev_pickT rfl rfl) rfl ?_
        refine T_nil ?_
        exact T_metP true () hx9 trivial (by exact .cons rfl (.cons rfl (.nil))) (by exact .drop 0 rfl (.refl))
      · have hx10 := ite_f h8 hx7
        refine T_valG rfl rfl rfl (Ev_move rfl) rfl ?_
        refine T_valG rfl rfl rfl (Ev_gtr rfl rfl) rfl ?_
        refine T_val (Ev_pickF rfl rfl) rfl ?_
        refine T_nil ?_
        exact T_metP (decide (1152921504606846976 < r2.1)) () hx10 trivial (by exact .cons rfl (.cons rfl (.nil))) (by exact .drop 0 rfl (.refl))
set_option maxRecDepth 100000 in
theorem exact_Floor_ok (p0 : S_api_Rat) {K : List Ent} {A0_0 : Option Addr} {c0_0 : Nat} {A0_1 : Option Addr} {c0_1 : Nat} (ha0 : Has K A0_0 (p0.Num).length c0_0 1 e_u32 (p0.Num)) (ha1 : Has K A0_1 (p0.Den).length c0_1 1 e_u32 (p0.Den)) {r : Int × Int} (hx : exact_Floor p0 = some r) (w : World) (hK : ∀ e ∈ K, Ent.ok w e) : CtL Try.prog 29 [.agg #[.bool (p0.Neg), .slice (A0_0) ((p0.Num).length) (c0_0), .slice (A0_1) ((p0.Den).length) (c0_1)]] w fun v Ln => v = .tuple #[.int .i64 (r.1), .int .i64 (r.2)] ∧ Ln = [] ∧ True := by
  have ha0' := Has.up0 ha0
  have ha1' := Has.up0 ha1
  refine CtL.mk 18 Try.func29 rfl Try.ntmps29 (by kernel_rfl) rfl ?_
  show T 18 _ [(0, .agg #[.bool (p0.Neg), .slice (A0_0) ((p0.Num).length) (c0_0), .slice (A0_1) ((p0.Den).length) (c0_1)])] _
  unfold exact_Floor at hx
  refine T_seq ?_
  refine T_reg ?_
  refine T_x (Wx_box rfl rfl rfl (fun g1 => ?_))
  refine T_val (Ev_assign rfl) rfl ?_
  refine T_val (Ev_assign rfl) rfl ?_
  refine T_nil ?_
  refine T_next ?_
  refine T_seq ?_
  refine T_seq ?_
  refine T_reg ?_
  refine T_val (Ev_loadK rfl (i := 0) rfl rfl agg51) rfl ?_
  refine T_x (Wx_buildSlice rfl (bls90_1_0abss _ _ _ _ _ _ _) rfl (fun g2 => ?_))
  have hs3 : HasN (K ++ [.m g2 51 [.bool (p0.Neg), .slice (A0_0) ((p0.Num).length) (c0_0), .slice (A0_1) ((p0.Den).length) (c0_1)]]) (some ⟨g2, 0, none⟩) 1 1 3 n_api_Rat [p0] := ⟨[[.bool (p0.Neg), .slice (A0_0) ((p0.Num).length) (c0_0), .slice (A0_1) ((p0.Den).length) (c0_1)]], Has.up (L := (K ++ [.m g2 51 [.bool (p0.Neg), .slice (A0_0) ((p0.Num).length) (c0_0), .slice (A0_1) ((p0.Den).length) (c0_1)]])) (Has.ofM (fun x hx => by simp at hx; rcases hx with rfl <;> rfl) rfl (by decide) rfl : Has [.m g2 51 [.bool (p0.Neg), .slice (A0_0) ((p0.Num).length) (c0_0), .slice (A0_1) ((p0.Den).length) (c0_1)]] (some ⟨g2, 0, none⟩) 1 1 3 raw [[.bool (p0.Neg), .slice (A0_0) ((p0.Num).length) (c0_0), .slice (A0_1) ((p0.Den).length) (c0_1)]]) (SubE.appR2 (SubE.cons2 (i := 0) rfl (SubE.nil))), rfl, fun i h h' => match i, h, h' with | 0, _, _ => ⟨A0_0, c0_0, A0_1, c0_1, rfl, Has.len' (Has.up (L := (K ++ [.m g2 51 [.bool (p0.Neg), .slice (A0_0) ((p0.Num).length) (c0_0), .slice (A0_1) ((p0.Den).length) (c0_1)]])) ha0' (SubE.app2 SubE.nil)), Has.len' (Has.up (L := (K ++ [.m g2 51 [.bool (p0.Neg), .slice (A0_0) ((p0.Num).length) (c0_0), .slice (A0_1) ((p0.Den).length) (c0_1)]])) ha1' (SubE.app2 SubE.nil))⟩ | j + 1, h, _ => absurd h (by simp)⟩
  obtain ⟨r4, h5, hx6⟩ := bnd_some hx
  refine T_x (Wx_callL rfl (fun w1 hw1 => exact_anyLarge_ok ([p0]) (HasN.len' hs3) h5 w1 (okApp (K := K) (K2 := [.m g2 51 [.bool (p0.Neg), .slice (A0_0) ((p0.Num).length) (c0_0), .slice (A0_1) ((p0.Den).length) (c0_1)]]) hK (by exact (SubE.cons2 (i := 2) rfl (SubE.nil))) (by exact (SubE.cons2 (i := 0) rfl (SubE.nil))) hw1)) rfl ?_)
  rintro _ _ hlo ⟨rfl, rfl, -⟩
  refine T_app0 ?_
  refine T_nil ?_
  refine T_next ?_
  refine T_caseB (s := 8) rfl (fun h7 => ?_) (fun h7 => ?_)
  · have hx8 := ite_t h7 hx6
    refine T_condT rfl ?_
    refine T_seq ?_
    refine T_reg ?_
    refine T_val (Ev_assign rfl) rfl ?_
    refine T_val (Ev_assign rfl) rfl ?_
    refine T_nil ?_
    refine T_next ?_
    refine T_retc ?_
    refine T_outR ?_
    obtain rfl := Option.some.inj hx8
    exact T_retP (rs := [.tmp 2, .tmp 3]) Try.results29 (.tmp rfl (.tmp rfl (.nil))) (Ln := []) ⟨rfl, rfl, trivial⟩ (loNil) (by exact .drop 0 rfl (.drop 0 rfl (.refl)))
  · have hx9 := ite_bf h7 hx6
    refine T_condF rfl ?_
    refine T_skip ?_
    refine T_next ?_
    refine T_seq ?_
    refine T_reg ?_
    refine T_val (Ev_loadK rfl (i := 1) rfl rfl agg51) rfl ?_
    obtain ⟨r10, h11, hx12⟩ := bnd_some hx9
    refine T_x (Wx_callL rfl (fun w1 hw1 => ratio_Of_ok p0 (Has.len' ha0') (Has.len' ha1') h11 w1 (okApp (K := K) (K2 := []) hK (by exact (SubE.cons2 (i := 2) rfl (SubE.nil))) (by exact (SubE.nil)) hw1)) rfl ?_)
    rintro _ _ hlo ⟨A13, c14, A15, c16, e17, e18, e19, e20, e21, e22, rfl, rfl, hs23, hs24, -⟩
    have lo25 := hlo e17 (by simp)
    have lo26 := hlo e18 (by simp)
    have lo27 := hlo e19 (by simp)
    have lo28 := hlo e20 (by simp)
    have lo29 := hlo e21 (by simp)
    have lo30 := hlo e22 (by simp)
    refine T_app6 ?_
    have hs31 : Has (K ++ [e17, e18, e19, e20, e21, e22]) _ _ _ _ _ _ := Has.assoc hs23
    have hs32 : Has (K ++ [e17, e18, e19, e20, e21, e22]) _ _ _ _ _ _ := Has.assoc hs24
    obtain ⟨r33, h34, hx35⟩ := bnd_some hx12
    refine T_x (Wx_callL rfl (fun w1 hw1 => exact_floor_ok r10 (Has.len' hs31) (Has.len' hs32) h34 w1 (okApp (K := K) (K2 := [e17, e18, e19, e20, e21, e22]) hK (by exact (SubE.cons2 (i := 8) rfl (SubE.nil))) (by exact (SubE.cons2 (i := 0) rfl (SubE.cons2 (i := 1) rfl (SubE.cons2 (i := 2) rfl (SubE.cons2 (i := 3) rfl (SubE.cons2 (i := 4) rfl (SubE.cons2 (i := 5) rfl (SubE.nil)))))))) hw1)) rfl ?_)
    rintro _ _ hlo ⟨rfl, rfl, -⟩
    refine T_app0 ?_
    refine T_val (Ev_move rfl) rfl ?_
    refine T_val (Ev_extract rfl rfl) rfl ?_
    refine T_val (Ev_extract rfl rfl) rfl ?_
    refine T_val (Ev_assign rfl) rfl ?_
    refine T_val (Ev_assign rfl) rfl ?_
    refine T_nil ?_
    refine T_next ?_
    refine T_seq ?_
    refine T_seq ?_
    refine T_reg ?_
    refine T_val (Ev_move rfl) rfl ?_
    refine T_val (Ev_not rfl) rfl ?_
    refine T_nil ?_
    refine T_next ?_
    refine T_caseNB (s := 16) rfl (fun h36 => ?_) (fun h36 => ?_)
    · have hx37 := ite_bf h36 hx35
      refine T_condT rfl ?_
      refine T_seq ?_
      refine T_reg ?_
      refine T_val (Ev_assign rfl) rfl ?_
      refine T_val (Ev_assign rfl) rfl ?_
      refine T_nil ?_
      refine T_next ?_
      refine T_retc ?_
      refine T_outR ?_
      obtain rfl := Option.some.inj hx37
      exact T_retP (rs := [.tmp 2, .tmp 3]) Try.results29 (.tmp rfl (.tmp rfl (.nil))) (Ln := []) ⟨rfl, rfl, trivial⟩ (loNil) (by exact .drop 0 rfl (.drop 0 rfl (.drop 0 rfl (.drop 0 rfl (.drop 0 rfl (.drop 0 rfl (.drop 0 rfl (.drop 0 rfl (.refl)))))))))
    · have hx38 := ite_t h36 hx35
      refine T_condF rfl ?_
      refine T_skip ?_
      refine T_next ?_
      refine T_seq ?_
      refine T_reg ?_
      refine T_val (Ev_move rfl) rfl ?_
      refine T_val (Ev_assign rfl) rfl ?_
      refine T_val (Ev_assign rfl) rfl ?_
      refine T_nil ?_
      refine T_next ?_
      refine T_retc ?_
      obtain rfl := Option.some.inj hx38
      exact T_retP (rs := [.tmp 2, .tmp 3]) Try.results29 (.tmp rfl (.tmp rfl (.nil))) (Ln := []) ⟨rfl, rfl, trivial⟩ (loNil) (by exact .drop 0 rfl (.drop 0 rfl (.drop 0 rfl (.drop 0 rfl (.drop 0 rfl (.drop 0 rfl (.drop 0 rfl (.drop 0 rfl (.refl)))))))))
set_option maxRecDepth 100000 in
theorem exact_Ceil_ok (p0 : S_api_Rat) {K : List Ent} {A0_0 : Option Addr} {c0_0 : Nat} {A0_1 : Option Addr} {c0_1 : Nat} (ha0 : Has K A0_0 (p0.Num).length c0_0 1 e_u32 (p0.Num)) (ha1 : Has K A0_1 (p0.Den).length c0_1 1 e_u32 (p0.Den)) {r : Int × Int} (hx : exact_Ceil p0 = some r) (w : World) (hK : ∀ e ∈ K, Ent.ok w e) : CtL Try.prog 30 [.agg #[.bool (p0.Neg), .slice (A0_0) ((p0.Num).length) (c0_0), .slice (A0_1) ((p0.Den).length) (c0_1)]] w fun v Ln => v = .tuple #[.int .i64 (r.1), .int .i64 (r.2)] ∧ Ln = [] ∧ True := by
  have ha0' := Has.up0 ha0
  have ha1' := Has.up0 ha1
  refine CtL.mk 20 Try.func30 rfl Try.ntmps30 (by kernel_rfl) rfl ?_
  show T 20 _ [(0, .agg #[.bool (p0.Neg), .slice (A0_0) ((p0.Num).length) (c0_0), .slice (A0_1) ((p0.Den).length) (c0_1)])] _
  unfold exact_Ceil at hx
  refine T_seq ?_
  refine T_reg ?_
  refine T_x (Wx_box rfl rfl rfl (fun g1 => ?_))
  refine T_val (Ev_assign rfl) rfl ?_
  refine T_val (Ev_assign rfl) rfl ?_
  refine T_nil ?_
  refine T_next ?_
  refine T_seq ?_
  refine T_seq ?_
  refine T_reg ?_
  refine T_val (Ev_loadK rfl (i := 0) rfl rfl agg51) rfl ?_
  refine T_x (Wx_buildSlice rfl (bls90_1_0abss _ _ _ _ _ _ _) rfl (fun g2 => ?_))
  have hs3 : HasN (K ++ [.m g2 51 [.bool (p0.Neg), .slice (A0_0) ((p0.Num).length) (c0_0), .slice (A0_1) ((p0.Den).length) (c0_1)]]) (some ⟨g2, 0, none⟩) 1 1 3 n_api_Rat [p0] := ⟨[[.bool (p0.Neg), .slice (A0_0) ((p0.Num).length) (c0_0), .slice (A0_1) ((p0.Den).length) (c0_1)]], Has.up (L := (K ++ [.m g2 51 [.bool (p0.Neg), .slice (A0_0) ((p0.Num).length) (c0_0), .slice (A0_1) ((p0.Den).length) (c0_1)]])) (Has.ofM (fun x hx => by simp at hx; rcases hx with rfl <;> rfl) rfl (by decide) rfl : Has [.m g2 51 [.bool (p0.Neg), .slice (A0_0) ((p0.Num).length) (c0_0), .slice (A0_1) ((p0.Den).length) (c0_1)]] (some ⟨g2, 0, none⟩) 1 1 3 raw [[.bool (p0.Neg), .slice (A0_0) ((p0.Num).length) (c0_0), .slice (A0_1) ((p0.Den).length) (c0_1)]]) (SubE.appR2 (SubE.cons2 (i := 0) rfl (SubE.nil))), rfl, fun i h h' => match i, h, h' with | 0, _, _ => ⟨A0_0, c0_0, A0_1, c0_1, rfl, Has.len' (Has.up (L := (K ++ [.m g2 51 [.bool (p0.Neg), .slice (A0_0) ((p0.Num).length) (c0_0), .slice (A0_1) ((p0.Den).length) (c0_1)]])) ha0' (SubE.app2 SubE.nil)), Has.len' (Has.up (L := (K ++ [.m g2 51 [.bool (p0.Neg), .slice (A0_0) ((p0.Num).length) (c0_0), .slice (A0_1) ((p0.Den).length) (c0_1)]])) ha1' (SubE.app2 SubE.nil))⟩ | j + 1, h, _ => absurd h (by simp)⟩
  obtain ⟨r4, h5, hx6⟩ := bnd_some hx
  refine T_x (Wx_callL rfl (fun w1 hw1 => exact_anyLarge_ok ([p0]) (HasN.len' hs3) h5 w1 (okApp (K := K) (K2 := [.m g2 51 [.bool (p0.Neg), .slice (A0_0) ((p0.Num).length) (c0_0), .slice (A0_1) ((p0.Den).length) (c0_1)]]) hK (by exact (SubE.cons2 (i := 2) rfl (SubE.nil))) (by exact (SubE.cons2 (i := 0) rfl (SubE.nil))) hw1)) rfl ?_)
  rintro _ _ hlo ⟨rfl, rfl, -⟩
  refine T_app0 ?_
  refine T_nil ?_
  refine T_next ?_
  refine T_caseB (s := 8) rfl (fun h7 => ?_) (fun h7 => ?_)
  · have hx8 := ite_t h7 hx6
    refine T_condT rfl ?_
    refine T_seq ?_
    refine T_reg ?_
    refine T_val (Ev_assign rfl) rfl ?_
    refine T_val (Ev_assign rfl) rfl ?_
    refine T_nil ?_
    refine T_next ?_
    refine T_retc ?_
    refine T_outR ?_
    obtain rfl := Option.some.inj hx8
    exact T_retP (rs := [.tmp 2, .tmp 3]) Try.results30 (.tmp rfl (.tmp rfl (.nil))) (Ln := []) ⟨rfl, rfl, trivial⟩ (loNil) (by exact .drop 0 rfl (.drop 0 rfl (.refl)))
  · have hx9 := ite_bf h7 hx6
    refine T_condF rfl ?_
    refine T_skip ?_
    refine T_next ?_
    refine T_seq ?_
    refine T_reg ?_
    refine T_val (Ev_loadK rfl (i := 1) rfl rfl agg51) rfl ?_
    obtain ⟨r10, h11, hx12⟩ := bnd_some hx9
    refine T_x (Wx_callL rfl (fun w1 hw1 => ratio_Of_ok p0 (Has.len' ha0') (Has.len' ha1') h11 w1 (okApp (K := K) (K2 := []) hK (by exact (SubE.cons2 (i := 2) rfl (SubE.nil))) (by exact (SubE.nil)) hw1)) rfl ?_)
    rintro _ _ hlo ⟨A13, c14, A15, c16, e17, e18, e19, e20, e21, e22, rfl, rfl, hs23, hs24, -⟩
    have lo25 := hlo e17 (by simp)
    have lo26 := hlo e18 (by simp)
    have lo27 := hlo e19 (by simp)
    have lo28 := hlo e20 (by simp)
    have lo29 := hlo e21 (by simp)
    have lo30 := hlo e22 (by simp)
    refine T_app6 ?_
    have hs31 : Has (K ++ [e17, e18, e19, e20, e21, e22]) _ _ _ _ _ _ := Has.assoc hs23
    have hs32 : Has (K ++ [e17, e18, e19, e20, e21, e22]) _ _ _ _ _ _ := Has.assoc hs24
    obtain ⟨r33, h34, hx35⟩ := bnd_some hx12
    refine T_x (Wx_callL rfl (fun w1 hw1 => ratio_Num_Neg_ok r10 (Has.len' hs31) (Has.len' hs32) h34 w1 (okApp (K := K) (K2 := [e17, e18, e19, e20, e21, e22]) hK (by exact (SubE.cons2 (i := 8) rfl (SubE.nil))) (by exact (SubE.cons2 (i := 0) rfl (SubE.cons2 (i := 1) rfl (SubE.cons2 (i := 2) rfl (SubE.cons2 (i := 3) rfl (SubE.cons2 (i := 4) rfl (SubE.cons2 (i := 5) rfl (SubE.nil)))))))) hw1)) rfl ?_)
    rintro _ _ hlo ⟨rfl, rfl, hs36, hs37, -⟩
    refine T_app0 ?_
    obtain ⟨r38, h39, hx40⟩ := bnd_some hx35
    refine T_x (Wx_callL rfl (fun w1 hw1 => exact_floor_ok r33 (Has.len' hs36) (Has.len' hs37) h39 w1 (okApp (K := K) (K2 := [e17, e18, e19, e20, e21, e22]) hK (by exact (SubE.cons2 (i := 8) rfl (SubE.nil))) (by exact (SubE.cons2 (i := 0) rfl (SubE.cons2 (i := 1) rfl (SubE.cons2 (i := 2) rfl (SubE.cons2 (i := 3) rfl (SubE.cons2 (i := 4) rfl (SubE.cons2 (i := 5) rfl (SubE.nil)))))))) hw1)) rfl ?_)
    rintro _ _ hlo ⟨rfl, rfl, -⟩
    refine T_app0 ?_
    refine T_val (Ev_move rfl) rfl ?_
    refine T_val (Ev_extract rfl rfl) rfl ?_
    refine T_val (Ev_extract rfl rfl) rfl ?_
    refine T_val (Ev_assign rfl) rfl ?_
    refine T_val (Ev_assign rfl) rfl ?_
    refine T_nil ?_
    refine T_next ?_
    refine T_seq ?_
    refine T_seq ?_
    refine T_reg ?_
    refine T_val (Ev_move rfl) rfl ?_
    refine T_val (Ev_not rfl) rfl ?_
    refine T_nil ?_
    refine T_next ?_
    refine T_caseNB (s := 17) rfl (fun h41 => ?_) (fun h41 => ?_)
    · have hx42 := ite_bf h41 hx40
      refine T_condT rfl ?_
      refine T_seq ?_
      refine T_reg ?_
      refine T_val (Ev_assign rfl) rfl ?_
      refine T_val (Ev_assign rfl) rfl ?_
      refine T_nil ?_
      refine T_next ?_
      refine T_retc ?_
      refine T_outR ?_
      obtain rfl := Option.some.inj hx42
      exact T_retP (rs := [.tmp 2, .tmp 3]) Try.results30 (.tmp rfl (.tmp rfl (.nil))) (Ln := []) ⟨rfl, rfl, trivial⟩ (loNil) (by exact .drop 0 rfl (.drop 0 rfl (.drop 0 rfl (.drop 0 rfl (.drop 0 rfl (.drop 0 rfl (.drop 0 rfl (.drop 0 rfl (.refl)))))))))
    · have hx43 := ite_t h41 hx40
      refine T_condF rfl ?_
      refine T_skip ?_
      refine T_next ?_
      refine T_seq ?_
      refine T_reg ?_
      refine T_val (Ev_move rfl) rfl ?_
      refine T_val (Ev_neg_w64 rfl) rfl ?_
      refine T_val (Ev_assign rfl) rfl ?_
      refine T_val (Ev_assign rfl) rfl ?_
      refine T_nil ?_
      refine T_next ?_
      refine T_retc ?_
      obtain rfl := Option.some.inj hx43
      exact T_retP (rs := [.tmp 2, .tmp 3]) Try.results30 (.tmp rfl (.tmp rfl (.nil))) (Ln := []) ⟨rfl, rfl, trivial⟩ (loNil) (by exact .drop 0 rfl (.drop 0 rfl (.drop 0 rfl (.drop 0 rfl (.drop 0 rfl (.drop 0 rfl (.drop 0 rfl (.drop 0 rfl (.refl)))))))))
set_option maxRecDepth 100000 in
theorem exact_FromInt_ok (p0 : Int)  {r : S_api_Rat} (hx : exact_FromInt p0 = some r) (w : World) : CtL Try.prog 11 [.int .i64 (p0)] w fun v Ln => ∃ (A0 : Option Addr) (c0 : Nat) (A2 : Option Addr) (c2 : Nat), v = .agg #[.bool (r.Neg), .slice (A0) ((r.Num).length) (c0), .slice (A2) ((r.Den).length) (c2)] ∧ Ln = [.r A0 (r.Num).length c0 27 1 ((r.Num).flatMap e_u32), .r A2 (r.Den).length c2 27 1 ((r.Den).flatMap e_u32)] ∧ True := by
  refine CtL.mk 12 Try.func11 rfl Try.ntmps11 (by kernel_rfl) rfl ?_
  show T 12 _ [(0, .int .i64 (p0))] _
  unfold exact_FromInt at hx
  refine T_seq ?_
  refine T_reg ?_
  refine T_x (Wx_alloc zer51 rfl (fun g1 => ?_))
  refine T_nil ?_
  refine T_next ?_
  refine T_seq ?_
  refine T_reg ?_
  refine T_val (Ev_move rfl) rfl ?_
  obtain ⟨r2, h3, hx4⟩ := bnd_some hx
  refine T_x (Wx_callL rfl (fun w1 hw1 => ratio_Int_ok p0  h3 w1) rfl ?_)
  rintro _ _ hlo ⟨A5, c6, A7, c8, e9, rfl, rfl, hs10, -⟩
  have lo11 := hlo e9 (by simp)
  refine T_app2 ?_
  refine T_rowP (k := 0) rfl (by decide) (fun _ => rfl) (fun hn12 hs13 => ?_)
  obtain ⟨r14, h15, hx16⟩ := bnd_some hx4
  refine T_x (Wx_callL rfl (fun w1 hw1 => ratio_Num_Done_ok r2 (Has.len' (Has.up (L := ([e9, .r (A7) ((r2.d).length) (c8) 27 1 ((r2.d).flatMap e_u32)] : List Ent)) hs10 (SubE.cons2 (i := 0) rfl (SubE.nil)))) (Has.len' (Has.up (L := ([e9, .r (A7) ((r2.d).length) (c8) 27 1 ((r2.d).flatMap e_u32)] : List Ent)) hs13 (SubE.cons2 (i := 1) rfl (SubE.nil)))) h15 w1 (okAll (K := ([e9, .r (A7) ((r2.d).length) (c8) 27 1 ((r2.d).flatMap e_u32)] : List Ent)) (by exact (SubE.cons2 (i := 1) rfl (SubE.cons2 (i := 0) rfl (SubE.nil)))) hw1)) rfl ?_)
  rintro _ _ hlo ⟨A17, c18, A19, c20, rfl, rfl, -⟩
  refine T_app2 ?_
  refine T_val (Ev_move rfl) rfl ?_
  refine T_val (Ev_extract rfl rfl) rfl ?_
  refine T_val (Ev_extract rfl rfl) rfl ?_
  refine T_x (Wx_alloc zer51 rfl (fun g21 => ?_))
  refine T_h (Wh_store rfl rfl rfl (.here) (.put (.put (.put (.done)))) rfl (List.cons_ne_nil _ _) agg51.2 ?_)
  refine T_val (Ev_assign rfl) rfl ?_
  refine T_nil ?_
  refine T_next ?_
  refine T_seq ?_
  refine T_reg ?_
  refine T_val (Ev_loadK rfl (i := 0) rfl rfl agg51) rfl ?_
  refine T_h (Wh_store rfl rfl rfl (.there (.there (.there (.there (.there (.here)))))) (.put (.put (.put (.done)))) rfl (List.cons_ne_nil _ _) agg51.2 ?_)
  refine T_nil ?_
  refine T_next ?_
  refine T_retc ?_
  obtain rfl := Option.some.inj hx16
  exact T_retP (rs := [.cell 2 51]) Try.results11 (.cell rfl (i := 5) rfl rfl agg51 (.nil)) (Ln := [.r (A17) ((r14.1.Num).length) (c18) 27 1 ((r14.1.Num).flatMap e_u32), .r (A19) ((r14.1.Den).length) (c20) 27 1 ((r14.1.Den).flatMap e_u32)]) ⟨A17, c18, A19, c20, rfl, rfl, trivial⟩ (loCons rfl (loCons rfl (loNil))) (by exact .pick 1 rfl (.pick 1 rfl (.drop 0 rfl (.drop 0 rfl (.drop 0 rfl (.drop 0 rfl (.refl)))))))
set_option maxRecDepth 100000 in
theorem exact_Mul_ok (p0 : S_api_Rat) (p1 : S_api_Rat) {K : List Ent} {A0_0 : Option Addr} {c0_0 : Nat} {A0_1 : Option Addr} {c0_1 : Nat} {A0_2 : Option Addr} {c0_2 : Nat} {A0_3 : Option Addr} {c0_3 : Nat} (ha0 : Has K A0_0 (p0.Num).length c0_0 1 e_u32 (p0.Num)) (ha1 : Has K A0_1 (p0.Den).length c0_1 1 e_u32 (p0.Den)) (ha2 : Has K A0_2 (p1.Num).length c0_2 1 e_u32 (p1.Num)) (ha3 : Has K A0_3 (p1.Den).length c0_3 1 e_u32 (p1.Den)) {r : S_api_Rat × Int} (hx : exact_Mul p0 p1 = some r) (w : World) (hK : ∀ e ∈ K, Ent.ok w e) : CtL Try.prog 10 [.agg #[.bool (p0.Neg), .slice (A0_0) ((p0.Num).length) (c0_0), .slice (A0_1) ((p0.Den).length) (c0_1)], .agg #[.bool (p1.Neg), .slice (A0_2) ((p1.Num).length) (c0_2), .slice (A0_3) ((p1.Den).length) (c0_3)]] w fun v Ln => ∃ (A0 : Option Addr) (c0 : Nat) (A2 : Option Addr) (c2 : Nat), v = .tuple #[.agg #[.bool (r.1.Neg), .slice (A0) ((r.1.Num).length) (c0), .slice (A2) ((r.1.Den).length) (c2)], .int .i64 (r.2)] ∧ Ln = [.r A0 (r.1.Num).length c0 27 1 ((r.1.Num).flatMap e_u32), .r A2 (r.1.Den).length c2 27 1 ((r.1.Den).flatMap e_u32)] ∧ True := by
  have ha0' := Has.up0 ha0
  have ha1' := Has.up0 ha1
  have ha2' := Has.up0 ha2
  have ha3' := Has.up0 ha3
  refine CtL.mk 19 Try.func10 rfl Try.ntmps10 (by kernel_rfl) rfl ?_
  show T 19 _ [(0, .agg #[.bool (p0.Neg), .slice (A0_0) ((p0.Num).length) (c0_0), .slice (A0_1) ((p0.Den).length) (c0_1)]), (1, .agg #[.bool (p1.Neg), .slice (A0_2) ((p1.Num).length) (c0_2), .slice (A0_3) ((p1.Den).length) (c0_3)])] _
  unfold exact_Mul at hx
  refine T_seq ?_
  refine T_reg ?_
  refine T_x (Wx_box rfl rfl rfl (fun g1 => ?_))
  refine T_x (Wx_box rfl rfl rfl (fun g2 => ?_))
  refine T_x (Wx_alloc zer51 rfl (fun g3 => ?_))
  refine T_val (Ev_assign rfl) rfl ?_
  refine T_nil ?_
  refine T_next ?_
  refine T_seq ?_
  refine T_seq ?_
  refine T_reg ?_
  refine T_val (Ev_loadK rfl (i := 2) rfl rfl agg51) rfl ?_
  refine T_val (Ev_loadK rfl (i := 1) rfl rfl agg51) rfl ?_
  refine T_x (Wx_buildSlice rfl (bls90_2_0abss1abss _ _ _ _ _ _ _ _ _ _ _ _ _ _) rfl (fun g4 => ?_))
  have hs5 : HasN (K ++ [.m g4 51 [.bool (p0.Neg), .slice (A0_0) ((p0.Num).length) (c0_0), .slice (A0_1) ((p0.Den).length) (c0_1), .bool (p1.Neg), .slice (A0_2) ((p1.Num).length) (c0_2), .slice (A0_3) ((p1.Den).length) (c0_3)]]) (some ⟨g4, 0, none⟩) 2 2 3 n_api_Rat [p0, p1] := ⟨[[.bool (p0.Neg), .slice (A0_0) ((p0.Num).length) (c0_0), .slice (A0_1) ((p0.Den).length) (c0_1)], [.bool (p1.Neg), .slice (A0_2) ((p1.Num).length) (c0_2), .slice (A0_3) ((p1.Den).length) (c0_3)]], Has.up (L := (K ++ [.m g4 51 [.bool (p0.Neg), .slice (A0_0) ((p0.Num).length) (c0_0), .slice (A0_1) ((p0.Den).length) (c0_1), .bool (p1.Neg), .slice (A0_2) ((p1.Num).length) (c0_2), .slice (A0_3) ((p1.Den).length) (c0_3)]])) (Has.ofM (fun x hx => by simp at hx; rcases hx with rfl | rfl <;> rfl) rfl (by decide) rfl : Has [.m g4 51 [.bool (p0.Neg), .slice (A0_0) ((p0.Num).length) (c0_0), .slice (A0_1) ((p0.Den).length) (c0_1), .bool (p1.Neg), .slice (A0_2) ((p1.Num).length) (c0_2), .slice (A0_3) ((p1.Den).length) (c0_3)]] (some ⟨g4, 0, none⟩) 2 2 3 raw [[.bool (p0.Neg), .slice (A0_0) ((p0.Num).length) (c0_0), .slice (A0_1) ((p0.Den).length) (c0_1)], [.bool (p1.Neg), .slice (A0_2) ((p1.Num).length) (c0_2), .slice (A0_3) ((p1.Den).length) (c0_3)]]) (SubE.appR2 (SubE.cons2 (i := 0) rfl (SubE.nil))), rfl, fun i h h' => match i, h, h' with | 0, _, _ => ⟨A0_0, c0_0, A0_1, c0_1, rfl, Has.len' (Has.up (L := (K ++ [.m g4 51 [.bool (p0.Neg), .slice (A0_0) ((p0.Num).length) (c0_0), .slice (A0_1) ((p0.Den).length) (c0_1), .bool (p1.Neg), .slice (A0_2) ((p1.Num).length) (c0_2), .slice (A0_3) ((p1.Den).length) (c0_3)]])) ha0' (SubE.app2 SubE.nil)), Has.len' (Has.up (L := (K ++ [.m g4 51 [.bool (p0.Neg), .slice (A0_0) ((p0.Num).length) (c0_0), .slice (A0_1) ((p0.Den).length) (c0_1), .bool (p1.Neg), .slice (A0_2) ((p1.Num).length) (c0_2), .slice (A0_3) ((p1.Den).length) (c0_3)]])) ha1' (SubE.app2 SubE.nil))⟩ | 1, _, _ => ⟨A0_2, c0_2, A0_3, c0_3, rfl, Has.len' (Has.up (L := (K ++ [.m g4 51 [.bool (p0.Neg), .slice (A0_0) ((p0.Num).length) (c0_0), .slice (A0_1) ((p0.Den).length) (c0_1), .bool (p1.Neg), .slice (A0_2) ((p1.Num).length) (c0_2), .slice (A0_3) ((p1.Den).length) (c0_3)]])) ha2' (SubE.app2 SubE.nil)), Has.len' (Has.up (L := (K ++ [.m g4 51 [.bool (p0.Neg), .slice (A0_0) ((p0.Num).length) (c0_0), .slice (A0_1) ((p0.Den).length) (c0_1), .bool (p1.Neg), .slice (A0_2) ((p1.Num).length) (c0_2), .slice (A0_3) ((p1.Den).length) (c0_3)]])) ha3' (SubE.app2 SubE.nil))⟩ | j + 2, h, _ => absurd h (by simp)⟩
  obtain ⟨r6, h7, hx8⟩ := bnd_some hx
  refine T_x (Wx_callL rfl (fun w1 hw1 => exact_anyLarge_ok ([p0, p1]) (HasN.len' hs5) h7 w1 (okApp (K := K) (K2 := [.m g4 51 [.bool (p0.Neg), .slice (A0_0) ((p0.Num).length) (c0_0), .slice (A0_1) ((p0.Den).length) (c0_1), .bool (p1.Neg), .slice (A0_2) ((p1.Num).length) (c0_2), .slice (A0_3) ((p1.Den).length) (c0_3)]]) hK (by exact (SubE.cons2 (i := 4) rfl (SubE.nil))) (by exact (SubE.cons2 (i := 0) rfl (SubE.nil))) hw1)) rfl ?_)
  rintro _ _ hlo ⟨rfl, rfl, -⟩
  refine T_app0 ?_
  refine T_nil ?_
  refine T_next ?_
  refine T_caseB (s := 9) rfl (fun h9 => ?_) (fun h9 => ?_)
  · have hx10 := ite_t h9 hx8
    refine T_condT rfl ?_
    refine T_seq ?_
    refine T_reg ?_
    refine T_val (Ev_build rfl (bld51_)) rfl ?_
    refine T_h (Wh_store rfl rfl rfl (.there (.here)) (.put (.put (.put (.done)))) rfl (List.cons_ne_nil _ _) agg51.2 ?_)
    refine T_val (Ev_assign rfl) rfl ?_
    refine T_nil ?_
    refine T_next ?_
    refine T_retc ?_
    refine T_outR ?_
    refine T_none 27 1 ?_
    refine T_none 27 1 ?_
    obtain rfl := Option.some.inj hx10
    exact T_retP (rs := [.cell 4 51, .tmp 5]) Try.results10 (.cell rfl (i := 3) rfl rfl agg51 (.tmp rfl (.nil))) (Ln := [.r (none) (0) (0) 27 1 ((([] : List Int)).flatMap e_u32), .r (none) (0) (0) 27 1 ((([] : List Int)).flatMap e_u32)]) ⟨none, 0, none, 0, rfl, rfl, trivial⟩ (loCons rfl (loCons rfl (loNil))) (by exact .pick 1 rfl (.pick 0 rfl (.drop 0 rfl (.drop 0 rfl (.drop 0 rfl (.drop 0 rfl (.refl)))))))
  · have hx11 := ite_bf h9 hx8
    refine T_condF rfl ?_
    refine T_skip ?_
    refine T_next ?_
    refine T_seq ?_
    refine T_draw [1, 2, 1, 2, 2, 2, 0, 0, 3, 2] [[], [0], [], [0, 1, 2], [0, 1, 2, 3], [0, 1, 2, 3, 4], [0, 1, 2, 3, 4, 5], [0, 1, 2, 3, 4, 5], [0, 1, 2, 3, 4, 5, 6, 7], [0, 1, 2, 3, 4, 5, 6, 7, 8]] (.q 0 (.q 2 (.e 1 (.e 3 (.e 4 (.e 5 (.q 6 (.q 7 (.e 8 (.e 9 (.done) (.stop)) (.stop)))) (.stop)) (.stop)) (.stop)) (.stop)))) mixed (by kernel_rfl) (by kernel_rfl) ?_
    refine P_q rfl rfl (Ev_loadK rfl (i := 3) rfl rfl agg51) rfl ?_
    refine P_q rfl rfl (Ev_loadK rfl (i := 2) rfl rfl agg51) rfl ?_
    obtain ⟨r12, h13, hx14⟩ := bnd_some hx11
    refine P_x rfl (Wx_callL rfl (fun w1 hw1 => ratio_Of_ok p0 (Has.len' ha0') (Has.len' ha1') h13 w1 (okApp (K := K) (K2 := []) hK (by exact (SubE.cons2 (i := 4) rfl (SubE.nil))) (by exact (SubE.nil)) hw1)) rfl ?_) ?_
    rotate_left; exact P_stop
    rintro _ _ hlo ⟨A15, c16, A17, c18, e19, e20, e21, e22, e23, e24, rfl, rfl, hs25, hs26, -⟩
    have lo27 := hlo e19 (by simp)
    have lo28 := hlo e20 (by simp)
    have lo29 := hlo e21 (by simp)
    have lo30 := hlo e22 (by simp)
    have lo31 := hlo e23 (by simp)
    have lo32 := hlo e24 (by simp)
    refine T_app6 ?_
    have hs33 : Has (K ++ [e19, e20, e21, e22, e23, e24]) _ _ _ _ _ _ := Has.assoc hs25
    have hs34 : Has (K ++ [e19, e20, e21, e22, e23, e24]) _ _ _ _ _ _ := Has.assoc hs26
    obtain ⟨r35, h36, hx37⟩ := bnd_some hx14
    refine P_x rfl (Wx_callL rfl (fun w1 hw1 => ratio_Of_ok p1 (Has.len' ha2') (Has.len' ha3') h36 w1 (okApp (K := K) (K2 := []) hK (by exact (SubE.cons2 (i := 10) rfl (SubE.nil))) (by exact (SubE.nil)) hw1)) rfl ?_) ?_
    rotate_left; exact P_stop
    rintro _ _ hlo ⟨A38, c39, A40, c41, e42, e43, e44, e45, e46, e47, rfl, rfl, hs48, hs49, -⟩
    have lo50 := hlo e42 (by simp)
    have lo51 := hlo e43 (by simp)
    have lo52 := hlo e44 (by simp)
    have lo53 := hlo e45 (by simp)
    have lo54 := hlo e46 (by simp)
    have lo55 := hlo e47 (by simp)
    refine T_app6 ?_
    have hs56 : Has (K ++ [e42, e43, e44, e45, e46, e47]) _ _ _ _ _ _ := Has.assoc hs48
    have hs57 : Has (K ++ [e42, e43, e44, e45, e46, e47]) _ _ _ _ _ _ := Has.assoc hs49
    obtain ⟨r58, h59, hx60⟩ := bnd_some hx37
    refine P_x rfl (Wx_callL rfl (fun w1 hw1 => ratio_Num_Mul_ok r12 r35 (Has.len' (Has.up (L := (K ++ [e19, e20, e21, e22, e23, e24, e42, e43, e44, e45, e46, e47])) hs33 (SubE.app2 (SubE.cons2 (i := 0) rfl (SubE.cons2 (i := 1) rfl (SubE.cons2 (i := 2) rfl (SubE.cons2 (i := 3) rfl (SubE.cons2 (i := 4) rfl (SubE.cons2 (i := 5) rfl (SubE.nil)))))))))) (Has.len' (Has.up (L := (K ++ [e19, e20, e21, e22, e23, e24, e42, e43, e44, e45, e46, e47])) hs34 (SubE.app2 (SubE.cons2 (i := 0) rfl (SubE.cons2 (i := 1) rfl (SubE.cons2 (i := 2) rfl (SubE.cons2 (i := 3) rfl (SubE.cons2 (i := 4) rfl (SubE.cons2 (i := 5) rfl (SubE.nil)))))))))) (Has.len' (Has.up (L := (K ++ [e19, e20, e21, e22, e23, e24, e42, e43, e44, e45, e46, e47])) hs56 (SubE.app2 (SubE.cons2 (i := 6) rfl (SubE.cons2 (i := 7) rfl (SubE.cons2 (i := 8) rfl (SubE.cons2 (i := 9) rfl (SubE.cons2 (i := 10) rfl (SubE.cons2 (i := 11) rfl (SubE.nil)))))))))) (Has.len' (Has.up (L := (K ++ [e19, e20, e21, e22, e23, e24, e42, e43, e44, e45, e46, e47])) hs57 (SubE.app2 (SubE.cons2 (i := 6) rfl (SubE.cons2 (i := 7) rfl (SubE.cons2 (i := 8) rfl (SubE.cons2 (i := 9) rfl (SubE.cons2 (i := 10) rfl (SubE.cons2 (i := 11) rfl (SubE.nil)))))))))) h59 w1 (okApp (K := K) (K2 := [e19, e20, e21, e22, e23, e24, e42, e43, e44, e45, e46, e47]) hK (by exact (SubE.cons2 (i := 16) rfl (SubE.nil))) (by exact (SubE.cons2 (i := 6) rfl (SubE.cons2 (i := 7) rfl (SubE.cons2 (i := 8) rfl (SubE.cons2 (i := 9) rfl (SubE.cons2 (i := 10) rfl (SubE.cons2 (i := 11) rfl (SubE.cons2 (i := 0) rfl (SubE.cons2 (i := 1) rfl (SubE.cons2 (i := 2) rfl (SubE.cons2 (i := 3) rfl (SubE.cons2 (i := 4) rfl (SubE.cons2 (i := 5) rfl (SubE.nil)))))))))))))) hw1)) rfl ?_) ?_
    rotate_left; exact P_stop
    rintro _ _ hlo ⟨A61, c62, A63, c64, e65, e66, rfl, rfl, hs67, hs68, -⟩
    have lo69 := hlo e65 (by simp)
    have lo70 := hlo e66 (by simp)
    refine T_app2 ?_
    have hs71 : Has (K ++ [e19, e20, e21, e22, e23, e24, e42, e43, e44, e45, e46, e47, e65, e66]) _ _ _ _ _ _ := Has.assoc hs67
    have hs72 : Has (K ++ [e19, e20, e21, e22, e23, e24, e42, e43, e44, e45, e46, e47, e65, e66]) _ _ _ _ _ _ := Has.assoc hs68
    obtain ⟨r73, h74, hx75⟩ := bnd_some hx60
    refine P_x rfl (Wx_callL rfl (fun w1 hw1 => ratio_Num_Done_ok r58 (Has.len' hs71) (Has.len' hs72) h74 w1 (okApp (K := K) (K2 := [e19, e20, e21, e22, e23, e24, e42, e43, e44, e45, e46, e47, e65, e66]) hK (by exact (SubE.cons2 (i := 18) rfl (SubE.nil))) (by exact (SubE.cons2 (i := 8) rfl (SubE.cons2 (i := 9) rfl (SubE.cons2 (i := 10) rfl (SubE.cons2 (i := 11) rfl (SubE.cons2 (i := 12) rfl (SubE.cons2 (i := 13) rfl (SubE.cons2 (i := 2) rfl (SubE.cons2 (i := 3) rfl (SubE.cons2 (i := 4) rfl (SubE.cons2 (i := 5) rfl (SubE.cons2 (i := 6) rfl (SubE.cons2 (i := 7) rfl (SubE.cons2 (i := 0) rfl (SubE.cons2 (i := 1) rfl (SubE.nil)))))))))))))))) hw1)) rfl ?_) ?_
    rotate_left; exact P_stop
    rintro _ _ hlo ⟨A76, c77, A78, c79, rfl, rfl, -⟩
    refine T_app2 ?_
    refine P_p rfl rfl (Ev_extract rfl rfl) rfl ?_
    refine P_p rfl rfl (Ev_extract rfl rfl) rfl ?_
    refine P_h rfl rfl (Wh_store rfl rfl rfl (.there (.there (.there (.there (.there (.there (.there (.there (.there (.there (.there (.there (.there (.there (.there (.there (.there (.here)))))))))))))))))) (.put (.put (.put (.done)))) rfl (List.cons_ne_nil _ _) agg51.2 ?_) ?_
    rotate_left; exact P_stop
    refine P_x rfl (Wx_val (Ev_assign rfl) rfl ?_) ?_
    rotate_left; exact P_stop
    refine P_done ?_
    refine T_next ?_
    refine T_retc ?_
    obtain rfl := Option.some.inj hx75
    exact T_retP (rs := [.cell 4 51, .tmp 5]) Try.results10 (.cell rfl (i := 17) rfl rfl agg51 (.tmp rfl (.nil))) (Ln := [.r (A76) ((r73.1.Num).length) (c77) 27 1 ((r73.1.Num).flatMap e_u32), .r (A78) ((r73.1.Den).length) (c79) 27 1 ((r73.1.Den).flatMap e_u32)]) ⟨A76, c77, A78, c79, rfl, rfl, trivial⟩ (loCons rfl (loCons rfl (loNil))) (by exact .pick 0 rfl (.pick 0 rfl (.drop 0 rfl (.drop 0 rfl (.drop 0 rfl (.drop 0 rfl (.drop 0 rfl (.drop 0 rfl (.drop 0 rfl (.drop 0 rfl (.drop 0 rfl (.drop 0 rfl (.drop 0 rfl (.drop 0 rfl (.drop 0 rfl (.drop 0 rfl (.drop 0 rfl (.drop 0 rfl (.drop 0 rfl (.drop 0 rfl (.refl)))))))))))))))))))))
set_option maxRecDepth 100000 in
theorem exact_Cmp_ok (p0 : S_api_Rat) (p1 : S_api_Rat) {K : List Ent} {A0_0 : Option Addr} {c0_0 : Nat} {A0_1 : Option Addr} {c0_1 : Nat} {A0_2 : Option Addr} {c0_2 : Nat} {A0_3 : Option Addr} {c0_3 : Nat} (ha0 : Has K A0_0 (p0.Num).length c0_0 1 e_u32 (p0.Num)) (ha1 : Has K A0_1 (p0.Den).length c0_1 1 e_u32 (p0.Den)) (ha2 : Has K A0_2 (p1.Num).length c0_2 1 e_u32 (p1.Num)) (ha3 : Has K A0_3 (p1.Den).length c0_3 1 e_u32 (p1.Den)) {r : Int × Int} (hx : exact_Cmp p0 p1 = some r) (w : World) (hK : ∀ e ∈ K, Ent.ok w e) : CtL Try.prog 12 [.agg #[.bool (p0.Neg), .slice (A0_0) ((p0.Num).length) (c0_0), .slice (A0_1) ((p0.Den).length) (c0_1)], .agg #[.bool (p1.Neg), .slice (A0_2) ((p1.Num).length) (c0_2), .slice (A0_3) ((p1.Den).length) (c0_3)]] w fun v Ln => v = .tuple #[.int .i64 (r.1), .int .i64 (r.2)] ∧ Ln = [] ∧ True := by
  have ha0' := Has.up0 ha0
  have ha1' := Has.up0 ha1
  have ha2' := Has.up0 ha2
  have ha3' := Has.up0 ha3
  refine CtL.mk 15 Try.func12 rfl Try.ntmps12 (by kernel_rfl) rfl ?_
  show T 15 _ [(0, .agg #[.bool (p0.Neg), .slice (A0_0) ((p0.Num).length) (c0_0), .slice (A0_1) ((p0.Den).length) (c0_1)]), (1, .agg #[.bool (p1.Neg), .slice (A0_2) ((p1.Num).length) (c0_2), .slice (A0_3) ((p1.Den).length) (c0_3)])] _
  unfold exact_Cmp at hx
  refine T_seq ?_
  refine T_reg ?_
  refine T_x (Wx_box rfl rfl rfl (fun g1 => ?_))
  refine T_x (Wx_box rfl rfl rfl (fun g2 => ?_))
  refine T_val (Ev_assign rfl) rfl ?_
  refine T_val (Ev_assign rfl) rfl ?_
  refine T_nil ?_
  refine T_next ?_
  refine T_seq ?_
  refine T_seq ?_
  refine T_reg ?_
  refine T_val (Ev_loadK rfl (i := 1) rfl rfl agg51) rfl ?_
  refine T_val (Ev_loadK rfl (i := 0) rfl rfl agg51) rfl ?_
  refine T_x (Wx_buildSlice rfl (bls90_2_0abss1abss _ _ _ _ _ _ _ _ _ _ _ _ _ _) rfl (fun g3 => ?_))
  have hs4 : HasN (K ++ [.m g3 51 [.bool (p0.Neg), .slice (A0_0) ((p0.Num).length) (c0_0), .slice (A0_1) ((p0.Den).length) (c0_1), .bool (p1.Neg), .slice (A0_2) ((p1.Num).length) (c0_2), .slice (A0_3) ((p1.Den).length) (c0_3)]]) (some ⟨g3, 0, none⟩) 2 2 3 n_api_Rat [p0, p1] := ⟨[[.bool (p0.Neg), .slice (A0_0) ((p0.Num).length) (c0_0), .slice (A0_1) ((p0.Den).length) (c0_1)], [.bool (p1.Neg), .slice (A0_2) ((p1.Num).length) (c0_2), .slice (A0_3) ((p1.Den).length) (c0_3)]], Has.up (L := (K ++ [.m g3 51 [.bool (p0.Neg), .slice (A0_0) ((p0.Num).length) (c0_0), .slice (A0_1) ((p0.Den).length) (c0_1), .bool (p1.Neg), .slice (A0_2) ((p1.Num).length) (c0_2), .slice (A0_3) ((p1.Den).length) (c0_3)]])) (Has.ofM (fun x hx => by simp at hx; rcases hx with rfl | rfl <;> rfl) rfl (by decide) rfl : Has [.m g3 51 [.bool (p0.Neg), .slice (A0_0) ((p0.Num).length) (c0_0), .slice (A0_1) ((p0.Den).length) (c0_1), .bool (p1.Neg), .slice (A0_2) ((p1.Num).length) (c0_2), .slice (A0_3) ((p1.Den).length) (c0_3)]] (some ⟨g3, 0, none⟩) 2 2 3 raw [[.bool (p0.Neg), .slice (A0_0) ((p0.Num).length) (c0_0), .slice (A0_1) ((p0.Den).length) (c0_1)], [.bool (p1.Neg), .slice (A0_2) ((p1.Num).length) (c0_2), .slice (A0_3) ((p1.Den).length) (c0_3)]]) (SubE.appR2 (SubE.cons2 (i := 0) rfl (SubE.nil))), rfl, fun i h h' => match i, h, h' with | 0, _, _ => ⟨A0_0, c0_0, A0_1, c0_1, rfl, Has.len' (Has.up (L := (K ++ [.m g3 51 [.bool (p0.Neg), .slice (A0_0) ((p0.Num).length) (c0_0), .slice (A0_1) ((p0.Den).length) (c0_1), .bool (p1.Neg), .slice (A0_2) ((p1.Num).length) (c0_2), .slice (A0_3) ((p1.Den).length) (c0_3)]])) ha0' (SubE.app2 SubE.nil)), Has.len' (Has.up (L := (K ++ [.m g3 51 [.bool (p0.Neg), .slice (A0_0) ((p0.Num).length) (c0_0), .slice (A0_1) ((p0.Den).length) (c0_1), .bool (p1.Neg), .slice (A0_2) ((p1.Num).length) (c0_2), .slice (A0_3) ((p1.Den).length) (c0_3)]])) ha1' (SubE.app2 SubE.nil))⟩ | 1, _, _ => ⟨A0_2, c0_2, A0_3, c0_3, rfl, Has.len' (Has.up (L := (K ++ [.m g3 51 [.bool (p0.Neg), .slice (A0_0) ((p0.Num).length) (c0_0), .slice (A0_1) ((p0.Den).length) (c0_1), .bool (p1.Neg), .slice (A0_2) ((p1.Num).length) (c0_2), .slice (A0_3) ((p1.Den).length) (c0_3)]])) ha2' (SubE.app2 SubE.nil)), Has.len' (Has.up (L := (K ++ [.m g3 51 [.bool (p0.Neg), .slice (A0_0) ((p0.Num).length) (c0_0), .slice (A0_1) ((p0.Den).length) (c0_1), .bool (p1.Neg), .slice (A0_2) ((p1.Num).length) (c0_2), .slice (A0_3) ((p1.Den).length) (c0_3)]])) ha3' (SubE.app2 SubE.nil))⟩ | j + 2, h, _ => absurd h (by simp)⟩
  obtain ⟨r5, h6, hx7⟩ := bnd_some hx
  refine T_x (Wx_callL rfl (fun w1 hw1 => exact_anyLarge_ok ([p0, p1]) (HasN.len' hs4) h6 w1 (okApp (K := K) (K2 := [.m g3 51 [.bool (p0.Neg), .slice (A0_0) ((p0.Num).length) (c0_0), .slice (A0_1) ((p0.Den).length) (c0_1), .bool (p1.Neg), .slice (A0_2) ((p1.Num).length) (c0_2), .slice (A0_3) ((p1.Den).length) (c0_3)]]) hK (by exact (SubE.cons2 (i := 3) rfl (SubE.nil))) (by exact (SubE.cons2 (i := 0) rfl (SubE.nil))) hw1)) rfl ?_)
  rintro _ _ hlo ⟨rfl, rfl, -⟩
  refine T_app0 ?_
  refine T_nil ?_
  refine T_next ?_
  refine T_caseB (s := 9) rfl (fun h8 => ?_) (fun h8 => ?_)
  · have hx9 := ite_t h8 hx7
    refine T_condT rfl ?_
    refine T_seq ?_
    refine T_reg ?_
    refine T_val (Ev_assign rfl) rfl ?_
    refine T_val (Ev_assign rfl) rfl ?_
    refine T_nil ?_
    refine T_next ?_
    refine T_retc ?_
    refine T_outR ?_
    obtain rfl := Option.some.inj hx9
    exact T_retP (rs := [.tmp 4, .tmp 5]) Try.results12 (.tmp rfl (.tmp rfl (.nil))) (Ln := []) ⟨rfl, rfl, trivial⟩ (loNil) (by exact .drop 0 rfl (.drop 0 rfl (.drop 0 rfl (.refl))))
  · have hx10 := ite_bf h8 hx7
    refine T_condF rfl ?_
    refine T_skip ?_
    refine T_next ?_
    refine T_seq ?_
    refine T_draw [1, 2, 1, 2, 2, 2, 2] [[], [0], [], [0, 1, 2], [0, 1, 2, 3], [0, 1, 2, 3, 4], [0, 1, 2, 3, 4, 5]] (.q 0 (.q 2 (.e 1 (.e 3 (.e 4 (.e 5 (.e 6 (.done) (.stop)) (.stop)) (.stop)) (.stop)) (.stop)))) mixed (by kernel_rfl) (by kernel_rfl) ?_
    refine P_q rfl rfl (Ev_loadK rfl (i := 2) rfl rfl agg51) rfl ?_
    refine P_q rfl rfl (Ev_loadK rfl (i := 1) rfl rfl agg51) rfl ?_
    obtain ⟨r11, h12, hx13⟩ := bnd_some hx10
    refine P_x rfl (Wx_callL rfl (fun w1 hw1 => ratio_Of_ok p0 (Has.len' ha0') (Has.len' ha1') h12 w1 (okApp (K := K) (K2 := []) hK (by exact (SubE.cons2 (i := 3) rfl (SubE.nil))) (by exact (SubE.nil)) hw1)) rfl ?_) ?_
    rotate_left; exact P_stop
    rintro _ _ hlo ⟨A14, c15, A16, c17, e18, e19, e20, e21, e22, e23, rfl, rfl, hs24, hs25, -⟩
    have lo26 := hlo e18 (by simp)
    have lo27 := hlo e19 (by simp)
    have lo28 := hlo e20 (by simp)
    have lo29 := hlo e21 (by simp)
    have lo30 := hlo e22 (by simp)
    have lo31 := hlo e23 (by simp)
    refine T_app6 ?_
    have hs32 : Has (K ++ [e18, e19, e20, e21, e22, e23]) _ _ _ _ _ _ := Has.assoc hs24
    have hs33 : Has (K ++ [e18, e19, e20, e21, e22, e23]) _ _ _ _ _ _ := Has.assoc hs25
    obtain ⟨r34, h35, hx36⟩ := bnd_some hx13
    refine P_x rfl (Wx_callL rfl (fun w1 hw1 => ratio_Of_ok p1 (Has.len' ha2') (Has.len' ha3') h35 w1 (okApp (K := K) (K2 := []) hK (by exact (SubE.cons2 (i := 9) rfl (SubE.nil))) (by exact (SubE.nil)) hw1)) rfl ?_) ?_
    rotate_left; exact P_stop
    rintro _ _ hlo ⟨A37, c38, A39, c40, e41, e42, e43, e44, e45, e46, rfl, rfl, hs47, hs48, -⟩
    have lo49 := hlo e41 (by simp)
    have lo50 := hlo e42 (by simp)
    have lo51 := hlo e43 (by simp)
    have lo52 := hlo e44 (by simp)
    have lo53 := hlo e45 (by simp)
    have lo54 := hlo e46 (by simp)
    refine T_app6 ?_
    have hs55 : Has (K ++ [e41, e42, e43, e44, e45, e46]) _ _ _ _ _ _ := Has.assoc hs47
    have hs56 : Has (K ++ [e41, e42, e43, e44, e45, e46]) _ _ _ _ _ _ := Has.assoc hs48
    obtain ⟨r57, h58, hx59⟩ := bnd_some hx36
    refine P_x rfl (Wx_callL rfl (fun w1 hw1 => ratio_Num_Cmp_ok r11 r34 (Has.len' (Has.up (L := (K ++ [e18, e19, e20, e21, e22, e23, e41, e42, e43, e44, e45, e46])) hs32 (SubE.app2 (SubE.cons2 (i := 0) rfl (SubE.cons2 (i := 1) rfl (SubE.cons2 (i := 2) rfl (SubE.cons2 (i := 3) rfl (SubE.cons2 (i := 4) rfl (SubE.cons2 (i := 5) rfl (SubE.nil)))))))))) (Has.len' (Has.up (L := (K ++ [e18, e19, e20, e21, e22, e23, e41, e42, e43, e44, e45, e46])) hs33 (SubE.app2 (SubE.cons2 (i := 0) rfl (SubE.cons2 (i := 1) rfl (SubE.cons2 (i := 2) rfl (SubE.cons2 (i := 3) rfl (SubE.cons2 (i := 4) rfl (SubE.cons2 (i := 5) rfl (SubE.nil)))))))))) (Has.len' (Has.up (L := (K ++ [e18, e19, e20, e21, e22, e23, e41, e42, e43, e44, e45, e46])) hs55 (SubE.app2 (SubE.cons2 (i := 6) rfl (SubE.cons2 (i := 7) rfl (SubE.cons2 (i := 8) rfl (SubE.cons2 (i := 9) rfl (SubE.cons2 (i := 10) rfl (SubE.cons2 (i := 11) rfl (SubE.nil)))))))))) (Has.len' (Has.up (L := (K ++ [e18, e19, e20, e21, e22, e23, e41, e42, e43, e44, e45, e46])) hs56 (SubE.app2 (SubE.cons2 (i := 6) rfl (SubE.cons2 (i := 7) rfl (SubE.cons2 (i := 8) rfl (SubE.cons2 (i := 9) rfl (SubE.cons2 (i := 10) rfl (SubE.cons2 (i := 11) rfl (SubE.nil)))))))))) h58 w1 (okApp (K := K) (K2 := [e18, e19, e20, e21, e22, e23, e41, e42, e43, e44, e45, e46]) hK (by exact (SubE.cons2 (i := 15) rfl (SubE.nil))) (by exact (SubE.cons2 (i := 6) rfl (SubE.cons2 (i := 7) rfl (SubE.cons2 (i := 8) rfl (SubE.cons2 (i := 9) rfl (SubE.cons2 (i := 10) rfl (SubE.cons2 (i := 11) rfl (SubE.cons2 (i := 0) rfl (SubE.cons2 (i := 1) rfl (SubE.cons2 (i := 2) rfl (SubE.cons2 (i := 3) rfl (SubE.cons2 (i := 4) rfl (SubE.cons2 (i := 5) rfl (SubE.nil)))))))))))))) hw1)) rfl ?_) ?_
    rotate_left; exact P_stop
    rintro _ _ hlo ⟨rfl, rfl, -⟩
    refine T_app0 ?_
    refine P_x rfl (Wx_val (Ev_assign rfl) rfl ?_) ?_
    rotate_left; exact P_stop
    refine P_x rfl (Wx_val (Ev_assign rfl) rfl ?_) ?_
    rotate_left; exact P_stop
    refine P_done ?_
    refine T_next ?_
    refine T_retc ?_
    obtain rfl := Option.some.inj hx59
    exact T_retP (rs := [.tmp 4, .tmp 5]) Try.results12 (.tmp rfl (.tmp rfl (.nil))) (Ln := []) ⟨rfl, rfl, trivial⟩ (loNil) (by exact .drop 0 rfl (.drop 0 rfl (.drop 0 rfl (.drop 0 rfl (.drop 0 rfl (.drop 0 rfl (.drop 0 rfl (.drop 0 rfl (.drop 0 rfl (.drop 0 rfl (.drop 0 rfl (.drop 0 rfl (.drop 0 rfl (.drop 0 rfl (.drop 0 rfl (.refl))))))))))))))))
set_option maxRecDepth 100000 in
theorem model_times_ok (p0 : S_api_Raster) (p1 : Int)  {r : S_api_Rat} (hx : model_times p0 p1 = some r) (w : World) : CtL Try.prog 36 [.agg #[.int .i64 (p0.X0), .int .i64 (p0.Y0), .int .i64 (p0.Step), .int .i64 (p0.NX), .int .i64 (p0.NY)], .int .i64 (p1)] w fun v Ln => ∃ (A0 : Option Addr) (c0 : Nat) (A2 : Option Addr) (c2 : Nat), v = .agg #[.bool (r.Neg), .slice (A0) ((r.Num).length) (c0), .slice (A2) ((r.Den).length) (c2)] ∧ Ln = [.r A0 (r.Num).length c0 27 1 ((r.Num).flatMap e_u32), .r A2 (r.Den).length c2 27 1 ((r.Den).flatMap e_u32)] ∧ True := by
  refine CtL.mk 20 Try.func36 rfl Try.ntmps36 (by kernel_rfl) rfl ?_
  show T 20 _ [(0, .agg #[.int .i64 (p0.X0), .int .i64 (p0.Y0), .int .i64 (p0.Step), .int .i64 (p0.NX), .int .i64 (p0.NY)]), (1, .int .i64 (p1))] _
  unfold model_times at hx
  refine T_seq ?_
  refine T_reg ?_
  refine T_x (Wx_box rfl rfl rfl (fun g1 => ?_))
  refine T_x (Wx_alloc zer51 rfl (fun g2 => ?_))
  refine T_nil ?_
  refine T_next ?_
  refine T_seq ?_
  refine T_reg ?_
  refine T_val (Ev_field rfl fld23_2 rfl) rfl ?_
  refine T_val (Ev_load1 rfl (i := 1) rfl rfl one3) rfl ?_
  refine T_val (Ev_field rfl fld23_2 rfl) rfl ?_
  refine T_val (Ev_load1 rfl (i := 1) rfl rfl one3) rfl ?_
  refine T_val (Ev_mul_w64 rfl rfl) rfl ?_
  obtain ⟨r3, h4, hx5⟩ := bnd_some hx
  refine T_x (Wx_callL rfl (fun w1 hw1 => exact_FromInt_ok (w64 (p0.Step * p0.Step))  h4 w1) rfl ?_)
  rintro _ _ hlo ⟨A6, c7, A8, c9, rfl, rfl, -⟩
  refine T_app2 ?_
  refine T_val (Ev_move rfl) rfl ?_
  obtain ⟨r10, h11, hx12⟩ := bnd_some hx5
  refine T_x (Wx_callL rfl (fun w1 hw1 => exact_FromInt_ok p1  h11 w1) rfl ?_)
  rintro _ _ hlo ⟨A13, c14, A15, c16, rfl, rfl, -⟩
  refine T_app2 ?_
  refine T_rowP (k := 2) rfl (by decide) (fun _ => rfl) (fun hn17 hs18 => ?_)
  refine T_rowP (k := 3) rfl (by decide) (fun _ => rfl) (fun hn19 hs20 => ?_)
  refine T_rowP (k := 0) rfl (by decide) (fun _ => rfl) (fun hn21 hs22 => ?_)
  refine T_rowP (k := 1) rfl (by decide) (fun _ => rfl) (fun hn23 hs24 => ?_)
  obtain ⟨r25, h26, hx27⟩ := bnd_some hx12
  refine T_x (Wx_callL rfl (fun w1 hw1 => exact_Mul_ok r3 r10 (Has.len' (Has.up (L := ([.r (A6) ((r3.Num).length) (c7) 27 1 ((r3.Num).flatMap e_u32), .r (A8) ((r3.Den).length) (c9) 27 1 ((r3.Den).flatMap e_u32), .r (A13) ((r10.Num).length) (c14) 27 1 ((r10.Num).flatMap e_u32), .r (A15) ((r10.Den).length) (c16) 27 1 ((r10.Den).flatMap e_u32)] : List Ent)) hs18 (SubE.cons2 (i := 0) rfl (SubE.nil)))) (Has.len' (Has.up (L := ([.r (A6) ((r3.Num).length) (c7) 27 1 ((r3.Num).flatMap e_u32), .r (A8) ((r3.Den).length) (c9) 27 1 ((r3.Den).flatMap e_u32), .r (A13) ((r10.Num).length) (c14) 27 1 ((r10.Num).flatMap e_u32), .r (A15) ((r10.Den).length) (c16) 27 1 ((r10.Den).flatMap e_u32)] : List Ent)) hs20 (SubE.cons2 (i := 1) rfl (SubE.nil)))) (Has.len' (Has.up (L := ([.r (A6) ((r3.Num).length) (c7) 27 1 ((r3.Num).flatMap e_u32), .r (A8) ((r3.Den).length) (c9) 27 1 ((r3.Den).flatMap e_u32), .r (A13) ((r10.Num).length) (c14) 27 1 ((r10.Num).flatMap e_u32), .r (A15) ((r10.Den).length) (c16) 27 1 ((r10.Den).flatMap e_u32)] : List Ent)) hs22 (SubE.cons2 (i := 2) rfl (SubE.nil)))) (Has.len' (Has.up (L := ([.r (A6) ((r3.Num).length) (c7) 27 1 ((r3.Num).flatMap e_u32), .r (A8) ((r3.Den).length) (c9) 27 1 ((r3.Den).flatMap e_u32), .r (A13) ((r10.Num).length) (c14) 27 1 ((r10.Num).flatMap e_u32), .r (A15) ((r10.Den).length) (c16) 27 1 ((r10.Den).flatMap e_u32)] : List Ent)) hs24 (SubE.cons2 (i := 3) rfl (SubE.nil)))) h26 w1 (okAll (K := ([.r (A6) ((r3.Num).length) (c7) 27 1 ((r3.Num).flatMap e_u32), .r (A8) ((r3.Den).length) (c9) 27 1 ((r3.Den).flatMap e_u32), .r (A13) ((r10.Num).length) (c14) 27 1 ((r10.Num).flatMap e_u32), .r (A15) ((r10.Den).length) (c16) 27 1 ((r10.Den).flatMap e_u32)] : List Ent)) (by exact (SubE.cons2 (i := 2) rfl (SubE.cons2 (i := 3) rfl (SubE.cons2 (i := 0) rfl (SubE.cons2 (i := 1) rfl (SubE.nil)))))) hw1)) rfl ?_)
  rintro _ _ hlo ⟨A28, c29, A30, c31, rfl, rfl, -⟩
  refine T_app2 ?_
  refine T_val (Ev_move rfl) rfl ?_
  refine T_val (Ev_extract rfl rfl) rfl ?_
  refine T_val (Ev_extract rfl rfl) rfl ?_
  refine T_x (Wx_alloc zer51 rfl (fun g32 => ?_))
  refine T_h (Wh_store rfl rfl rfl (.here) (.put (.put (.put (.done)))) rfl (List.cons_ne_nil _ _) agg51.2 ?_)
  refine T_val (Ev_assign rfl) rfl ?_
  refine T_nil ?_
  refine T_next ?_
  refine T_seq ?_
  refine T_reg ?_
  refine T_val (Ev_loadK rfl (i := 0) rfl rfl agg51) rfl ?_
  refine T_h (Wh_store rfl rfl rfl (.there (.there (.there (.there (.there (.there (.there (.here)))))))) (.put (.put (.put (.done)))) rfl (List.cons_ne_nil _ _) agg51.2 ?_)
  refine T_nil ?_
  refine T_next ?_
  refine T_retc ?_
  obtain rfl := Option.some.inj hx27
  exact T_retP (rs := [.cell 4 51]) Try.results36 (.cell rfl (i := 7) rfl rfl agg51 (.nil)) (Ln := [.r (A28) ((r25.1.Num).length) (c29) 27 1 ((r25.1.Num).flatMap e_u32), .r (A30) ((r25.1.Den).length) (c31) 27 1 ((r25.1.Den).flatMap e_u32)]) ⟨A28, c29, A30, c31, rfl, rfl, trivial⟩ (loCons rfl (loCons rfl (loNil))) (by exact .pick 1 rfl (.pick 1 rfl (.drop 0 rfl (.drop 0 rfl (.drop 0 rfl (.drop 0 rfl (.drop 0 rfl (.drop 0 rfl (.drop 0 rfl (.refl))))))))))
set_option maxRecDepth 100000 in
theorem model_amount_ok (p0 : S_api_Grid) (p1 : S_api_Grid) (p2 : List Int) {K : List Ent} {A0_0 : Option Addr} {c0_0 : Nat} {A0_1 : Option Addr} {c0_1 : Nat} {A0_2 : Option Addr} {c0_2 : Nat} (ha0 : Has K A0_0 (p0.Cells).length c0_0 3 e_api_Cell (p0.Cells)) (ha1 : Has K A0_1 (p1.Cells).length c0_1 3 e_api_Cell (p1.Cells)) (ha2 : Has K A0_2 (p2).length c0_2 1 e_i64 (p2)) {r : S_api_Rat × S_api_Rat} (hx : model_amount p0 p1 p2 = some r) (w : World) (hK : ∀ e ∈ K, Ent.ok w e) : CtL Try.prog 20 [.agg #[.int .i64 (p0.Raster.X0), .int .i64 (p0.Raster.Y0), .int .i64 (p0.Raster.Step), .int .i64 (p0.Raster.NX), .int .i64 (p0.Raster.NY), .slice (A0_0) ((p0.Cells).length) (c0_0)], .agg #[.int .i64 (p1.Raster.X0), .int .i64 (p1.Raster.Y0), .int .i64 (p1.Raster.Step), .int .i64 (p1.Raster.NX), .int .i64 (p1.Raster.NY), .slice (A0_1) ((p1.Cells).length) (c0_1)], .slice (A0_2) ((p2).length) (c0_2)] w fun v Ln => ∃ (A0 : Option Addr) (c0 : Nat) (A2 : Option Addr) (c2 : Nat) (A4 : Option Addr) (c4 : Nat) (A6 : Option Addr) (c6 : Nat), v = .tuple #[.agg #[.bool (r.1.Neg), .slice (A0) ((r.1.Num).length) (c0), .slice (A2) ((r.1.Den).length) (c2)], .agg #[.bool (r.2.Neg), .slice (A4) ((r.2.Num).length) (c4), .slice (A6) ((r.2.Den).length) (c6)]] ∧ Ln = [.r A0 (r.1.Num).length c0 27 1 ((r.1.Num).flatMap e_u32), .r A2 (r.1.Den).length c2 27 1 ((r.1.Den).flatMap e_u32), .r A4 (r.2.Num).length c4 27 1 ((r.2.Num).flatMap e_u32), .r A6 (r.2.Den).length c6 27 1 ((r.2.Den).flatMap e_u32)] ∧ True := by
  have ha0' := Has.up0 ha0
  have ha1' := Has.up0 ha1
  have ha2' := Has.up0 ha2
  refine CtL.mk 61 Try.func20 rfl Try.ntmps20 (by kernel_rfl) rfl ?_
  show T 61 _ [(0, .agg #[.int .i64 (p0.Raster.X0), .int .i64 (p0.Raster.Y0), .int .i64 (p0.Raster.Step), .int .i64 (p0.Raster.NX), .int .i64 (p0.Raster.NY), .slice (A0_0) ((p0.Cells).length) (c0_0)]), (1, .agg #[.int .i64 (p1.Raster.X0), .int .i64 (p1.Raster.Y0), .int .i64 (p1.Raster.Step), .int .i64 (p1.Raster.NX), .int .i64 (p1.Raster.NY), .slice (A0_1) ((p1.Cells).length) (c0_1)]), (2, .slice (A0_2) ((p2).length) (c0_2))] _
  unfold model_amount at hx
  refine T_seq ?_
  refine T_reg ?_
  refine T_x (Wx_box rfl rfl rfl (fun g1 => ?_))
  refine T_x (Wx_box rfl rfl rfl (fun g2 => ?_))
  refine T_x (Wx_alloc zer51 rfl (fun g3 => ?_))
  refine T_x (Wx_alloc zer51 rfl (fun g4 => ?_))
  refine T_nil ?_
  refine T_next ?_
  refine T_seq ?_
  refine T_reg ?_
  refine T_val (Ev_assign rfl) rfl ?_
  refine T_val (Ev_assign rfl) rfl ?_
  refine T_nil ?_
  refine T_next ?_
  obtain ⟨j3, hj3, hx⟩ := jn_some hx
  refine T_cutP (τ := Int × Int) (γ := Unit) (J := j3) (out := r) (fun s3 y3 => [(3, .pointer (some ⟨g1, 0, none⟩)), (6, .pointer (some ⟨g3, 0, none⟩)), (7, .pointer (some ⟨g4, 0, none⟩)), (8, .int .i64 (s3.1)), (9, .int .i64 (s3.2))]) (fun s3 y3 => [.m g4 51 [.bool (false), .slice (none) (0) (0), .slice (none) (0) (0)], .m g3 51 [.bool (false), .slice (none) (0) (0), .slice (none) (0) (0)], .m g1 26 [.int .i64 (p0.Raster.X0), .int .i64 (p0.Raster.Y0), .int .i64 (p0.Raster.Step), .int .i64 (p0.Raster.NX), .int .i64 (p0.Raster.NY), .slice (A0_0) ((p0.Cells).length) (c0_0)]] ++ [.old w]) (fun s3 y3 => True) ?_ ?_
  · intro s3 y3 hx123 hG124
    subst hj3
    refine T_seq ?_
    refine T_draw [0, 1, 0, 2, 0, 1, 0, 2, 3, 3] [[], [0], [], [0, 1, 2], [], [4], [], [0, 1, 2, 3, 4, 5, 6], [0, 1, 2, 3, 4, 5, 6, 7], [0, 1, 2, 3, 4, 5, 6, 7, 8]] (.q 0 (.q 1 (.q 2 (.q 4 (.q 5 (.q 6 (.e 3 (.e 7 (.e 8 (.e 9 (.done) (.stop)) (.stop)) (.stop)) (.stop)))))))) mixed (by kernel_rfl) (by kernel_rfl) ?_
    refine P_p rfl rfl (Ev_field rfl fld26_0 rfl) rfl ?_
    refine P_q rfl rfl (Ev_loadK rfl (i := 2) rfl rfl agg23) rfl ?_
    refine P_p rfl rfl (Ev_move rfl) rfl ?_
    refine P_p rfl rfl (Ev_field rfl fld26_0 rfl) rfl ?_
    refine P_q rfl rfl (Ev_loadK rfl (i := 2) rfl rfl agg23) rfl ?_
    refine P_p rfl rfl (Ev_move rfl) rfl ?_
    obtain ⟨r125, h126, hx127⟩ := bnd_some hx123
    refine P_x rfl (Wx_callL rfl (fun w1 hw1 => model_times_ok p0.Raster s3.1  h126 w1) rfl ?_) ?_
    rotate_left; exact P_stop
    rintro _ _ hlo ⟨A128, c129, A130, c131, rfl, rfl, -⟩
    refine T_app2 ?_
    obtain ⟨r132, h133, hx134⟩ := bnd_some hx127
    refine P_x rfl (Wx_callL rfl (fun w1 hw1 => model_times_ok p0.Raster s3.2  h133 w1) rfl ?_) ?_
    rotate_left; exact P_stop
    rintro _ _ hlo ⟨A135, c136, A137, c138, rfl, rfl, -⟩
    refine T_app2 ?_
    refine P_h rfl rfl (Wh_store rfl rfl rfl (.there (.there (.there (.there (.there (.here)))))) (.put (.put (.put (.done)))) rfl (List.cons_ne_nil _ _) agg51.2 ?_) ?_
    rotate_left; exact P_stop
    refine P_h rfl rfl (Wh_store rfl rfl rfl (.there (.there (.there (.there (.here))))) (.put (.put (.put (.done)))) rfl (List.cons_ne_nil _ _) agg51.2 ?_) ?_
    rotate_left; exact P_stop
    refine P_done ?_
    refine T_next ?_
    refine T_retc ?_
    obtain rfl := Option.some.inj hx134
    exact T_retP (rs := [.cell 6 51, .cell 7 51]) Try.results20 (.cell rfl (i := 5) rfl rfl agg51 (.cell rfl (i := 4) rfl rfl agg51 (.nil))) (Ln := [.r (A128) ((r125.Num).length) (c129) 27 1 ((r125.Num).flatMap e_u32), .r (A130) ((r125.Den).length) (c131) 27 1 ((r125.Den).flatMap e_u32), .r (A135) ((r132.Num).length) (c136) 27 1 ((r132.Num).flatMap e_u32), .r (A137) ((r132.Den).length) (c138) 27 1 ((r132.Den).flatMap e_u32)]) ⟨A128, c129, A130, c131, A135, c136, A137, c138, rfl, rfl, trivial⟩ (loCons rfl (loCons rfl (loCons rfl (loCons rfl (loNil))))) (by exact .pick 2 rfl (.pick 2 rfl (.pick 0 rfl (.pick 0 rfl (.drop 0 rfl (.drop 0 rfl (.drop 0 rfl (.refl))))))))
  · skip
    refine T_seq ?_
    refine T_reg ?_
    refine T_val (Ev_move rfl) rfl ?_
    refine T_val (Ev_len rfl 3 Try.underlying34) rfl ?_
    refine T_val (Ev_move rfl) rfl ?_
    refine T_nil ?_
    refine T_next ?_
    refine T_block ?_
    obtain ⟨t64, hl64, ho64⟩ := bnd_some hx
    refine T_loopP (σ := Int × Int × Int) (γ := Unit) hl64 (fun s64 y64 => [(3, .pointer (some ⟨g1, 0, none⟩)), (4, .pointer (some ⟨g2, 0, none⟩)), (6, .pointer (some ⟨g3, 0, none⟩)), (7, .pointer (some ⟨g4, 0, none⟩)), (8, .int .i64 (s64.1)), (9, .int .i64 (s64.2.1)), (12, .slice (A0_2) ((p2).length) (c0_2)), (13, .int .i64 ((((p2).length : Nat) : Int))), (14, .int .i64 (s64.2.2))]) (fun s64 y64 => [.m g4 51 [.bool (false), .slice (none) (0) (0), .slice (none) (0) (0)], .m g3 51 [.bool (false), .slice (none) (0) (0), .slice (none) (0) (0)], .m g2 26 [.int .i64 (p1.Raster.X0), .int .i64 (p1.Raster.Y0), .int .i64 (p1.Raster.Step), .int .i64 (p1.Raster.NX), .int .i64 (p1.Raster.NY), .slice (A0_1) ((p1.Cells).length) (c0_1)], .m g1 26 [.int .i64 (p0.Raster.X0), .int .i64 (p0.Raster.Y0), .int .i64 (p0.Raster.Step), .int .i64 (p0.Raster.NX), .int .i64 (p0.Raster.NY), .slice (A0_0) ((p0.Cells).length) (c0_0)]] ++ [.old w]) (fun s64 y64 => True) () trivial (by exact .cons rfl (.cons rfl (.cons rfl (.cons rfl (.cons rfl (.cons rfl (.cons rfl (.cons rfl (.cons rfl (.nil)))))))))) (by exact .pick 0 rfl (.pick 0 rfl (.pick 0 rfl (.pick 0 rfl (.refl))))) ?_
    intro s64 y64 hG64 x64 hx64 ht64
    unfold model_amount_l3 at hx64
    refine T_seq ?_
    refine T_reg ?_
    refine T_val (Ev_lss rfl rfl) rfl ?_
    refine T_nil ?_
    refine T_next ?_
    refine T_seq ?_
    refine T_caseP (s := 15) rfl (fun h65 => ?_) (fun h65 => ?_)
    · have hx66 := ite_t h65 hx64
      refine T_condT rfl ?_
      refine T_skip ?_
      refine T_next ?_
      refine T_seq ?_
      refine T_block ?_
      refine T_seq ?_
      refine T_reg ?_
      obtain ⟨x68, h69, hx70⟩ := bnd_some hx66
      have hw78 := Has.low (E := []) ha2' hK
      obtain ⟨b71, o72, j73, hA74, hj75, hl76, hp77⟩ := Has.at_idx hw78 h69
      refine T_val (Ev_index rfl rfl hA74 (j := j73) hj75 hl76 slc34) rfl ?_
      refine T_val (Ev_loadP0 rfl hp77 (SubE.cons2 (i := 4) rfl (SubE.nil)) rfl one3) rfl ?_
      refine T_val (Ev_assign rfl) rfl ?_
      refine T_nil ?_
      refine T_next ?_
      refine T_seq ?_
      refine T_draw [0, 0, 1, 0, 0, 0, 0, 1, 0, 1, 0, 0, 0, 0, 1, 0, 0, 2] [[], [], [1], [], [1, 2, 3], [1, 2, 3, 4], [1, 2, 3, 4, 5], [1, 2, 3, 4, 5, 6], [], [8], [], [8, 9, 10], [8, 9, 10, 11], [8, 9, 10, 11, 12], [8, 9, 10, 11, 12, 13], [1, 2, 3, 4, 5, 6, 7, 8, 9, 10, 11, 12, 13, 14], [0, 1, 2, 3, 4, 5, 6, 7, 8, 9, 10, 11, 12, 13, 14, 15], [0, 1, 2, 3, 4, 5, 6, 7, 8, 9, 10, 11, 12, 13, 14, 15, 16]] (.q 0 (.q 1 (.q 2 (.q 3 (.q 4 (.q 5 (.q 6 (.q 7 (.q 8 (.q 9 (.q 10 (.q 11 (.q 12 (.q 13 (.q 14 (.q 15 (.q 16 (.e 17 (.done) (.stop))))))))))))))))))) mixed (by kernel_rfl) (by kernel_rfl) ?_
      refine P_p rfl rfl (Ev_move rfl) rfl ?_
      refine P_p rfl rfl (Ev_field rfl fld26_1 rfl) rfl ?_
      refine P_q rfl rfl (Ev_load1 rfl (i := 2) rfl rfl one24) rfl ?_
      refine P_p rfl rfl (Ev_move rfl) rfl ?_
      obtain ⟨x79, h80, hx81⟩ := bnd_some hx70
      have hw89 := Has.low (E := []) ha1' hK
      obtain ⟨b82, o83, j84, hA85, hj86, hl87, hp88⟩ := Has.at_idx hw89 h80
      refine P_p rfl rfl (Ev_index rfl rfl hA85 (j := j84) hj86 hl87 slc24) rfl ?_
      refine P_p rfl rfl (Ev_field rfl fld39_1 rfl) rfl ?_
      refine P_p rfl rfl (Ev_field rfl fld37_0 rfl) rfl ?_
      refine P_q rfl rfl (Ev_loadP1 (d := 1) rfl hp88 (SubE.cons2 (i := 4) rfl (SubE.nil)) rfl one3) rfl ?_
      refine P_p rfl rfl (Ev_field rfl fld26_1 rfl) rfl ?_
      refine P_q rfl rfl (Ev_load1 rfl (i := 3) rfl rfl one24) rfl ?_
      refine P_p rfl rfl (Ev_move rfl) rfl ?_
      obtain ⟨x90, h91, hx92⟩ := bnd_some hx81
      have hw100 := Has.low (E := []) ha0' hK
      obtain ⟨b93, o94, j95, hA96, hj97, hl98, hp99⟩ := Has.at_idx hw100 h91
      refine P_p rfl rfl (Ev_index rfl rfl hA96 (j := j95) hj97 hl98 slc24) rfl ?_
      refine P_p rfl rfl (Ev_field rfl fld39_1 rfl) rfl ?_
      refine P_p rfl rfl (Ev_field rfl fld37_1 rfl) rfl ?_
      refine P_q rfl rfl (Ev_loadP1 (d := 2) rfl hp99 (SubE.cons2 (i := 4) rfl (SubE.nil)) rfl one3) rfl ?_
      refine P_p rfl rfl (Ev_sub_w64 rfl rfl) rfl ?_
      refine P_p rfl rfl (Ev_add_w64 rfl rfl) rfl ?_
      refine P_x rfl (Wx_val (Ev_assign rfl) rfl ?_) ?_
      rotate_left; exact P_stop
      refine P_done ?_
      refine T_next ?_
      refine T_draw [0, 0, 1, 0, 0, 0, 0, 1, 0, 1, 0, 0, 0, 0, 1, 0, 0, 2] [[], [], [1], [], [1, 2, 3], [1, 2, 3, 4], [1, 2, 3, 4, 5], [1, 2, 3, 4, 5, 6], [], [8], [], [8, 9, 10], [8, 9, 10, 11], [8, 9, 10, 11, 12], [8, 9, 10, 11, 12, 13], [1, 2, 3, 4, 5, 6, 7, 8, 9, 10, 11, 12, 13, 14], [0, 1, 2, 3, 4, 5, 6, 7, 8, 9, 10, 11, 12, 13, 14, 15], [0, 1, 2, 3, 4, 5, 6, 7, 8, 9, 10, 11, 12, 13, 14, 15, 16]] (.q 0 (.q 1 (.q 2 (.q 3 (.q 4 (.q 5 (.q 6 (.q 7 (.q 8 (.q 9 (.q 10 (.q 11 (.q 12 (.q 13 (.q 14 (.q 15 (.q 16 (.e 17 (.done) (.stop))))))))))))))))))) mixed (by kernel_rfl) (by kernel_rfl) ?_
      refine P_p rfl rfl (Ev_move rfl) rfl ?_
      refine P_p rfl rfl (Ev_field rfl fld26_1 rfl) rfl ?_
      refine P_q rfl rfl (Ev_load1 rfl (i := 2) rfl rfl one24) rfl ?_
      refine P_p rfl rfl (Ev_move rfl) rfl ?_
      obtain ⟨x101, h102, hx103⟩ := bnd_some hx92
      have hw111 := Has.low (E := []) ha1' hK
      obtain ⟨b104, o105, j106, hA107, hj108, hl109, hp110⟩ := Has.at_idx hw111 h102
      refine P_p rfl rfl (Ev_index rfl rfl hA107 (j := j106) hj108 hl109 slc24) rfl ?_
      refine P_p rfl rfl (Ev_field rfl fld39_1 rfl) rfl ?_
      refine P_p rfl rfl (Ev_field rfl fld37_1 rfl) rfl ?_
      refine P_q rfl rfl (Ev_loadP1 (d := 2) rfl hp110 (SubE.cons2 (i := 4) rfl (SubE.nil)) rfl one3) rfl ?_
      refine P_p rfl rfl (Ev_field rfl fld26_1 rfl) rfl ?_
      refine P_q rfl rfl (Ev_load1 rfl (i := 3) rfl rfl one24) rfl ?_
      refine P_p rfl rfl (Ev_move rfl) rfl ?_
      obtain ⟨x112, h113, hx114⟩ := bnd_some hx103
      have hw122 := Has.low (E := []) ha0' hK
      obtain ⟨b115, o116, j117, hA118, hj119, hl120, hp121⟩ := Has.at_idx hw122 h113
      refine P_p rfl rfl (Ev_index rfl rfl hA118 (j := j117) hj119 hl120 slc24) rfl ?_
      refine P_p rfl rfl (Ev_field rfl fld39_1 rfl) rfl ?_
      refine P_p rfl rfl (Ev_field rfl fld37_0 rfl) rfl ?_
      refine P_q rfl rfl (Ev_loadP1 (d := 1) rfl hp121 (SubE.cons2 (i := 4) rfl (SubE.nil)) rfl one3) rfl ?_
      refine P_p rfl rfl (Ev_sub_w64 rfl rfl) rfl ?_
      refine P_p rfl rfl (Ev_add_w64 rfl rfl) rfl ?_
      refine P_x rfl (Wx_val (Ev_assign rfl) rfl ?_) ?_
      rotate_left; exact P_stop
      refine P_done ?_
      refine T_inN ?_
      refine T_next ?_
      refine T_reg ?_
      refine T_val (Ev_add_w64 rfl rfl) rfl ?_
      refine T_val (Ev_move rfl) rfl ?_
      refine T_nil ?_
      exact T_roundP (w64 (s64.1 + (w64 (x79.Z.Lo - x90.Z.Hi))), w64 (s64.2.1 + (w64 (x101.Z.Hi - x112.Z.Lo))), w64 (s64.2.2 + 1)) () hx114 trivial (by exact .cons rfl (.cons rfl (.cons rfl (.cons rfl (.cons rfl (.cons rfl (.cons rfl (.cons rfl (.cons rfl (.nil)))))))))) (by exact .pick 0 rfl (.pick 0 rfl (.pick 0 rfl (.pick 0 rfl (.refl)))))
    · have hx67 := ite_f h65 hx64
      refine T_condF rfl ?_
      refine T_exit ?_
      refine T_outX ?_
      obtain rfl := exit_eq ht64 hx67
      refine T_outX ?_
      refine T_here ?_
      exact T_metP (s64.1, s64.2.1) () ho64 trivial (by exact .cons rfl (.cons rfl (.cons rfl (.cons rfl (.cons rfl (.nil)))))) (by exact .pick 0 rfl (.pick 0 rfl (.pick 1 rfl (.drop 0 rfl (.refl)))))
end Go.Proofs.Ytdcdabkoajhllaa
