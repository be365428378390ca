/- Walks of the program, with their plain functions: the laws LabelCorrects, LabelSplits. -/
import Derived.Test.YtdkjcoonmgjpfaaJ4b
namespace Go.Proofs.Ytdkjcoonmgjpfaa
open Go Go.RowKit
theorem fld48_0 : FieldOf Try.prog 48 0 0 := .mk Try.underlying48 rfl rfl (show Try.prog.info? 31 = some Try.t31 from by kernel_rfl) (show Try.t31.size = 1 from by kernel_rfl) rfl
theorem fld48_1 : FieldOf Try.prog 48 1 1 := .mk Try.underlying48 rfl rfl (show Try.prog.info? 35 = some Try.t35 from by kernel_rfl) (show Try.t35.size = 1 from by kernel_rfl) rfl
theorem fld48_2 : FieldOf Try.prog 48 2 2 := .mk Try.underlying48 rfl rfl (show Try.prog.info? 43 = some Try.t43 from by kernel_rfl) (show Try.t43.size = 1 from by kernel_rfl) rfl
theorem one43 : OneOf Try.prog 43 := .mk Try.underlying43 rfl (show Try.prog.info? 43 = some Try.t43 from by kernel_rfl) (by kernel_rfl)
theorem fld48_3 : FieldOf Try.prog 48 3 3 := .mk Try.underlying48 rfl rfl (show Try.prog.info? 5 = some Try.t5 from by kernel_rfl) (show Try.t5.size = 1 from by kernel_rfl) rfl
theorem one5 : OneOf Try.prog 5 := .mk Try.underlying5 rfl (show Try.prog.info? 5 = some Try.t5 from by kernel_rfl) (by kernel_rfl)
noncomputable def lidarlaw07_LabelCorrects (p0 : List S_api_Point) (p1 : List Int) (p2 : List S_api_Edit) : Option Bool :=
 jn (fun (s3 : Bool) =>
 if s3 = true then (bnd (lidarlaw07_first) fun r17 =>
 some r17)
 else (bnd (label_Correct p0 p1 p2) fun r21 =>
 bnd (lidarref07_Correct p0 p1 p2) fun r26 =>
 jn (fun (s7 : Bool) =>
 some s7)
 (fun j7 => bnd (lidarlaw07_sameInts r21.1 r26.1) fun r35 =>
 if r35 = true then (if r21.2 = r26.2 then (bnd (lidarlaw07_first) fun r42 =>
 j7 r42)
 else (j7 false))
 else (j7 false))))
 (fun j3 => bnd (lidarlaw07_many p0 40) fun r1 =>
 if r1 = true then (j3 true)
 else (if 300 < ((((p1).length : Nat) : Int)) then (j3 true)
 else (bnd (lidarlaw07_large p2) fun r10 =>
 j3 r10)))
noncomputable def lidarlaw07_LabelSplits (p0 : S_lidarlaw07_Splitting) : Option Bool :=
 jn (fun (s4 : Bool) =>
 if s4 = true then (bnd (lidarlaw07_first) fun r24 =>
 some r24)
 else (gd ((w64 (((((p0.Edits).length : Nat) : Int)) + 1)) ≠ 0) <|
 bnd (label_Correct p0.L p0.Classes p0.Edits) fun r30 =>
 gd (0 ≤ (Int.tmod (w64 (p0.At)) (w64 (((((p0.Edits).length : Nat) : Int)) + 1))) ∧ (Int.tmod (w64 (p0.At)) (w64 (((((p0.Edits).length : Nat) : Int)) + 1))) ≤ (((p0.Edits).length : Nat) : Int)) <|
 bnd (label_Correct p0.L p0.Classes (subl p0.Edits 0 (Int.tmod (w64 (p0.At)) (w64 (((((p0.Edits).length : Nat) : Int)) + 1))))) fun r39 =>
 if r30.2 = 0 then (gd (0 ≤ (Int.tmod (w64 (p0.At)) (w64 (((((p0.Edits).length : Nat) : Int)) + 1))) ∧ (Int.tmod (w64 (p0.At)) (w64 (((((p0.Edits).length : Nat) : Int)) + 1))) ≤ (((p0.Edits).length : Nat) : Int)) <|
 bnd (label_Correct p0.L r39.1 (subl p0.Edits (Int.tmod (w64 (p0.At)) (w64 (((((p0.Edits).length : Nat) : Int)) + 1))) (((p0.Edits).length : Nat) : Int))) fun r61 =>
 jn (fun (s13 : Bool) =>
 some s13)
 (fun j13 => if r39.2 = 0 then (if r61.2 = 0 then (bnd (lidarlaw07_sameInts r30.1 r61.1) fun r74 =>
 if r74 = true then (if ((((r30.1).length : Nat) : Int)) = ((((p0.L).length : Nat) : Int)) then (bnd (lidarlaw07_first) fun r81 =>
 j13 r81)
 else (j13 false))
 else (j13 false))
 else (j13 false))
 else (j13 false)))
 else (jn (fun (s11 : Bool) =>
 some s11)
 (fun j11 => if r30.2 = 73 then (bnd (lidarlaw07_first) fun r48 =>
 j11 r48)
 else (j11 false)))))
 (fun j4 => if 40 < ((((p0.L).length : Nat) : Int)) then (j4 true)
 else (bnd (lidarref07_Valid p0.L) fun r5 =>
 if r5 = true then (if ((((p0.Classes).length : Nat) : Int)) = ((((p0.L).length : Nat) : Int)) then (bnd (lidarlaw07_large p0.Edits) fun r14 =>
 if r14 = true then (j4 true)
 else (j4 (decide (64 < ((((p0.Edits).length : Nat) : Int))))))
 else (j4 true))
 else (j4 true)))
set_option maxRecDepth 100000 in
theorem lidarlaw07_LabelCorrects_ok (p0 : List S_api_Point) (p1 : List Int) (p2 : List S_api_Edit) {K : List Ent} {A0_0 : Option Addr} {c0_0 : Nat} {A0_1 : Option Addr} {c0_1 : Nat} {A0_2 : Option Addr} {c0_2 : Nat} (ha0 : Has K A0_0 (p0).length c0_0 9 e_api_Point (p0)) (ha1 : Has K A0_1 (p1).length c0_1 1 e_i64 (p1)) (ha2 : HasN K A0_2 (p2).length c0_2 4 n_api_Edit (p2)) {r : Bool} (hx : lidarlaw07_LabelCorrects p0 p1 p2 = some r) (w : World) (hK : ∀ e ∈ K, Ent.ok w e) : CtL Try.prog 6 [.slice (A0_0) ((p0).length) (c0_0), .slice (A0_1) ((p1).length) (c0_1), .slice (A0_2) ((p2).length) (c0_2)] w fun v Ln => v = .bool (r) ∧ Ln = [] ∧ True := by
  have ha0' := Has.up0 ha0
  have ha1' := Has.up0 ha1
  have ha2' := HasN.up0 ha2
  refine CtL.mk 48 Try.func6 rfl Try.ntmps6 (by kernel_rfl) rfl ?_
  show T 48 _ [(0, .slice (A0_0) ((p0).length) (c0_0)), (1, .slice (A0_1) ((p1).length) (c0_1)), (2, .slice (A0_2) ((p2).length) (c0_2))] _
  unfold lidarlaw07_LabelCorrects at hx
  refine T_seq ?_
  refine T_reg ?_
  refine T_val (Ev_assign rfl) rfl ?_
  refine T_nil ?_
  refine T_next ?_
  refine T_seq ?_
  obtain ⟨j3, hj3, hx⟩ := jn_some hx
  refine T_cutP (τ := Bool) (γ := Unit) (J := j3) (out := r) (fun s3 y3 => [(0, .slice (A0_0) ((p0).length) (c0_0)), (1, .slice (A0_1) ((p1).length) (c0_1)), (2, .slice (A0_2) ((p2).length) (c0_2)), (21, .bool (s3))]) (fun s3 y3 => [] ++ [.old w]) (fun s3 y3 => True) ?_ ?_
  · intro s3 y3 hx13 hG14
    subst hj3
    refine T_caseB (s := 21) rfl (fun h15 => ?_) (fun h15 => ?_)
    · have hx16 := ite_t h15 hx13
      refine T_condT rfl ?_
      refine T_seq ?_
      refine T_reg ?_
      obtain ⟨r17, h18, hx19⟩ := bnd_some hx16
      refine T_x (Wx_callL rfl (fun w1 hw1 => lidarlaw07_first_ok  h18 w1) rfl ?_)
      rintro _ _ hlo ⟨rfl, rfl, -⟩
      refine T_app0 ?_
      refine T_val (Ev_assign rfl) rfl ?_
      refine T_nil ?_
      refine T_next ?_
      refine T_retc ?_
      refine T_outR ?_
      obtain rfl := Option.some.inj hx19
      exact T_retP (rs := [.tmp 6]) Try.results6 (.tmp rfl (.nil)) (Ln := []) ⟨rfl, rfl, trivial⟩ (loNil) (by exact .refl)
    · have hx20 := ite_bf h15 hx13
      refine T_condF rfl ?_
      refine T_skip ?_
      refine T_next ?_
      refine T_seq ?_
      refine T_reg ?_
      refine T_val (Ev_move rfl) rfl ?_
      refine T_val (Ev_move rfl) rfl ?_
      refine T_val (Ev_move rfl) rfl ?_
      obtain ⟨r21, h22, hx23⟩ := bnd_some hx20
      refine T_x (Wx_callL rfl (fun w1 hw1 => label_Correct_ok p0 p1 p2 (Has.len' ha0') (Has.len' ha1') (HasN.len' ha2') h22 w1 (okApp (K := K) (K2 := []) hK (by exact (SubE.cons2 (i := 0) rfl (SubE.nil))) (by exact (SubE.nil)) hw1)) rfl ?_)
      rintro _ _ hlo ⟨A24, c25, rfl, rfl, -⟩
      refine T_app1 ?_
      refine T_val (Ev_move rfl) rfl ?_
      refine T_val (Ev_extract rfl rfl) rfl ?_
      refine T_val (Ev_extract rfl rfl) rfl ?_
      refine T_val (Ev_assign rfl) rfl ?_
      refine T_val (Ev_assign rfl) rfl ?_
      refine T_nil ?_
      refine T_next ?_
      refine T_seq ?_
      refine T_reg ?_
      refine T_val (Ev_move rfl) rfl ?_
      refine T_val (Ev_move rfl) rfl ?_
      refine T_val (Ev_move rfl) rfl ?_
      obtain ⟨r26, h27, hx28⟩ := bnd_some hx23
      refine T_x (Wx_callL rfl (fun w1 hw1 => lidarref07_Correct_ok p0 p1 p2 (Has.len' ha0') (Has.len' ha1') (HasN.len' ha2') h27 w1 (okApp (K := K) (K2 := []) hK (by exact (SubE.cons2 (i := 1) rfl (SubE.nil))) (by exact (SubE.nil)) hw1)) rfl ?_)
      rintro _ _ hlo ⟨A29, c30, rfl, rfl, -⟩
      refine T_app1 ?_
      refine T_val (Ev_move rfl) rfl ?_
      refine T_val (Ev_extract rfl rfl) rfl ?_
      refine T_val (Ev_extract rfl rfl) rfl ?_
      refine T_val (Ev_assign rfl) rfl ?_
      refine T_val (Ev_assign rfl) rfl ?_
      refine T_nil ?_
      refine T_next ?_
      obtain ⟨j7, hj7, hx28⟩ := jn_some hx28
      refine T_cutP (τ := Bool) (γ := Unit) (J := j7) (out := r) (fun s7 y7 => [(6, .bool (s7))]) (fun s7 y7 => [] ++ [.old w]) (fun s7 y7 => True) ?_ ?_
      · intro s7 y7 hx47 hG48
        subst hj7
        refine T_retc ?_
        obtain rfl := Option.some.inj hx47
        exact T_retP (rs := [.tmp 6]) Try.results6 (.tmp rfl (.nil)) (Ln := []) ⟨rfl, rfl, trivial⟩ (loNil) (by exact .refl)
      · skip
        refine T_reg ?_
        refine T_val (Ev_move rfl) rfl ?_
        refine T_val (Ev_move rfl) rfl ?_
        refine T_rowP (k := 1) rfl (by decide) (fun _ => rfl) (fun hn31 hs32 => ?_)
        refine T_rowP (k := 0) rfl (by decide) (fun _ => rfl) (fun hn33 hs34 => ?_)
        obtain ⟨r35, h36, hx37⟩ := bnd_some hx28
        refine T_x (Wx_callL rfl (fun w1 hw1 => lidarlaw07_sameInts_ok r21.1 r26.1 (Has.len' (Has.up (L := ([.r (A24) ((r21.1).length) (c25) 3 1 ((r21.1).flatMap e_i64), .r (A29) ((r26.1).length) (c30) 3 1 ((r26.1).flatMap e_i64)] : List Ent)) hs32 (SubE.cons2 (i := 0) rfl (SubE.nil)))) (Has.len' (Has.up (L := ([.r (A24) ((r21.1).length) (c25) 3 1 ((r21.1).flatMap e_i64), .r (A29) ((r26.1).length) (c30) 3 1 ((r26.1).flatMap e_i64)] : List Ent)) hs34 (SubE.cons2 (i := 1) rfl (SubE.nil)))) h36 w1 (okAll (K := ([.r (A24) ((r21.1).length) (c25) 3 1 ((r21.1).flatMap e_i64), .r (A29) ((r26.1).length) (c30) 3 1 ((r26.1).flatMap e_i64)] : List Ent)) (by exact (SubE.cons2 (i := 1) rfl (SubE.cons2 (i := 0) rfl (SubE.nil)))) hw1)) rfl ?_)
        rintro _ _ hlo ⟨rfl, rfl, -⟩
        refine T_app0 ?_
        refine T_val (Ev_move rfl) rfl ?_
        refine T_caseB (s := 40) rfl (fun h38 => ?_) (fun h38 => ?_)
        · have hx39 := ite_t h38 hx37
          refine T_valG rfl rfl rfl (Ev_move rfl) rfl ?_
          refine T_valG rfl rfl rfl (Ev_move rfl) rfl ?_
          refine T_valG rfl rfl rfl (Ev_eql rfl rfl) rfl ?_
          refine T_val (Ev_pickT rfl rfl) rfl ?_
          refine T_val (Ev_move rfl) rfl ?_
          refine T_caseP (s := 45) rfl (fun h40 => ?_) (fun h40 => ?_)
          · have hx41 := ite_t h40 hx39
            obtain ⟨r42, h43, hx44⟩ := bnd_some hx41
            refine T_xG rfl rfl rfl (Wx_callL rfl (fun w1 hw1 => lidarlaw07_first_ok  h43 w1) rfl ?_)
            rintro _ _ hlo ⟨rfl, rfl, -⟩
            refine T_app0 ?_
            refine T_val (Ev_pickT rfl rfl) rfl ?_
            refine T_val (Ev_assign rfl) rfl ?_
            refine T_nil ?_
            exact T_metP r42 () hx44 trivial (by exact .cons rfl (.nil)) (by exact .drop 0 rfl (.drop 0 rfl (.refl)))
          · have hx45 := ite_f h40 hx39
            refine T_skipG rfl rfl rfl rfl rfl ?_
            refine T_val (Ev_pickF rfl rfl) rfl ?_
            refine T_val (Ev_assign rfl) rfl ?_
            refine T_nil ?_
            exact T_metP false () hx45 trivial (by exact .cons rfl (.nil)) (by exact .drop 0 rfl (.drop 0 rfl (.refl)))
        · have hx46 := ite_bf h38 hx37
          refine T_skipG rfl rfl rfl rfl rfl ?_
          refine T_skipG rfl rfl rfl rfl rfl ?_
          refine T_skipG rfl rfl rfl rfl rfl ?_
          refine T_val (Ev_pickF rfl rfl) rfl ?_
          refine T_val (Ev_move rfl) rfl ?_
          refine T_skipG rfl rfl rfl rfl rfl ?_
          refine T_val (Ev_pickF rfl rfl) rfl ?_
          refine T_val (Ev_assign rfl) rfl ?_
          refine T_nil ?_
          exact T_metP false () hx46 trivial (by exact .cons rfl (.nil)) (by exact .drop 0 rfl (.drop 0 rfl (.refl)))
  · skip
    refine T_reg ?_
    refine T_val (Ev_move rfl) rfl ?_
    obtain ⟨r1, h2, hx3⟩ := bnd_some hx
    refine T_x (Wx_callL rfl (fun w1 hw1 => lidarlaw07_many_ok p0 40 (Has.len' ha0') h2 w1 (okApp (K := K) (K2 := []) hK (by exact (SubE.cons2 (i := 0) rfl (SubE.nil))) (by exact (SubE.nil)) hw1)) rfl ?_)
    rintro _ _ hlo ⟨rfl, rfl, -⟩
    refine T_app0 ?_
    refine T_val (Ev_move rfl) rfl ?_
    refine T_caseB (s := 13) rfl (fun h4 => ?_) (fun h4 => ?_)
    · have hx5 := ite_t h4 hx3
      refine T_skipG rfl rfl rfl rfl rfl ?_
      refine T_skipG rfl rfl rfl rfl rfl ?_
      refine T_skipG rfl rfl rfl rfl rfl ?_
      refine T_val (Ev_pickT rfl rfl) rfl ?_
      refine T_val (Ev_move rfl) rfl ?_
      refine T_skipG rfl rfl rfl rfl rfl ?_
      refine T_skipG rfl rfl rfl rfl rfl ?_
      refine T_val (Ev_pickT rfl rfl) rfl ?_
      refine T_nil ?_
      exact T_metP true () hx5 trivial (by exact .cons rfl (.cons rfl (.cons rfl (.cons rfl (.nil))))) (by exact .refl)
    · have hx6 := ite_bf h4 hx3
      refine T_valG rfl rfl rfl (Ev_move rfl) rfl ?_
      refine T_valG rfl rfl rfl (Ev_len rfl 3 Try.underlying35) rfl ?_
      refine T_valG rfl rfl rfl (Ev_gtr rfl rfl) rfl ?_
      refine T_val (Ev_pickF rfl rfl) rfl ?_
      refine T_val (Ev_move rfl) rfl ?_
      refine T_caseP (s := 18) rfl (fun h7 => ?_) (fun h7 => ?_)
      · have hx8 := ite_t h7 hx6
        refine T_skipG rfl rfl rfl rfl rfl ?_
        refine T_skipG rfl rfl rfl rfl rfl ?_
        refine T_val (Ev_pickT rfl rfl) rfl ?_
        refine T_nil ?_
        exact T_metP true () hx8 trivial (by exact .cons rfl (.cons rfl (.cons rfl (.cons rfl (.nil))))) (by exact .refl)
      · have hx9 := ite_f h7 hx6
        refine T_valG rfl rfl rfl (Ev_move rfl) rfl ?_
        obtain ⟨r10, h11, hx12⟩ := bnd_some hx9
        refine T_xG rfl rfl rfl (Wx_callL rfl (fun w1 hw1 => lidarlaw07_large_ok p2 (HasN.len' ha2') h11 w1 (okApp (K := K) (K2 := []) hK (by exact (SubE.cons2 (i := 0) rfl (SubE.nil))) (by exact (SubE.nil)) hw1)) rfl ?_)
        rintro _ _ hlo ⟨rfl, rfl, -⟩
        refine T_app0 ?_
        refine T_val (Ev_pickF rfl rfl) rfl ?_
        refine T_nil ?_
        exact T_metP r10 () hx12 trivial (by exact .cons rfl (.cons rfl (.cons rfl (.cons rfl (.nil))))) (by exact .refl)
set_option maxRecDepth 100000 in
theorem lidarlaw07_LabelSplits_ok (p0 : S_lidarlaw07_Splitting) {K : List Ent} {A0_0 : Option Addr} {c0_0 : Nat} {A0_1 : Option Addr} {c0_1 : Nat} {A0_2 : Option Addr} {c0_2 : Nat} (ha0 : Has K A0_0 (p0.L).length c0_0 9 e_api_Point (p0.L)) (ha1 : Has K A0_1 (p0.Classes).length c0_1 1 e_i64 (p0.Classes)) (ha2 : HasN K A0_2 (p0.Edits).length c0_2 4 n_api_Edit (p0.Edits)) {r : Bool} (hx : lidarlaw07_LabelSplits p0 = some r) (w : World) (hK : ∀ e ∈ K, Ent.ok w e) : CtL Try.prog 7 [.agg #[.slice (A0_0) ((p0.L).length) (c0_0), .slice (A0_1) ((p0.Classes).length) (c0_1), .slice (A0_2) ((p0.Edits).length) (c0_2), .int .u8 (p0.At)]] w fun v Ln => v = .bool (r) ∧ Ln = [] ∧ True := by
  have ha0' := Has.up0 ha0
  have ha1' := Has.up0 ha1
  have ha2' := HasN.up0 ha2
  refine CtL.mk 106 Try.func7 rfl Try.ntmps7 (by kernel_rfl) rfl ?_
  show T 106 _ [(0, .agg #[.slice (A0_0) ((p0.L).length) (c0_0), .slice (A0_1) ((p0.Classes).length) (c0_1), .slice (A0_2) ((p0.Edits).length) (c0_2), .int .u8 (p0.At)])] _
  unfold lidarlaw07_LabelSplits at hx
  refine T_seq ?_
  refine T_reg ?_
  refine T_x (Wx_box rfl rfl rfl (fun g1 => ?_))
  refine T_val (Ev_assign rfl) rfl ?_
  refine T_nil ?_
  refine T_next ?_
  refine T_seq ?_
  refine T_draw [0, 1, 0, 1, 0, 1, 0, 1, 2, 2, 2, 2] [[], [0], [], [2], [], [4], [], [6], [0, 1], [0, 1, 2, 3, 8], [0, 1, 2, 3, 4, 5, 8, 9], [0, 1, 2, 3, 4, 5, 6, 7, 8, 9, 10]] (.q 0 (.q 1 (.q 2 (.q 3 (.q 4 (.q 5 (.q 6 (.q 7 (.e 8 (.e 9 (.e 10 (.e 11 (.done) (.stop)) (.stop)) (.stop)) (.stop)))))))))) mixed (by kernel_rfl) (by kernel_rfl) ?_
  refine P_p rfl rfl (Ev_field rfl fld48_0 rfl) rfl ?_
  refine P_q rfl rfl (Ev_load1 rfl (i := 0) rfl rfl one31) rfl ?_
  refine P_p rfl rfl (Ev_field rfl fld48_1 rfl) rfl ?_
  refine P_q rfl rfl (Ev_load1 rfl (i := 0) rfl rfl one35) rfl ?_
  refine P_p rfl rfl (Ev_field rfl fld48_2 rfl) rfl ?_
  refine P_q rfl rfl (Ev_load1 rfl (i := 0) rfl rfl one43) rfl ?_
  refine P_p rfl rfl (Ev_field rfl fld48_3 rfl) rfl ?_
  refine P_q rfl rfl (Ev_load1 rfl (i := 0) rfl rfl one5) rfl ?_
  refine P_x rfl (Wx_val (Ev_assign rfl) rfl ?_) ?_
  rotate_left; exact P_stop
  refine P_x rfl (Wx_val (Ev_assign rfl) rfl ?_) ?_
  rotate_left; exact P_stop
  refine P_x rfl (Wx_val (Ev_assign rfl) rfl ?_) ?_
  rotate_left; exact P_stop
  refine P_x rfl (Wx_val (Ev_assign rfl) rfl ?_) ?_
  rotate_left; exact P_stop
  refine P_done ?_
  refine T_next ?_
  refine T_seq ?_
  obtain ⟨j4, hj4, hx⟩ := jn_some hx
  refine T_cutP (τ := Bool) (γ := Unit) (J := j4) (out := r) (fun s4 y4 => [(3, .slice (A0_0) ((p0.L).length) (c0_0)), (4, .slice (A0_1) ((p0.Classes).length) (c0_1)), (5, .slice (A0_2) ((p0.Edits).length) (c0_2)), (6, .int .u8 (p0.At)), (45, .bool (s4))]) (fun s4 y4 => [] ++ [.old w]) (fun s4 y4 => True) ?_ ?_
  · intro s4 y4 hx20 hG21
    subst hj4
    refine T_caseB (s := 45) rfl (fun h22 => ?_) (fun h22 => ?_)
    · have hx23 := ite_t h22 hx20
      refine T_condT rfl ?_
      refine T_seq ?_
      refine T_reg ?_
      obtain ⟨r24, h25, hx26⟩ := bnd_some hx23
      refine T_x (Wx_callL rfl (fun w1 hw1 => lidarlaw07_first_ok  h25 w1) rfl ?_)
      rintro _ _ hlo ⟨rfl, rfl, -⟩
      refine T_app0 ?_
      refine T_val (Ev_assign rfl) rfl ?_
      refine T_nil ?_
      refine T_next ?_
      refine T_retc ?_
      refine T_outR ?_
      obtain rfl := Option.some.inj hx26
      exact T_retP (rs := [.tmp 2]) Try.results7 (.tmp rfl (.nil)) (Ln := []) ⟨rfl, rfl, trivial⟩ (loNil) (by exact .refl)
    · have hx27 := ite_bf h22 hx20
      refine T_condF rfl ?_
      refine T_skip ?_
      refine T_next ?_
      refine T_seq ?_
      refine T_reg ?_
      refine T_val (Ev_move rfl) rfl ?_
      refine T_val (Ev_conv_w64 rfl (by kernel_rfl) Try.underlying3) rfl ?_
      refine T_val (Ev_move rfl) rfl ?_
      refine T_val (Ev_len rfl 72 Try.underlying43) rfl ?_
      refine T_val (Ev_add_w64 rfl rfl) rfl ?_
      obtain ⟨h28, hx29⟩ := gd_some hx27
      refine T_val (Ev_rem rfl rfl h28) rfl ?_
      refine T_val (Ev_assign rfl) rfl ?_
      refine T_nil ?_
      refine T_next ?_
      refine T_seq ?_
      refine T_reg ?_
      refine T_val (Ev_move rfl) rfl ?_
      refine T_val (Ev_move rfl) rfl ?_
      refine T_val (Ev_move rfl) rfl ?_
      obtain ⟨r30, h31, hx32⟩ := bnd_some hx29
      refine T_x (Wx_callL rfl (fun w1 hw1 => label_Correct_ok p0.L p0.Classes p0.Edits (Has.len' ha0') (Has.len' ha1') (HasN.len' ha2') h31 w1 (okApp (K := K) (K2 := []) hK (by exact (SubE.cons2 (i := 0) rfl (SubE.nil))) (by exact (SubE.nil)) hw1)) rfl ?_)
      rintro _ _ hlo ⟨A33, c34, rfl, rfl, -⟩
      refine T_app1 ?_
      refine T_val (Ev_move rfl) rfl ?_
      refine T_val (Ev_extract rfl rfl) rfl ?_
      refine T_val (Ev_extract rfl rfl) rfl ?_
      refine T_val (Ev_assign rfl) rfl ?_
      refine T_val (Ev_assign rfl) rfl ?_
      refine T_nil ?_
      refine T_next ?_
      refine T_seq ?_
      refine T_reg ?_
      refine T_val (Ev_move rfl) rfl ?_
      refine T_val (Ev_move rfl) rfl ?_
      refine T_val (Ev_move rfl) rfl ?_
      refine T_val (Ev_move rfl) rfl ?_
      obtain ⟨h36, hx37⟩ := gd_some hx32
      have hs35 := HasN.subH ha2' h36.1 h36.2
      refine T_val (Ev_subH rfl rfl slc43 h36.1 (by have := HasN.nc ha2'; omega)) rfl ?_
      refine T_slot (s := 65) (v' := .slice (A0_2) ((subl p0.Edits 0 (Int.tmod (w64 (p0.At)) (w64 (((((p0.Edits).length : Nat) : Int)) + 1)))).length) (c0_2)) rfl (by have hn38 : (Int.toNat (Int.tmod (w64 (p0.At)) (w64 (((((p0.Edits).length : Nat) : Int)) + 1)))) = (subl p0.Edits 0 (Int.tmod (w64 (p0.At)) (w64 (((((p0.Edits).length : Nat) : Int)) + 1)))).length := (HasN.len hs35).symm; first | (rw [← hn38]; done) | rfl) ?_
      obtain ⟨r39, h40, hx41⟩ := bnd_some hx37
      refine T_x (Wx_callL rfl (fun w1 hw1 => label_Correct_ok p0.L p0.Classes (subl p0.Edits 0 (Int.tmod (w64 (p0.At)) (w64 (((((p0.Edits).length : Nat) : Int)) + 1)))) (Has.len' ha0') (Has.len' ha1') (HasN.len' hs35) h40 w1 (okApp (K := K) (K2 := []) hK (by exact (SubE.cons2 (i := 1) rfl (SubE.nil))) (by exact (SubE.nil)) hw1)) rfl ?_)
      rintro _ _ hlo ⟨A42, c43, rfl, rfl, -⟩
      refine T_app1 ?_
      refine T_val (Ev_move rfl) rfl ?_
      refine T_val (Ev_extract rfl rfl) rfl ?_
      refine T_val (Ev_extract rfl rfl) rfl ?_
      refine T_val (Ev_assign rfl) rfl ?_
      refine T_val (Ev_assign rfl) rfl ?_
      refine T_nil ?_
      refine T_next ?_
      refine T_seq ?_
      refine T_seq ?_
      refine T_reg ?_
      refine T_val (Ev_move rfl) rfl ?_
      refine T_val (Ev_neq rfl rfl) rfl ?_
      refine T_nil ?_
      refine T_next ?_
      refine T_caseNP (s := 70) rfl (fun h44 => ?_) (fun h44 => ?_)
      · have hx45 := ite_f h44 hx41
        refine T_condT rfl ?_
        obtain ⟨j11, hj11, hx45⟩ := jn_some hx45
        refine T_cutP (τ := Bool) (γ := Unit) (J := j11) (out := r) (fun s11 y11 => [(2, .bool (s11))]) (fun s11 y11 => [] ++ [.old w]) (fun s11 y11 => True) ?_ ?_
        · intro s11 y11 hx52 hG53
          subst hj11
          refine T_retc ?_
          refine T_outR ?_
          obtain rfl := Option.some.inj hx52
          exact T_retP (rs := [.tmp 2]) Try.results7 (.tmp rfl (.nil)) (Ln := []) ⟨rfl, rfl, trivial⟩ (loNil) (by exact .refl)
        · skip
          refine T_reg ?_
          refine T_val (Ev_move rfl) rfl ?_
          refine T_val (Ev_eql rfl rfl) rfl ?_
          refine T_val (Ev_move rfl) rfl ?_
          refine T_caseP (s := 73) rfl (fun h46 => ?_) (fun h46 => ?_)
          · have hx47 := ite_t h46 hx45
            obtain ⟨r48, h49, hx50⟩ := bnd_some hx47
            refine T_xG rfl rfl rfl (Wx_callL rfl (fun w1 hw1 => lidarlaw07_first_ok  h49 w1) rfl ?_)
            rintro _ _ hlo ⟨rfl, rfl, -⟩
            refine T_app0 ?_
            refine T_val (Ev_pickT rfl rfl) rfl ?_
            refine T_val (Ev_assign rfl) rfl ?_
            refine T_nil ?_
            exact T_metP r48 () hx50 trivial (by exact .cons rfl (.nil)) (by exact .drop 0 rfl (.drop 0 rfl (.refl)))
          · have hx51 := ite_f h46 hx45
            refine T_skipG rfl rfl rfl rfl rfl ?_
            refine T_val (Ev_pickF rfl rfl) rfl ?_
            refine T_val (Ev_assign rfl) rfl ?_
            refine T_nil ?_
            exact T_metP false () hx51 trivial (by exact .cons rfl (.nil)) (by exact .drop 0 rfl (.drop 0 rfl (.refl)))
      · have hx54 := ite_t h44 hx41
        refine T_condF rfl ?_
        refine T_skip ?_
        refine T_next ?_
        refine T_seq ?_
        refine T_reg ?_
        refine T_val (Ev_move rfl) rfl ?_
        refine T_val (Ev_move rfl) rfl ?_
        refine T_val (Ev_move rfl) rfl ?_
        refine T_val (Ev_move rfl) rfl ?_
        obtain ⟨h56, hx57⟩ := gd_some hx54
        have hs55 := HasN.subL ha2' h56.1 h56.2
        refine T_val (Ev_subL rfl rfl slc43 h56.1 h56.2) rfl ?_
        refine T_slot (s := 81) (v' := .slice (slA (A0_2) (c0_2) (Int.toNat (Int.tmod (w64 (p0.At)) (w64 (((((p0.Edits).length : Nat) : Int)) + 1)))) 4) ((subl p0.Edits (Int.tmod (w64 (p0.At)) (w64 (((((p0.Edits).length : Nat) : Int)) + 1))) (((p0.Edits).length : Nat) : Int)).length) (c0_2 - Int.toNat (Int.tmod (w64 (p0.At)) (w64 (((((p0.Edits).length : Nat) : Int)) + 1))))) rfl (by have hn58 : (((p0.Edits).length) - Int.toNat (Int.tmod (w64 (p0.At)) (w64 (((((p0.Edits).length : Nat) : Int)) + 1)))) = (subl p0.Edits (Int.tmod (w64 (p0.At)) (w64 (((((p0.Edits).length : Nat) : Int)) + 1))) (((p0.Edits).length : Nat) : Int)).length := (HasN.len hs55).symm; first | (rw [← hn58]; done) | rfl) ?_
        refine T_rowP (k := 0) rfl (by decide) (fun _ => rfl) (fun hn59 hs60 => ?_)
        obtain ⟨r61, h62, hx63⟩ := bnd_some hx57
        refine T_x (Wx_callL rfl (fun w1 hw1 => label_Correct_ok p0.L r39.1 (subl p0.Edits (Int.tmod (w64 (p0.At)) (w64 (((((p0.Edits).length : Nat) : Int)) + 1))) (((p0.Edits).length : Nat) : Int)) (Has.len' (Has.up (L := (K ++ [.r (A42) ((r39.1).length) (c43) 3 1 ((r39.1).flatMap e_i64)])) ha0' (SubE.app2 SubE.nil))) (Has.len' (Has.up (L := (K ++ [.r (A42) ((r39.1).length) (c43) 3 1 ((r39.1).flatMap e_i64)])) hs60 (SubE.appR2 (SubE.cons2 (i := 0) rfl (SubE.nil))))) (HasN.len' (HasN.up (R := n_api_Edit) (L := (K ++ [.r (A42) ((r39.1).length) (c43) 3 1 ((r39.1).flatMap e_i64)])) n_api_Edit_mono hs55 (SubE.app2 SubE.nil))) h62 w1 (okApp (K := K) (K2 := [.r (A42) ((r39.1).length) (c43) 3 1 ((r39.1).flatMap e_i64)]) hK (by exact (SubE.cons2 (i := 2) rfl (SubE.nil))) (by exact (SubE.cons2 (i := 0) rfl (SubE.nil))) hw1)) rfl ?_)
        rintro _ _ hlo ⟨A64, c65, rfl, rfl, -⟩
        refine T_app1 ?_
        refine T_val (Ev_move rfl) rfl ?_
        refine T_val (Ev_extract rfl rfl) rfl ?_
        refine T_val (Ev_extract rfl rfl) rfl ?_
        refine T_val (Ev_assign rfl) rfl ?_
        refine T_val (Ev_assign rfl) rfl ?_
        refine T_nil ?_
        refine T_next ?_
        obtain ⟨j13, hj13, hx63⟩ := jn_some hx63
        refine T_cutP (τ := Bool) (γ := Unit) (J := j13) (out := r) (fun s13 y13 => [(2, .bool (s13))]) (fun s13 y13 => [] ++ [.old w]) (fun s13 y13 => True) ?_ ?_
        · intro s13 y13 hx88 hG89
          subst hj13
          refine T_retc ?_
          obtain rfl := Option.some.inj hx88
          exact T_retP (rs := [.tmp 2]) Try.results7 (.tmp rfl (.nil)) (Ln := []) ⟨rfl, rfl, trivial⟩ (loNil) (by exact .refl)
        · skip
          refine T_reg ?_
          refine T_val (Ev_move rfl) rfl ?_
          refine T_val (Ev_eql rfl rfl) rfl ?_
          refine T_val (Ev_move rfl) rfl ?_
          refine T_caseP (s := 87) rfl (fun h66 => ?_) (fun h66 => ?_)
          · have hx67 := ite_t h66 hx63
            refine T_valG rfl rfl rfl (Ev_move rfl) rfl ?_
            refine T_valG rfl rfl rfl (Ev_eql rfl rfl) rfl ?_
            refine T_val (Ev_pickT rfl rfl) rfl ?_
            refine T_val (Ev_move rfl) rfl ?_
            refine T_caseP (s := 91) rfl (fun h68 => ?_) (fun h68 => ?_)
            · have hx69 := ite_t h68 hx67
              refine T_valG rfl rfl rfl (Ev_move rfl) rfl ?_
              refine T_valG rfl rfl rfl (Ev_move rfl) rfl ?_
              refine T_rowP (k := 2) rfl (by decide) (fun _ => rfl) (fun hn70 hs71 => ?_)
              refine T_rowP (k := 0) rfl (by decide) (fun _ => rfl) (fun hn72 hs73 => ?_)
              obtain ⟨r74, h75, hx76⟩ := bnd_some hx69
              refine T_xG rfl rfl rfl (Wx_callL rfl (fun w1 hw1 => lidarlaw07_sameInts_ok r30.1 r61.1 (Has.len' (Has.up (L := ([.r (A33) ((r30.1).length) (c34) 3 1 ((r30.1).flatMap e_i64), .r (A64) ((r61.1).length) (c65) 3 1 ((r61.1).flatMap e_i64)] : List Ent)) hs71 (SubE.cons2 (i := 0) rfl (SubE.nil)))) (Has.len' (Has.up (L := ([.r (A33) ((r30.1).length) (c34) 3 1 ((r30.1).flatMap e_i64), .r (A64) ((r61.1).length) (c65) 3 1 ((r61.1).flatMap e_i64)] : List Ent)) hs73 (SubE.cons2 (i := 1) rfl (SubE.nil)))) h75 w1 (okAll (K := ([.r (A33) ((r30.1).length) (c34) 3 1 ((r30.1).flatMap e_i64), .r (A64) ((r61.1).length) (c65) 3 1 ((r61.1).flatMap e_i64)] : List Ent)) (by exact (SubE.cons2 (i := 2) rfl (SubE.cons2 (i := 0) rfl (SubE.nil)))) hw1)) rfl ?_)
              rintro _ _ hlo ⟨rfl, rfl, -⟩
              refine T_app0 ?_
              refine T_val (Ev_pickT rfl rfl) rfl ?_
              refine T_val (Ev_move rfl) rfl ?_
              refine T_caseB (s := 96) rfl (fun h77 => ?_) (fun h77 => ?_)
              · have hx78 := ite_t h77 hx76
                refine T_valG rfl rfl rfl (Ev_move rfl) rfl ?_
                refine T_valG rfl rfl rfl (Ev_len rfl 3 Try.underlying35) rfl ?_
                refine T_valG rfl rfl rfl (Ev_move rfl) rfl ?_
                refine T_valG rfl rfl rfl (Ev_len rfl 53 Try.underlying31) rfl ?_
                refine T_valG rfl rfl rfl (Ev_eql rfl rfl) rfl ?_
                refine T_val (Ev_pickT rfl rfl) rfl ?_
                refine T_val (Ev_move rfl) rfl ?_
                refine T_caseP (s := 103) rfl (fun h79 => ?_) (fun h79 => ?_)
                · have hx80 := ite_t h79 hx78
                  obtain ⟨r81, h82, hx83⟩ := bnd_some hx80
                  refine T_xG rfl rfl rfl (Wx_callL rfl (fun w1 hw1 => lidarlaw07_first_ok  h82 w1) rfl ?_)
                  rintro _ _ hlo ⟨rfl, rfl, -⟩
                  refine T_app0 ?_
                  refine T_val (Ev_pickT rfl rfl) rfl ?_
                  refine T_val (Ev_assign rfl) rfl ?_
                  refine T_nil ?_
                  exact T_metP r81 () hx83 trivial (by exact .cons rfl (.nil)) (by exact .drop 0 rfl (.drop 0 rfl (.drop 0 rfl (.refl))))
                · have hx84 := ite_f h79 hx78
                  refine T_skipG rfl rfl rfl rfl rfl ?_
                  refine T_val (Ev_pickF rfl rfl) rfl ?_
                  refine T_val (Ev_assign rfl) rfl ?_
                  refine T_nil ?_
                  exact T_metP false () hx84 trivial (by exact .cons rfl (.nil)) (by exact .drop 0 rfl (.drop 0 rfl (.drop 0 rfl (.refl))))
              · have hx85 := ite_bf h77 hx76
                refine T_skipG rfl rfl rfl rfl rfl ?_
                refine T_skipG rfl rfl rfl rfl rfl ?_
                refine T_skipG rfl rfl rfl rfl rfl ?_
                refine T_skipG rfl rfl rfl rfl rfl ?_
                refine T_skipG rfl rfl rfl rfl rfl ?_
                refine T_val (Ev_pickF rfl rfl) rfl ?_
                refine T_val (Ev_move rfl) rfl ?_
                refine T_skipG rfl rfl rfl rfl rfl ?_
                refine T_val (Ev_pickF rfl rfl) rfl ?_
                refine T_val (Ev_assign rfl) rfl ?_
                refine T_nil ?_
                exact T_metP false () hx85 trivial (by exact .cons rfl (.nil)) (by exact .drop 0 rfl (.drop 0 rfl (.drop 0 rfl (.refl))))
            · have hx86 := ite_f h68 hx67
              refine T_skipG rfl rfl rfl rfl rfl ?_
              refine T_skipG rfl rfl rfl rfl rfl ?_
              refine T_skipG rfl rfl rfl rfl rfl ?_
              refine T_val (Ev_pickF rfl rfl) rfl ?_
              refine T_val (Ev_move rfl) rfl ?_
              refine T_skipG rfl rfl rfl rfl rfl ?_
              refine T_skipG rfl rfl rfl rfl rfl ?_
              refine T_skipG rfl rfl rfl rfl rfl ?_
              refine T_skipG rfl rfl rfl rfl rfl ?_
              refine T_skipG rfl rfl rfl rfl rfl ?_
              refine T_val (Ev_pickF rfl rfl) rfl ?_
              refine T_val (Ev_move rfl) rfl ?_
              refine T_skipG rfl rfl rfl rfl rfl ?_
              refine T_val (Ev_pickF rfl rfl) rfl ?_
              refine T_val (Ev_assign rfl) rfl ?_
              refine T_nil ?_
              exact T_metP false () hx86 trivial (by exact .cons rfl (.nil)) (by exact .drop 0 rfl (.drop 0 rfl (.drop 0 rfl (.refl))))
          · have hx87 := ite_f h66 hx63
            refine T_skipG rfl rfl rfl rfl rfl ?_
            refine T_skipG rfl rfl rfl rfl rfl ?_
            refine T_val (Ev_pickF rfl rfl) rfl ?_
            refine T_val (Ev_move rfl) rfl ?_
            refine T_skipG rfl rfl rfl rfl rfl ?_
            refine T_skipG rfl rfl rfl rfl rfl ?_
            refine T_skipG rfl rfl rfl rfl rfl ?_
            refine T_val (Ev_pickF rfl rfl) rfl ?_
            refine T_val (Ev_move rfl) rfl ?_
            refine T_skipG rfl rfl rfl rfl rfl ?_
            refine T_skipG rfl rfl rfl rfl rfl ?_
            refine T_skipG rfl rfl rfl rfl rfl ?_
            refine T_skipG rfl rfl rfl rfl rfl ?_
            refine T_skipG rfl rfl rfl rfl rfl ?_
            refine T_val (Ev_pickF rfl rfl) rfl ?_
            refine T_val (Ev_move rfl) rfl ?_
            refine T_skipG rfl rfl rfl rfl rfl ?_
            refine T_val (Ev_pickF rfl rfl) rfl ?_
            refine T_val (Ev_assign rfl) rfl ?_
            refine T_nil ?_
            exact T_metP false () hx87 trivial (by exact .cons rfl (.nil)) (by exact .drop 0 rfl (.drop 0 rfl (.drop 0 rfl (.refl))))
  · skip
    refine T_reg ?_
    refine T_val (Ev_move rfl) rfl ?_
    refine T_val (Ev_len rfl 53 Try.underlying31) rfl ?_
    refine T_val (Ev_gtr rfl rfl) rfl ?_
    refine T_val (Ev_move rfl) rfl ?_
    refine T_caseP (s := 25) rfl (fun h2 => ?_) (fun h2 => ?_)
    · have hx3 := ite_t h2 hx
      refine T_skipG rfl rfl rfl rfl rfl ?_
      refine T_skipG rfl rfl rfl rfl rfl ?_
      refine T_skipG rfl rfl rfl rfl rfl ?_
      refine T_val (Ev_pickT rfl rfl) rfl ?_
      refine T_val (Ev_move rfl) rfl ?_
      refine T_skipG rfl rfl rfl rfl rfl ?_
      refine T_skipG rfl rfl rfl rfl rfl ?_
      refine T_skipG rfl rfl rfl rfl rfl ?_
      refine T_skipG rfl rfl rfl rfl rfl ?_
      refine T_skipG rfl rfl rfl rfl rfl ?_
      refine T_val (Ev_pickT rfl rfl) rfl ?_
      refine T_val (Ev_move rfl) rfl ?_
      refine T_skipG rfl rfl rfl rfl rfl ?_
      refine T_skipG rfl rfl rfl rfl rfl ?_
      refine T_val (Ev_pickT rfl rfl) rfl ?_
      refine T_val (Ev_move rfl) rfl ?_
      refine T_skipG rfl rfl rfl rfl rfl ?_
      refine T_skipG rfl rfl rfl rfl rfl ?_
      refine T_skipG rfl rfl rfl rfl rfl ?_
      refine T_val (Ev_pickT rfl rfl) rfl ?_
      refine T_nil ?_
      exact T_metP true () hx3 trivial (by exact .cons rfl (.cons rfl (.cons rfl (.cons rfl (.cons rfl (.nil)))))) (by exact .drop 0 rfl (.refl))
    · have hx4 := ite_f h2 hx
      refine T_valG rfl rfl rfl (Ev_move rfl) rfl ?_
      obtain ⟨r5, h6, hx7⟩ := bnd_some hx4
      refine T_xG rfl rfl rfl (Wx_callL rfl (fun w1 hw1 => lidarref07_Valid_ok p0.L (Has.len' ha0') h6 w1 (okApp (K := K) (K2 := []) hK (by exact (SubE.cons2 (i := 1) rfl (SubE.nil))) (by exact (SubE.nil)) hw1)) rfl ?_)
      rintro _ _ hlo ⟨rfl, rfl, -⟩
      refine T_app0 ?_
      refine T_valG rfl rfl rfl (Ev_not rfl) rfl ?_
      refine T_val (Ev_pickF rfl rfl) rfl ?_
      refine T_val (Ev_move rfl) rfl ?_
      refine T_caseNB (s := 30) rfl (fun h8 => ?_) (fun h8 => ?_)
      · have hx9 := ite_bf h8 hx7
        refine T_skipG rfl rfl rfl rfl rfl ?_
        refine T_skipG rfl rfl rfl rfl rfl ?_
        refine T_skipG rfl rfl rfl rfl rfl ?_
        refine T_skipG rfl rfl rfl rfl rfl ?_
        refine T_skipG rfl rfl rfl rfl rfl ?_
        refine T_val (Ev_pickT rfl rfl) rfl ?_
        refine T_val (Ev_move rfl) rfl ?_
        refine T_skipG rfl rfl rfl rfl rfl ?_
        refine T_skipG rfl rfl rfl rfl rfl ?_
        refine T_val (Ev_pickT rfl rfl) rfl ?_
        refine T_val (Ev_move rfl) rfl ?_
        refine T_skipG rfl rfl rfl rfl rfl ?_
        refine T_skipG rfl rfl rfl rfl rfl ?_
        refine T_skipG rfl rfl rfl rfl rfl ?_
        refine T_val (Ev_pickT rfl rfl) rfl ?_
        refine T_nil ?_
        exact T_metP true () hx9 trivial (by exact .cons rfl (.cons rfl (.cons rfl (.cons rfl (.cons rfl (.nil)))))) (by exact .drop 0 rfl (.refl))
      · have hx10 := ite_t h8 hx7
        refine T_valG rfl rfl rfl (Ev_move rfl) rfl ?_
        refine T_valG rfl rfl rfl (Ev_len rfl 3 Try.underlying35) rfl ?_
        refine T_valG rfl rfl rfl (Ev_move rfl) rfl ?_
        refine T_valG rfl rfl rfl (Ev_len rfl 53 Try.underlying31) rfl ?_
        refine T_valG rfl rfl rfl (Ev_neq rfl rfl) rfl ?_
        refine T_val (Ev_pickF rfl rfl) rfl ?_
        refine T_val (Ev_move rfl) rfl ?_
        refine T_caseNP (s := 37) rfl (fun h11 => ?_) (fun h11 => ?_)
        · have hx12 := ite_f h11 hx10
          refine T_skipG rfl rfl rfl rfl rfl ?_
          refine T_skipG rfl rfl rfl rfl rfl ?_
          refine T_val (Ev_pickT rfl rfl) rfl ?_
          refine T_val (Ev_move rfl) rfl ?_
          refine T_skipG rfl rfl rfl rfl rfl ?_
          refine T_skipG rfl rfl rfl rfl rfl ?_
          refine T_skipG rfl rfl rfl rfl rfl ?_
          refine T_val (Ev_pickT rfl rfl) rfl ?_
          refine T_nil ?_
          exact T_metP true () hx12 trivial (by exact .cons rfl (.cons rfl (.cons rfl (.cons rfl (.cons rfl (.nil)))))) (by exact .drop 0 rfl (.refl))
        · have hx13 := ite_t h11 hx10
          refine T_valG rfl rfl rfl (Ev_move rfl) rfl ?_
          obtain ⟨r14, h15, hx16⟩ := bnd_some hx13
          refine T_xG rfl rfl rfl (Wx_callL rfl (fun w1 hw1 => lidarlaw07_large_ok p0.Edits (HasN.len' ha2') h15 w1 (okApp (K := K) (K2 := []) hK (by exact (SubE.cons2 (i := 1) rfl (SubE.nil))) (by exact (SubE.nil)) hw1)) rfl ?_)
          rintro _ _ hlo ⟨rfl, rfl, -⟩
          refine T_app0 ?_
          refine T_val (Ev_pickF rfl rfl) rfl ?_
          refine T_val (Ev_move rfl) rfl ?_
          refine T_caseB (s := 41) rfl (fun h17 => ?_) (fun h17 => ?_)
          · have hx18 := ite_t h17 hx16
            refine T_skipG rfl rfl rfl rfl rfl ?_
            refine T_skipG rfl rfl rfl rfl rfl ?_
            refine T_skipG rfl rfl rfl rfl rfl ?_
            refine T_val (Ev_pickT rfl rfl) rfl ?_
            refine T_nil ?_
            exact T_metP true () hx18 trivial (by exact .cons rfl (.cons rfl (.cons rfl (.cons rfl (.cons rfl (.nil)))))) (by exact .drop 0 rfl (.refl))
          · have hx19 := ite_bf h17 hx16
            refine T_valG rfl rfl rfl (Ev_move rfl) rfl ?_
            refine T_valG rfl rfl rfl (Ev_len rfl 72 Try.underlying43) rfl ?_
            refine T_valG rfl rfl rfl (Ev_gtr rfl rfl) rfl ?_
            refine T_val (Ev_pickF rfl rfl) rfl ?_
            refine T_nil ?_
            exact T_metP (decide (64 < ((((p0.Edits).length : Nat) : Int)))) () hx19 trivial (by exact .cons rfl (.cons rfl (.cons rfl (.cons rfl (.cons rfl (.nil)))))) (by exact .drop 0 rfl (.refl))
end Go.Proofs.Ytdkjcoonmgjpfaa
