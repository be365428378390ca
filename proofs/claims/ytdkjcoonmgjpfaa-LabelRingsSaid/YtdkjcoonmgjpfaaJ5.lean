/- Walks of the program, with their plain functions: the laws LabelWithin, LabelRings, LabelPoints. -/
import Derived.Test.YtdkjcoonmgjpfaaJ4b
namespace Go.Proofs.Ytdkjcoonmgjpfaa
open Go Go.RowKit

noncomputable def lidarlaw07_LabelWithin (p0 : List S_api_XY) (p1 : S_api_XY) : Option Bool :=
 if 1000 < ((((p0).length : Nat) : Int)) then (bnd (lidarlaw07_first) fun r4 =>
 some r4)
 else (bnd (label_Within p0 p1) fun r8 =>
 bnd (lidarref07_Within p0 p1) fun r11 =>
 jn (fun (s7 : Bool) =>
 some s7)
 (fun j7 => if ((r8.1) == (r11.1)) = true then (if r8.2 = r11.2 then (bnd (lidarlaw07_first) fun r18 =>
 j7 r18)
 else (j7 false))
 else (j7 false)))
noncomputable def lidarlaw07_LabelRings_l10 (p0 : List S_api_XY) (p2 : Int) : ((List S_api_XY) × (List S_api_XY) × Int) → Option (Sum ((List S_api_XY) × (List S_api_XY) × Int) ((List S_api_XY) × (List S_api_XY))) := fun s74 =>
 if s74.2.2 < ((((p0).length : Nat) : Int)) then (gd (((((p0).length : Nat) : Int)) ≠ 0) <|
 bnd (idx p0 (Int.tmod (w64 (s74.2.2 + (w64 (p2)))) ((((p0).length : Nat) : Int)))) fun x82 =>
 gd (((s74.1).length + 1) * 16 ≤ 140737488355328) <|
 bnd (idx p0 (w64 ((w64 (((((p0).length : Nat) : Int)) - 1)) - s74.2.2))) fun x98 =>
 gd (((s74.2.1).length + 1) * 16 ≤ 140737488355328) <|
 some (.inl (s74.1 ++ [x82], s74.2.1 ++ [x98], w64 (s74.2.2 + 1))))
 else (some (.inr (s74.1, s74.2.1)))
noncomputable def lidarlaw07_LabelRings (p0 : List S_api_XY) (p1 : S_api_XY) (p2 : Int) : Option Bool :=
 if 100 < ((((p0).length : Nat) : Int)) then (bnd (lidarlaw07_first) fun r4 =>
 some r4)
 else (bnd (label_Within p0 p1) fun r8 =>
 if r8.2 = 0 then (if ((((p0).length : Nat) : Int)) = 0 then (some false)
 else (jn (fun (s13 : (List S_api_XY) × (List S_api_XY)) =>
 bnd (label_Within s13.1 p1) fun r118 =>
 bnd (label_Within s13.2 p1) fun r123 =>
 jn (fun (s26 : Bool) =>
 if s26 = true then (some false)
 else (gd (((((p0).length : Nat) : Int)) ≠ 0) <|
 jn (fun (s29 : Int × Int × Int × Int) =>
 bnd (label_Within p0 (⟨s29.1, s29.2.1⟩ : S_api_XY)) fun r199 =>
 jn (fun (s32 : Bool) =>
 if s32 = true then (some false)
 else (jn (fun (s35 : Bool) =>
 if s35 = true then (bnd (lidarlaw07_first) fun r217 =>
 some r217)
 else (bnd (label_Within p0 (⟨w64 (Int.tdiv (w64 (s29.1 + s29.2.2.1)) 2), w64 (Int.tdiv (w64 (s29.2.1 + s29.2.2.2)) 2)⟩ : S_api_XY)) fun r221 =>
 jn (fun (s38 : Bool) =>
 some s38)
 (fun j38 => if r221.2 = 0 then (if r221.1 = true then (bnd (lidarlaw07_first) fun r228 =>
 j38 r228)
 else (j38 false))
 else (j38 false))))
 (fun j35 => if (Int.tmod (w64 (s29.1 + s29.2.2.1)) 2) = 0 then (j35 (!(decide ((Int.tmod (w64 (s29.2.1 + s29.2.2.2)) 2) = 0))))
 else (j35 true))))
 (fun j32 => if r199.2 = 0 then (j32 (!(r199.1)))
 else (j32 true)))
 (fun j29 => bnd (idx p0 (Int.tmod (w64 (p2)) ((((p0).length : Nat) : Int)))) fun x142 =>
 gd (((((p0).length : Nat) : Int)) ≠ 0) <|
 bnd (idx p0 (Int.tmod (w64 ((Int.tmod (w64 (p2)) ((((p0).length : Nat) : Int))) + 1)) ((((p0).length : Nat) : Int)))) fun x155 =>
 j29 (x142.X, x142.Y, x155.X, x155.Y))))
 (fun j26 => if r118.2 = 0 then (if r123.2 = 0 then (if ((r118.1) == (r8.1)) = true then (j26 (!((r123.1) == (r8.1))))
 else (j26 true))
 else (j26 true))
 else (j26 true)))
 (fun j13 => bnd (lfix (lidarlaw07_LabelRings_l10 p0 p2) (([] : List S_api_XY), ([] : List S_api_XY), 0)) fun t74 =>
 j13 t74)))
 else (jn (fun (s8 : Bool) =>
 some s8)
 (fun j8 => if r8.1 = true then (j8 false)
 else (if r8.2 = 72 then (bnd (lidarlaw07_first) fun r17 =>
 j8 r17)
 else (if r8.2 = 11 then (bnd (lidarlaw07_first) fun r23 =>
 j8 r23)
 else (j8 false))))))
noncomputable def lidarlaw07_LabelPoints (p0 : List S_api_Point) (p1 : S_api_Terrain) : Option Bool :=
 bnd (lidarlaw07_many p0 40) fun r2 =>
 if r2 = true then (bnd (lidarlaw07_first) fun r7 =>
 some r7)
 else (bnd (label_Sunk p0 p1) fun r11 =>
 bnd (lidarref07_Sunk p0 p1) fun r16 =>
 bnd (label_Lowest p0) fun r21 =>
 bnd (lidarref07_Lowest p0) fun r26 =>
 jn (fun (s10 : Bool) =>
 if s10 = true then (some false)
 else (bnd (label_Seeds p0 p1) fun r77 =>
 bnd (lidarref07_Seeds p0 p1) fun r82 =>
 jn (fun (s14 : Bool) =>
 some s14)
 (fun j14 => bnd (lidarlaw07_sameInts r77.1 r82.1) fun r91 =>
 if r91 = true then (if r77.2 = r82.2 then (bnd (lidarlaw07_first) fun r98 =>
 j14 r98)
 else (j14 false))
 else (j14 false))))
 (fun j10 => bnd (label_Valid p0) fun r31 =>
 bnd (lidarref07_Valid p0) fun r34 =>
 if ((r31) == (r34)) = true then (bnd (label_ValidRules p1) fun r40 =>
 bnd (lidarref07_ValidRules p1) fun r43 =>
 if ((r40) == (r43)) = true then (bnd (lidarlaw07_sameInts r11.1 r16.1) fun r53 =>
 if r53 = true then (if r11.2 = r16.2 then (bnd (lidarlaw07_sameInts r21.1 r26.1) fun r66 =>
 if r66 = true then (j10 (!(decide (r21.2 = r26.2))))
 else (j10 true))
 else (j10 true))
 else (j10 true))
 else (j10 true))
 else (j10 true)))
set_option maxRecDepth 100000 in
theorem lidarlaw07_LabelWithin_ok (p0 : List S_api_XY) (p1 : S_api_XY) {K : List Ent} {A0_0 : Option Addr} {c0_0 : Nat} (ha0 : Has K A0_0 (p0).length c0_0 2 e_api_XY (p0)) {r : Bool} (hx : lidarlaw07_LabelWithin p0 p1 = some r) (w : World) (hK : ∀ e ∈ K, Ent.ok w e) : CtL Try.prog 3 [.slice (A0_0) ((p0).length) (c0_0), .agg #[.int .i64 (p1.X), .int .i64 (p1.Y)]] w fun v Ln => v = .bool (r) ∧ Ln = [] ∧ True := by
  have ha0' := Has.up0 ha0
  refine CtL.mk 36 Try.func3 rfl Try.ntmps3 (by kernel_rfl) rfl ?_
  show T 36 _ [(0, .slice (A0_0) ((p0).length) (c0_0)), (1, .agg #[.int .i64 (p1.X), .int .i64 (p1.Y)])] _
  unfold lidarlaw07_LabelWithin at hx
  refine T_seq ?_
  refine T_reg ?_
  refine T_x (Wx_box rfl rfl rfl (fun g1 => ?_))
  refine T_val (Ev_assign rfl) rfl ?_
  refine T_nil ?_
  refine T_next ?_
  refine T_seq ?_
  refine T_seq ?_
  refine T_reg ?_
  refine T_val (Ev_move rfl) rfl ?_
  refine T_val (Ev_len rfl 24 Try.underlying22) rfl ?_
  refine T_val (Ev_gtr rfl rfl) rfl ?_
  refine T_nil ?_
  refine T_next ?_
  refine T_caseP (s := 11) rfl (fun h2 => ?_) (fun h2 => ?_)
  · have hx3 := ite_t h2 hx
    refine T_condT rfl ?_
    refine T_seq ?_
    refine T_reg ?_
    obtain ⟨r4, h5, hx6⟩ := bnd_some hx3
    refine T_x (Wx_callL rfl (fun w1 hw1 => lidarlaw07_first_ok  h5 w1) rfl ?_)
    rintro _ _ hlo ⟨rfl, rfl, -⟩
    refine T_app0 ?_
    refine T_val (Ev_assign rfl) rfl ?_
    refine T_nil ?_
    refine T_next ?_
    refine T_retc ?_
    refine T_outR ?_
    obtain rfl := Option.some.inj hx6
    exact T_retP (rs := [.tmp 4]) Try.results3 (.tmp rfl (.nil)) (Ln := []) ⟨rfl, rfl, trivial⟩ (loNil) (by exact .drop 0 rfl (.refl))
  · have hx7 := ite_f h2 hx
    refine T_condF rfl ?_
    refine T_skip ?_
    refine T_next ?_
    refine T_seq ?_
    refine T_reg ?_
    refine T_val (Ev_move rfl) rfl ?_
    refine T_val (Ev_loadK rfl (i := 0) rfl rfl agg24) rfl ?_
    obtain ⟨r8, h9, hx10⟩ := bnd_some hx7
    refine T_x (Wx_callL rfl (fun w1 hw1 => label_Within_ok p0 p1 (Has.len' ha0') h9 w1 (okApp (K := K) (K2 := []) hK (by exact (SubE.cons2 (i := 1) rfl (SubE.nil))) (by exact (SubE.nil)) hw1)) rfl ?_)
    rintro _ _ hlo ⟨rfl, rfl, -⟩
    refine T_app0 ?_
    refine T_val (Ev_move rfl) rfl ?_
    refine T_val (Ev_extract rfl rfl) rfl ?_
    refine T_val (Ev_extract rfl rfl) rfl ?_
    refine T_val (Ev_assign rfl) rfl ?_
    refine T_val (Ev_assign rfl) rfl ?_
    refine T_nil ?_
    refine T_next ?_
    refine T_seq ?_
    refine T_reg ?_
    refine T_val (Ev_move rfl) rfl ?_
    refine T_val (Ev_loadK rfl (i := 0) rfl rfl agg24) rfl ?_
    obtain ⟨r11, h12, hx13⟩ := bnd_some hx10
    refine T_x (Wx_callL rfl (fun w1 hw1 => lidarref07_Within_ok p0 p1 (Has.len' ha0') h12 w1 (okApp (K := K) (K2 := []) hK (by exact (SubE.cons2 (i := 1) rfl (SubE.nil))) (by exact (SubE.nil)) hw1)) rfl ?_)
    rintro _ _ hlo ⟨rfl, rfl, -⟩
    refine T_app0 ?_
    refine T_val (Ev_move rfl) rfl ?_
    refine T_val (Ev_extract rfl rfl) rfl ?_
    refine T_val (Ev_extract rfl rfl) rfl ?_
    refine T_val (Ev_assign rfl) rfl ?_
    refine T_val (Ev_assign rfl) rfl ?_
    refine T_nil ?_
    refine T_next ?_
    obtain ⟨j7, hj7, hx13⟩ := jn_some hx13
    refine T_cutP (τ := Bool) (γ := Unit) (J := j7) (out := r) (fun s7 y7 => [(4, .bool (s7))]) (fun s7 y7 => [] ++ [.old w]) (fun s7 y7 => True) ?_ ?_
    · intro s7 y7 hx23 hG24
      subst hj7
      refine T_retc ?_
      obtain rfl := Option.some.inj hx23
      exact T_retP (rs := [.tmp 4]) Try.results3 (.tmp rfl (.nil)) (Ln := []) ⟨rfl, rfl, trivial⟩ (loNil) (by exact .refl)
    · skip
      refine T_reg ?_
      refine T_val (Ev_move rfl) rfl ?_
      refine T_val (Ev_move rfl) rfl ?_
      refine T_val (Ev_eqlB rfl rfl (by kernel_rfl)) rfl ?_
      refine T_val (Ev_move rfl) rfl ?_
      refine T_caseB (s := 28) rfl (fun h14 => ?_) (fun h14 => ?_)
      · have hx15 := ite_t h14 hx13
        refine T_valG rfl rfl rfl (Ev_move rfl) rfl ?_
        refine T_valG rfl rfl rfl (Ev_move rfl) rfl ?_
        refine T_valG rfl rfl rfl (Ev_eql rfl rfl) rfl ?_
        refine T_val (Ev_pickT rfl rfl) rfl ?_
        refine T_val (Ev_move rfl) rfl ?_
        refine T_caseP (s := 33) rfl (fun h16 => ?_) (fun h16 => ?_)
        · have hx17 := ite_t h16 hx15
          obtain ⟨r18, h19, hx20⟩ := bnd_some hx17
          refine T_xG rfl rfl rfl (Wx_callL rfl (fun w1 hw1 => lidarlaw07_first_ok  h19 w1) rfl ?_)
          rintro _ _ hlo ⟨rfl, rfl, -⟩
          refine T_app0 ?_
          refine T_val (Ev_pickT rfl rfl) rfl ?_
          refine T_val (Ev_assign rfl) rfl ?_
          refine T_nil ?_
          exact T_metP r18 () hx20 trivial (by exact .cons rfl (.nil)) (by exact .drop 0 rfl (.refl))
        · have hx21 := ite_f h16 hx15
          refine T_skipG rfl rfl rfl rfl rfl ?_
          refine T_val (Ev_pickF rfl rfl) rfl ?_
          refine T_val (Ev_assign rfl) rfl ?_
          refine T_nil ?_
          exact T_metP false () hx21 trivial (by exact .cons rfl (.nil)) (by exact .drop 0 rfl (.refl))
      · have hx22 := ite_bf h14 hx13
        refine T_skipG rfl rfl rfl rfl rfl ?_
        refine T_skipG rfl rfl rfl rfl rfl ?_
        refine T_skipG rfl rfl rfl rfl rfl ?_
        refine T_val (Ev_pickF rfl rfl) rfl ?_
        refine T_val (Ev_move rfl) rfl ?_
        refine T_skipG rfl rfl rfl rfl rfl ?_
        refine T_val (Ev_pickF rfl rfl) rfl ?_
        refine T_val (Ev_assign rfl) rfl ?_
        refine T_nil ?_
        exact T_metP false () hx22 trivial (by exact .cons rfl (.nil)) (by exact .drop 0 rfl (.refl))
set_option maxRecDepth 100000 in
theorem lidarlaw07_LabelRings_ok (p0 : List S_api_XY) (p1 : S_api_XY) (p2 : Int) {K : List Ent} {A0_0 : Option Addr} {c0_0 : Nat} (ha0 : Has K A0_0 (p0).length c0_0 2 e_api_XY (p0)) {r : Bool} (hx : lidarlaw07_LabelRings p0 p1 p2 = some r) (w : World) (hK : ∀ e ∈ K, Ent.ok w e) : CtL Try.prog 4 [.slice (A0_0) ((p0).length) (c0_0), .agg #[.int .i64 (p1.X), .int .i64 (p1.Y)], .int .u8 (p2)] w fun v Ln => v = .bool (r) ∧ Ln = [] ∧ True := by
  have ha0' := Has.up0 ha0
  refine CtL.mk 178 Try.func4 rfl Try.ntmps4 (by kernel_rfl) rfl ?_
  show T 178 _ [(0, .slice (A0_0) ((p0).length) (c0_0)), (1, .agg #[.int .i64 (p1.X), .int .i64 (p1.Y)]), (2, .int .u8 (p2))] _
  unfold lidarlaw07_LabelRings at hx
  refine T_seq ?_
  refine T_reg ?_
  refine T_x (Wx_box rfl rfl rfl (fun g1 => ?_))
  refine T_val (Ev_assign rfl) rfl ?_
  refine T_nil ?_
  refine T_next ?_
  refine T_seq ?_
  refine T_seq ?_
  refine T_reg ?_
  refine T_val (Ev_move rfl) rfl ?_
  refine T_val (Ev_len rfl 24 Try.underlying22) rfl ?_
  refine T_val (Ev_gtr rfl rfl) rfl ?_
  refine T_nil ?_
  refine T_next ?_
  refine T_caseP (s := 22) rfl (fun h2 => ?_) (fun h2 => ?_)
  · have hx3 := ite_t h2 hx
    refine T_condT rfl ?_
    refine T_seq ?_
    refine T_reg ?_
    obtain ⟨r4, h5, hx6⟩ := bnd_some hx3
    refine T_x (Wx_callL rfl (fun w1 hw1 => lidarlaw07_first_ok  h5 w1) rfl ?_)
    rintro _ _ hlo ⟨rfl, rfl, -⟩
    refine T_app0 ?_
    refine T_val (Ev_assign rfl) rfl ?_
    refine T_nil ?_
    refine T_next ?_
    refine T_retc ?_
    refine T_outR ?_
    obtain rfl := Option.some.inj hx6
    exact T_retP (rs := [.tmp 6]) Try.results4 (.tmp rfl (.nil)) (Ln := []) ⟨rfl, rfl, trivial⟩ (loNil) (by exact .drop 0 rfl (.refl))
  · have hx7 := ite_f h2 hx
    refine T_condF rfl ?_
    refine T_skip ?_
    refine T_next ?_
    refine T_seq ?_
    refine T_reg ?_
    refine T_val (Ev_move rfl) rfl ?_
    refine T_val (Ev_loadK rfl (i := 0) rfl rfl agg24) rfl ?_
    obtain ⟨r8, h9, hx10⟩ := bnd_some hx7
    refine T_x (Wx_callL rfl (fun w1 hw1 => label_Within_ok p0 p1 (Has.len' ha0') h9 w1 (okApp (K := K) (K2 := []) hK (by exact (SubE.cons2 (i := 1) rfl (SubE.nil))) (by exact (SubE.nil)) hw1)) rfl ?_)
    rintro _ _ hlo ⟨rfl, rfl, -⟩
    refine T_app0 ?_
    refine T_val (Ev_move rfl) rfl ?_
    refine T_val (Ev_extract rfl rfl) rfl ?_
    refine T_val (Ev_extract rfl rfl) rfl ?_
    refine T_val (Ev_assign rfl) rfl ?_
    refine T_val (Ev_assign rfl) rfl ?_
    refine T_nil ?_
    refine T_next ?_
    refine T_seq ?_
    refine T_seq ?_
    refine T_reg ?_
    refine T_val (Ev_move rfl) rfl ?_
    refine T_val (Ev_neq rfl rfl) rfl ?_
    refine T_nil ?_
    refine T_next ?_
    refine T_caseNP (s := 31) rfl (fun h11 => ?_) (fun h11 => ?_)
    · have hx12 := ite_f h11 hx10
      refine T_condT rfl ?_
      obtain ⟨j8, hj8, hx12⟩ := jn_some hx12
      refine T_cutP (τ := Bool) (γ := Unit) (J := j8) (out := r) (fun s8 y8 => [(6, .bool (s8))]) (fun s8 y8 => [] ++ [.old w]) (fun s8 y8 => True) ?_ ?_
      · intro s8 y8 hx28 hG29
        subst hj8
        refine T_retc ?_
        refine T_outR ?_
        obtain rfl := Option.some.inj hx28
        exact T_retP (rs := [.tmp 6]) Try.results4 (.tmp rfl (.nil)) (Ln := []) ⟨rfl, rfl, trivial⟩ (loNil) (by exact .refl)
      · skip
        refine T_reg ?_
        refine T_val (Ev_move rfl) rfl ?_
        refine T_val (Ev_not rfl) rfl ?_
        refine T_val (Ev_move rfl) rfl ?_
        refine T_caseNB (s := 34) rfl (fun h13 => ?_) (fun h13 => ?_)
        · have hx14 := ite_bf h13 hx12
          refine T_valG rfl rfl rfl (Ev_move rfl) rfl ?_
          refine T_valG rfl rfl rfl (Ev_eql rfl rfl) rfl ?_
          refine T_valG rfl rfl rfl (Ev_move rfl) rfl ?_
          refine T_caseP (s := 37) rfl (fun h15 => ?_) (fun h15 => ?_)
          · have hx16 := ite_t h15 hx14
            refine T_skipG rfl rfl rfl rfl rfl ?_
            refine T_skipG rfl rfl rfl rfl rfl ?_
            refine T_valG rfl rfl rfl (Ev_pickT rfl rfl) rfl ?_
            refine T_val (Ev_pickT rfl rfl) rfl ?_
            refine T_val (Ev_move rfl) rfl ?_
            obtain ⟨r17, h18, hx19⟩ := bnd_some hx16
            refine T_xG rfl rfl rfl (Wx_callL rfl (fun w1 hw1 => lidarlaw07_first_ok  h18 w1) rfl ?_)
            rintro _ _ hlo ⟨rfl, rfl, -⟩
            refine T_app0 ?_
            refine T_val (Ev_pickT rfl rfl) rfl ?_
            refine T_val (Ev_assign rfl) rfl ?_
            refine T_nil ?_
            exact T_metP r17 () hx19 trivial (by exact .cons rfl (.nil)) (by exact .drop 0 rfl (.refl))
          · have hx20 := ite_f h15 hx14
            refine T_valG rfl rfl rfl (Ev_move rfl) rfl ?_
            refine T_valG rfl rfl rfl (Ev_eql rfl rfl) rfl ?_
            refine T_valG rfl rfl rfl (Ev_pickF rfl rfl) rfl ?_
            refine T_val (Ev_pickT rfl rfl) rfl ?_
            refine T_val (Ev_move rfl) rfl ?_
            refine T_caseP (s := 42) rfl (fun h21 => ?_) (fun h21 => ?_)
            · have hx22 := ite_t h21 hx20
              obtain ⟨r23, h24, hx25⟩ := bnd_some hx22
              refine T_xG rfl rfl rfl (Wx_callL rfl (fun w1 hw1 => lidarlaw07_first_ok  h24 w1) rfl ?_)
              rintro _ _ hlo ⟨rfl, rfl, -⟩
              refine T_app0 ?_
              refine T_val (Ev_pickT rfl rfl) rfl ?_
              refine T_val (Ev_assign rfl) rfl ?_
              refine T_nil ?_
              exact T_metP r23 () hx25 trivial (by exact .cons rfl (.nil)) (by exact .drop 0 rfl (.refl))
            · have hx26 := ite_f h21 hx20
              refine T_skipG rfl rfl rfl rfl rfl ?_
              refine T_val (Ev_pickF rfl rfl) rfl ?_
              refine T_val (Ev_assign rfl) rfl ?_
              refine T_nil ?_
              exact T_metP false () hx26 trivial (by exact .cons rfl (.nil)) (by exact .drop 0 rfl (.refl))
        · have hx27 := ite_t h13 hx12
          refine T_skipG rfl rfl rfl rfl rfl ?_
          refine T_skipG rfl rfl rfl rfl rfl ?_
          refine T_skipG rfl rfl rfl rfl rfl ?_
          refine T_skipU rfl rfl rfl rfl ?_
          refine T_skipU rfl rfl rfl rfl ?_
          refine T_skipG rfl rfl rfl rfl rfl ?_
          refine T_val (Ev_pickF rfl rfl) rfl ?_
          refine T_val (Ev_move rfl) rfl ?_
          refine T_skipG rfl rfl rfl rfl rfl ?_
          refine T_val (Ev_pickF rfl rfl) rfl ?_
          refine T_val (Ev_assign rfl) rfl ?_
          refine T_nil ?_
          exact T_metP false () hx27 trivial (by exact .cons rfl (.nil)) (by exact .drop 0 rfl (.refl))
    · have hx30 := ite_t h11 hx10
      refine T_condF rfl ?_
      refine T_skip ?_
      refine T_next ?_
      refine T_seq ?_
      refine T_seq ?_
      refine T_reg ?_
      refine T_val (Ev_move rfl) rfl ?_
      refine T_val (Ev_len rfl 24 Try.underlying22) rfl ?_
      refine T_val (Ev_eql rfl rfl) rfl ?_
      refine T_nil ?_
      refine T_next ?_
      refine T_caseP (s := 47) rfl (fun h31 => ?_) (fun h31 => ?_)
      · have hx32 := ite_t h31 hx30
        refine T_condT rfl ?_
        refine T_seq ?_
        refine T_reg ?_
        refine T_val (Ev_assign rfl) rfl ?_
        refine T_nil ?_
        refine T_next ?_
        refine T_retc ?_
        refine T_outR ?_
        obtain rfl := Option.some.inj hx32
        exact T_retP (rs := [.tmp 6]) Try.results4 (.tmp rfl (.nil)) (Ln := []) ⟨rfl, rfl, trivial⟩ (loNil) (by exact .drop 0 rfl (.refl))
      · have hx33 := ite_f h31 hx30
        refine T_condF rfl ?_
        refine T_skip ?_
        refine T_next ?_
        refine T_seq ?_
        refine T_reg ?_
        refine T_val (Ev_assign rfl) rfl ?_
        refine T_val (Ev_assign rfl) rfl ?_
        refine T_nil ?_
        refine T_next ?_
        obtain ⟨j13, hj13, hx33⟩ := jn_some hx33
        refine T_cutP (τ := (List S_api_XY) × (List S_api_XY)) (γ := (Option Addr) × Nat × (Option Addr) × Nat) (J := j13) (out := r) (fun s13 y13 => [(0, .slice (A0_0) ((p0).length) (c0_0)), (2, .int .u8 (p2)), (4, .pointer (some ⟨g1, 0, none⟩)), (7, .bool (r8.1)), (9, .slice (y13.1) ((s13.1).length) (y13.2.1)), (10, .slice (y13.2.2.1) ((s13.2).length) (y13.2.2.2))]) (fun s13 y13 => [.r (y13.1) ((s13.1).length) (y13.2.1) 24 2 ((s13.1).flatMap e_api_XY), .r (y13.2.2.1) ((s13.2).length) (y13.2.2.2) 24 2 ((s13.2).flatMap e_api_XY), .m g1 24 [.int .i64 (p1.X), .int .i64 (p1.Y)]] ++ [.old w]) (fun s13 y13 => True) ?_ ?_
        · intro s13 y13 hx114 hG115
          subst hj13
          refine T_seq ?_
          refine T_reg ?_
          refine T_val (Ev_move rfl) rfl ?_
          refine T_val (Ev_loadK rfl (i := 2) rfl rfl agg24) rfl ?_
          refine T_rowP (k := 0) rfl (by decide) (fun _ => rfl) (fun hn116 hs117 => ?_)
          obtain ⟨r118, h119, hx120⟩ := bnd_some hx114
          refine T_x (Wx_callL rfl (fun w1 hw1 => label_Within_ok s13.1 p1 (Has.len' hs117) h119 w1 (okAll (K := ([.r (y13.1) ((s13.1).length) (y13.2.1) 24 2 ((s13.1).flatMap e_api_XY)] : List Ent)) (by exact (SubE.cons2 (i := 0) rfl (SubE.nil))) hw1)) rfl ?_)
          rintro _ _ hlo ⟨rfl, rfl, -⟩
          refine T_app0 ?_
          refine T_val (Ev_move rfl) rfl ?_
          refine T_val (Ev_extract rfl rfl) rfl ?_
          refine T_val (Ev_extract rfl rfl) rfl ?_
          refine T_val (Ev_assign rfl) rfl ?_
          refine T_val (Ev_assign rfl) rfl ?_
          refine T_nil ?_
          refine T_next ?_
          refine T_seq ?_
          refine T_reg ?_
          refine T_val (Ev_move rfl) rfl ?_
          refine T_val (Ev_loadK rfl (i := 2) rfl rfl agg24) rfl ?_
          refine T_rowP (k := 1) rfl (by decide) (fun _ => rfl) (fun hn121 hs122 => ?_)
          obtain ⟨r123, h124, hx125⟩ := bnd_some hx120
          refine T_x (Wx_callL rfl (fun w1 hw1 => label_Within_ok s13.2 p1 (Has.len' hs122) h124 w1 (okAll (K := ([.r (y13.2.2.1) ((s13.2).length) (y13.2.2.2) 24 2 ((s13.2).flatMap e_api_XY)] : List Ent)) (by exact (SubE.cons2 (i := 1) rfl (SubE.nil))) hw1)) rfl ?_)
          rintro _ _ hlo ⟨rfl, rfl, -⟩
          refine T_app0 ?_
          refine T_val (Ev_move rfl) rfl ?_
          refine T_val (Ev_extract rfl rfl) rfl ?_
          refine T_val (Ev_extract rfl rfl) rfl ?_
          refine T_val (Ev_assign rfl) rfl ?_
          refine T_val (Ev_assign rfl) rfl ?_
          refine T_nil ?_
          refine T_next ?_
          refine T_seq ?_
          obtain ⟨j26, hj26, hx125⟩ := jn_some hx125
          refine T_cutP (τ := Bool) (γ := Unit) (J := j26) (out := r) (fun s26 y26 => [(0, .slice (A0_0) ((p0).length) (c0_0)), (2, .int .u8 (p2)), (105, .bool (s26))]) (fun s26 y26 => [] ++ [.old w]) (fun s26 y26 => True) ?_ ?_
          · intro s26 y26 hx135 hG136
            subst hj26
            refine T_caseB (s := 105) rfl (fun h137 => ?_) (fun h137 => ?_)
            · have hx138 := ite_t h137 hx135
              refine T_condT rfl ?_
              refine T_seq ?_
              refine T_reg ?_
              refine T_val (Ev_assign rfl) rfl ?_
              refine T_nil ?_
              refine T_next ?_
              refine T_retc ?_
              refine T_outR ?_
              obtain rfl := Option.some.inj hx138
              exact T_retP (rs := [.tmp 6]) Try.results4 (.tmp rfl (.nil)) (Ln := []) ⟨rfl, rfl, trivial⟩ (loNil) (by exact .refl)
            · have hx139 := ite_bf h137 hx135
              refine T_condF rfl ?_
              refine T_skip ?_
              refine T_next ?_
              refine T_seq ?_
              refine T_reg ?_
              refine T_val (Ev_move rfl) rfl ?_
              refine T_val (Ev_conv_w64 rfl (by kernel_rfl) Try.underlying3) rfl ?_
              refine T_val (Ev_move rfl) rfl ?_
              refine T_val (Ev_len rfl 24 Try.underlying22) rfl ?_
              obtain ⟨h140, hx141⟩ := gd_some hx139
              refine T_val (Ev_rem rfl rfl h140) rfl ?_
              refine T_val (Ev_assign rfl) rfl ?_
              refine T_nil ?_
              refine T_next ?_
              obtain ⟨j29, hj29, hx141⟩ := jn_some hx141
              refine T_cutP (τ := Int × Int × Int × Int) (γ := Nat × Nat) (J := j29) (out := r) (fun s29 y29 => [(0, .slice (A0_0) ((p0).length) (c0_0)), (17, .pointer (some ⟨y29.1, 0, none⟩)), (18, .pointer (some ⟨y29.2, 0, none⟩))]) (fun s29 y29 => [.m y29.2 24 [.int .i64 (s29.2.2.1), .int .i64 (s29.2.2.2)], .m y29.1 24 [.int .i64 (s29.1), .int .i64 (s29.2.1)]] ++ [.old w]) (fun s29 y29 => True) ?_ ?_
              · intro s29 y29 hx197 hG198
                subst hj29
                refine T_seq ?_
                refine T_reg ?_
                refine T_val (Ev_move rfl) rfl ?_
                refine T_val (Ev_loadK rfl (i := 1) rfl rfl agg24) rfl ?_
                obtain ⟨r199, h200, hx201⟩ := bnd_some hx197
                refine T_x (Wx_callL rfl (fun w1 hw1 => label_Within_ok p0 (⟨s29.1, s29.2.1⟩ : S_api_XY) (Has.len' ha0') h200 w1 (okApp (K := K) (K2 := []) hK (by exact (SubE.cons2 (i := 2) rfl (SubE.nil))) (by exact (SubE.nil)) hw1)) rfl ?_)
                rintro _ _ hlo ⟨rfl, rfl, -⟩
                refine T_app0 ?_
                refine T_val (Ev_move rfl) rfl ?_
                refine T_val (Ev_extract rfl rfl) rfl ?_
                refine T_val (Ev_extract rfl rfl) rfl ?_
                refine T_val (Ev_assign rfl) rfl ?_
                refine T_val (Ev_assign rfl) rfl ?_
                refine T_nil ?_
                refine T_next ?_
                refine T_seq ?_
                obtain ⟨j32, hj32, hx201⟩ := jn_some hx201
                refine T_cutP (τ := Bool) (γ := Unit) (J := j32) (out := r) (fun s32 y32 => [(0, .slice (A0_0) ((p0).length) (c0_0)), (17, .pointer (some ⟨y29.1, 0, none⟩)), (18, .pointer (some ⟨y29.2, 0, none⟩)), (134, .bool (s32))]) (fun s32 y32 => [.m y29.2 24 [.int .i64 (s29.2.2.1), .int .i64 (s29.2.2.2)], .m y29.1 24 [.int .i64 (s29.1), .int .i64 (s29.2.1)]] ++ [.old w]) (fun s32 y32 => True) ?_ ?_
                · intro s32 y32 hx205 hG206
                  subst hj32
                  refine T_caseB (s := 134) rfl (fun h207 => ?_) (fun h207 => ?_)
                  · have hx208 := ite_t h207 hx205
                    refine T_condT rfl ?_
                    refine T_seq ?_
                    refine T_reg ?_
                    refine T_val (Ev_assign rfl) rfl ?_
                    refine T_nil ?_
                    refine T_next ?_
                    refine T_retc ?_
                    refine T_outR ?_
                    obtain rfl := Option.some.inj hx208
                    exact T_retP (rs := [.tmp 6]) Try.results4 (.tmp rfl (.nil)) (Ln := []) ⟨rfl, rfl, trivial⟩ (loNil) (by exact .drop 0 rfl (.drop 0 rfl (.refl)))
                  · have hx209 := ite_bf h207 hx205
                    refine T_condF rfl ?_
                    refine T_skip ?_
                    refine T_next ?_
                    refine T_seq ?_
                    obtain ⟨j35, hj35, hx209⟩ := jn_some hx209
                    refine T_cutP (τ := Bool) (γ := Unit) (J := j35) (out := r) (fun s35 y35 => [(0, .slice (A0_0) ((p0).length) (c0_0)), (17, .pointer (some ⟨y29.1, 0, none⟩)), (18, .pointer (some ⟨y29.2, 0, none⟩)), (150, .bool (s35))]) (fun s35 y35 => [.m y29.2 24 [.int .i64 (s29.2.2.1), .int .i64 (s29.2.2.2)], .m y29.1 24 [.int .i64 (s29.1), .int .i64 (s29.2.1)]] ++ [.old w]) (fun s35 y35 => True) ?_ ?_
                    · intro s35 y35 hx213 hG214
                      subst hj35
                      refine T_caseB (s := 150) rfl (fun h215 => ?_) (fun h215 => ?_)
                      · have hx216 := ite_t h215 hx213
                        refine T_condT rfl ?_
                        refine T_seq ?_
                        refine T_reg ?_
                        obtain ⟨r217, h218, hx219⟩ := bnd_some hx216
                        refine T_x (Wx_callL rfl (fun w1 hw1 => lidarlaw07_first_ok  h218 w1) rfl ?_)
                        rintro _ _ hlo ⟨rfl, rfl, -⟩
                        refine T_app0 ?_
                        refine T_val (Ev_assign rfl) rfl ?_
                        refine T_nil ?_
                        refine T_next ?_
                        refine T_retc ?_
                        refine T_outR ?_
                        obtain rfl := Option.some.inj hx219
                        exact T_retP (rs := [.tmp 6]) Try.results4 (.tmp rfl (.nil)) (Ln := []) ⟨rfl, rfl, trivial⟩ (loNil) (by exact .drop 0 rfl (.drop 0 rfl (.refl)))
                      · have hx220 := ite_bf h215 hx213
                        refine T_condF rfl ?_
                        refine T_skip ?_
                        refine T_next ?_
                        refine T_seq ?_
                        refine T_reg ?_
                        refine T_val (Ev_move rfl) rfl ?_
                        refine T_val (Ev_field rfl fld24_0 rfl) rfl ?_
                        refine T_val (Ev_load1 rfl (i := 1) rfl rfl one3) rfl ?_
                        refine T_val (Ev_field rfl fld24_0 rfl) rfl ?_
                        refine T_val (Ev_load1 rfl (i := 0) rfl rfl one3) rfl ?_
                        refine T_val (Ev_add_w64 rfl rfl) rfl ?_
                        refine T_val (Ev_quo_w64 rfl rfl (by decide)) rfl ?_
                        refine T_val (Ev_field rfl fld24_1 rfl) rfl ?_
                        refine T_val (Ev_load1 rfl (i := 1) rfl rfl one3) rfl ?_
                        refine T_val (Ev_field rfl fld24_1 rfl) rfl ?_
                        refine T_val (Ev_load1 rfl (i := 0) rfl rfl one3) rfl ?_
                        refine T_val (Ev_add_w64 rfl rfl) rfl ?_
                        refine T_val (Ev_quo_w64 rfl rfl (by decide)) rfl ?_
                        refine T_val (Ev_build rfl (bld24_0i641i64 _ _)) rfl ?_
                        obtain ⟨r221, h222, hx223⟩ := bnd_some hx220
                        refine T_x (Wx_callL rfl (fun w1 hw1 => label_Within_ok p0 (⟨w64 (Int.tdiv (w64 (s29.1 + s29.2.2.1)) 2), w64 (Int.tdiv (w64 (s29.2.1 + s29.2.2.2)) 2)⟩ : S_api_XY) (Has.len' ha0') h222 w1 (okApp (K := K) (K2 := []) hK (by exact (SubE.cons2 (i := 2) rfl (SubE.nil))) (by exact (SubE.nil)) hw1)) rfl ?_)
                        rintro _ _ hlo ⟨rfl, rfl, -⟩
                        refine T_app0 ?_
                        refine T_val (Ev_move rfl) rfl ?_
                        refine T_val (Ev_extract rfl rfl) rfl ?_
                        refine T_val (Ev_extract rfl rfl) rfl ?_
                        refine T_val (Ev_assign rfl) rfl ?_
                        refine T_val (Ev_assign rfl) rfl ?_
                        refine T_nil ?_
                        refine T_next ?_
                        obtain ⟨j38, hj38, hx223⟩ := jn_some hx223
                        refine T_cutP (τ := Bool) (γ := Unit) (J := j38) (out := r) (fun s38 y38 => [(6, .bool (s38))]) (fun s38 y38 => [] ++ [.old w]) (fun s38 y38 => True) ?_ ?_
                        · intro s38 y38 hx233 hG234
                          subst hj38
                          refine T_retc ?_
                          obtain rfl := Option.some.inj hx233
                          exact T_retP (rs := [.tmp 6]) Try.results4 (.tmp rfl (.nil)) (Ln := []) ⟨rfl, rfl, trivial⟩ (loNil) (by exact .refl)
                        · skip
                          refine T_reg ?_
                          refine T_val (Ev_move rfl) rfl ?_
                          refine T_val (Ev_eql rfl rfl) rfl ?_
                          refine T_val (Ev_move rfl) rfl ?_
                          refine T_caseP (s := 172) rfl (fun h224 => ?_) (fun h224 => ?_)
                          · have hx225 := ite_t h224 hx223
                            refine T_valG rfl rfl rfl (Ev_move rfl) rfl ?_
                            refine T_val (Ev_pickT rfl rfl) rfl ?_
                            refine T_val (Ev_move rfl) rfl ?_
                            refine T_caseB (s := 175) rfl (fun h226 => ?_) (fun h226 => ?_)
                            · have hx227 := ite_t h226 hx225
                              obtain ⟨r228, h229, hx230⟩ := bnd_some hx227
                              refine T_xG rfl rfl rfl (Wx_callL rfl (fun w1 hw1 => lidarlaw07_first_ok  h229 w1) rfl ?_)
                              rintro _ _ hlo ⟨rfl, rfl, -⟩
                              refine T_app0 ?_
                              refine T_val (Ev_pickT rfl rfl) rfl ?_
                              refine T_val (Ev_assign rfl) rfl ?_
                              refine T_nil ?_
                              exact T_metP r228 () hx230 trivial (by exact .cons rfl (.nil)) (by exact .drop 0 rfl (.drop 0 rfl (.refl)))
                            · have hx231 := ite_bf h226 hx225
                              refine T_skipG rfl rfl rfl rfl rfl ?_
                              refine T_val (Ev_pickF rfl rfl) rfl ?_
                              refine T_val (Ev_assign rfl) rfl ?_
                              refine T_nil ?_
                              exact T_metP false () hx231 trivial (by exact .cons rfl (.nil)) (by exact .drop 0 rfl (.drop 0 rfl (.refl)))
                          · have hx232 := ite_f h224 hx223
                            refine T_skipG rfl rfl rfl rfl rfl ?_
                            refine T_val (Ev_pickF rfl rfl) rfl ?_
                            refine T_val (Ev_move rfl) rfl ?_
                            refine T_skipG rfl rfl rfl rfl rfl ?_
                            refine T_val (Ev_pickF rfl rfl) rfl ?_
                            refine T_val (Ev_assign rfl) rfl ?_
                            refine T_nil ?_
                            exact T_metP false () hx232 trivial (by exact .cons rfl (.nil)) (by exact .drop 0 rfl (.drop 0 rfl (.refl)))
                    · skip
                      refine T_reg ?_
                      refine T_val (Ev_field rfl fld24_0 rfl) rfl ?_
                      refine T_val (Ev_load1 rfl (i := 1) rfl rfl one3) rfl ?_
                      refine T_val (Ev_field rfl fld24_0 rfl) rfl ?_
                      refine T_val (Ev_load1 rfl (i := 0) rfl rfl one3) rfl ?_
                      refine T_val (Ev_add_w64 rfl rfl) rfl ?_
                      refine T_val (Ev_rem rfl rfl (by decide)) rfl ?_
                      refine T_val (Ev_neq rfl rfl) rfl ?_
                      refine T_val (Ev_move rfl) rfl ?_
                      refine T_caseNP (s := 142) rfl (fun h210 => ?_) (fun h210 => ?_)
                      · have hx211 := ite_f h210 hx209
                        refine T_skipG rfl rfl rfl rfl rfl ?_
                        refine T_skipG rfl rfl rfl rfl rfl ?_
                        refine T_skipG rfl rfl rfl rfl rfl ?_
                        refine T_skipG rfl rfl rfl rfl rfl ?_
                        refine T_skipG rfl rfl rfl rfl rfl ?_
                        refine T_skipG rfl rfl rfl rfl rfl ?_
                        refine T_skipG rfl rfl rfl rfl rfl ?_
                        refine T_val (Ev_pickT rfl rfl) rfl ?_
                        refine T_nil ?_
                        exact T_metP true () hx211 trivial (by exact .cons rfl (.cons rfl (.cons rfl (.cons rfl (.nil))))) (by exact .pick 0 rfl (.pick 0 rfl (.refl)))
                      · have hx212 := ite_t h210 hx209
                        refine T_valG rfl rfl rfl (Ev_field rfl fld24_1 rfl) rfl ?_
                        refine T_valG rfl rfl rfl (Ev_load1 rfl (i := 1) rfl rfl one3) rfl ?_
                        refine T_valG rfl rfl rfl (Ev_field rfl fld24_1 rfl) rfl ?_
                        refine T_valG rfl rfl rfl (Ev_load1 rfl (i := 0) rfl rfl one3) rfl ?_
                        refine T_valG rfl rfl rfl (Ev_add_w64 rfl rfl) rfl ?_
                        refine T_valG rfl rfl rfl (Ev_rem rfl rfl (by decide)) rfl ?_
                        refine T_valG rfl rfl rfl (Ev_neq rfl rfl) rfl ?_
                        refine T_val (Ev_pickF rfl rfl) rfl ?_
                        refine T_nil ?_
                        exact T_metP (!(decide ((Int.tmod (w64 (s29.2.1 + s29.2.2.2)) 2) = 0))) () hx212 trivial (by exact .cons rfl (.cons rfl (.cons rfl (.cons rfl (.nil))))) (by exact .pick 0 rfl (.pick 0 rfl (.refl)))
                · skip
                  refine T_reg ?_
                  refine T_val (Ev_move rfl) rfl ?_
                  refine T_val (Ev_neq rfl rfl) rfl ?_
                  refine T_val (Ev_move rfl) rfl ?_
                  refine T_caseNP (s := 131) rfl (fun h202 => ?_) (fun h202 => ?_)
                  · have hx203 := ite_f h202 hx201
                    refine T_skipG rfl rfl rfl rfl rfl ?_
                    refine T_skipG rfl rfl rfl rfl rfl ?_
                    refine T_val (Ev_pickT rfl rfl) rfl ?_
                    refine T_nil ?_
                    exact T_metP true () hx203 trivial (by exact .cons rfl (.cons rfl (.cons rfl (.cons rfl (.nil))))) (by exact .pick 0 rfl (.pick 0 rfl (.refl)))
                  · have hx204 := ite_t h202 hx201
                    refine T_valG rfl rfl rfl (Ev_move rfl) rfl ?_
                    refine T_valG rfl rfl rfl (Ev_not rfl) rfl ?_
                    refine T_val (Ev_pickF rfl rfl) rfl ?_
                    refine T_nil ?_
                    exact T_metP (!(r199.1)) () hx204 trivial (by exact .cons rfl (.cons rfl (.cons rfl (.cons rfl (.nil))))) (by exact .pick 0 rfl (.pick 0 rfl (.refl)))
              · skip
                obtain ⟨x142, h143, hx168⟩ := bnd_some hx141
                obtain ⟨h153, hx169⟩ := gd_some hx168
                obtain ⟨x155, h156, hx170⟩ := bnd_some hx169
                refine T_draw [0, 0, 0, 1, 0, 0, 0, 0, 0, 0, 0, 2, 2, 2, 3, 3] [[], [], [0, 1], [0, 1, 2], [], [], [5], [], [7], [5, 6, 7, 8], [4, 5, 6, 7, 8, 9], [4, 5, 6, 7, 8, 9, 10], [], [], [0, 1, 2, 3, 12, 13], [0, 1, 2, 3, 4, 5, 6, 7, 8, 9, 10, 11, 12, 13, 14]] (.q 0 (.q 1 (.q 2 (.q 3 (.q 4 (.q 5 (.q 6 (.q 7 (.q 8 (.q 9 (.q 10 (.e 11 (.e 12 (.e 13 (.e 14 (.e 15 (.done) (.stop)) (.stop)) (.stop)) (.e 13 (.e 12 (.e 14 (.e 15 (.done) (.stop)) (.stop)) (.stop)) (.stop))) (.e 12 (.e 11 (.e 13 (.e 14 (.e 15 (.done) (.stop)) (.stop)) (.stop)) (.e 13 (.e 11 (.e 14 (.e 15 (.done) (.stop)) (.stop)) (.e 14 (.e 11 (.e 15 (.done) (.stop)) (.stop)) (.stop))) (.stop))) (.e 13 (.e 11 (.e 12 (.e 14 (.e 15 (.done) (.stop)) (.stop)) (.stop)) (.e 12 (.e 11 (.e 14 (.e 15 (.done) (.stop)) (.stop)) (.e 14 (.e 11 (.e 15 (.done) (.stop)) (.stop)) (.stop))) (.stop))) (.stop))))))))))))))) mixed (by kernel_rfl) (by kernel_rfl) ?_
                refine P_p rfl rfl (Ev_move rfl) rfl ?_
                refine P_p rfl rfl (Ev_move rfl) rfl ?_
                have hw178 := Has.low (E := []) ha0' hK
                obtain ⟨b171, o172, j173, hA174, hj175, hl176, hp177⟩ := Has.at_idx hw178 h143
                refine P_p rfl rfl (Ev_index rfl rfl hA174 (j := j173) hj175 hl176 slc22) rfl ?_
                refine P_q rfl rfl (Ev_loadPK0 rfl hp177 (SubE.cons2 (i := 0) rfl (SubE.nil)) rfl agg24) rfl ?_
                refine P_p rfl rfl (Ev_move rfl) rfl ?_
                refine P_p rfl rfl (Ev_move rfl) rfl ?_
                refine P_p rfl rfl (Ev_add_w64 rfl rfl) rfl ?_
                refine P_p rfl rfl (Ev_move rfl) rfl ?_
                refine P_p rfl rfl (Ev_len rfl 24 Try.underlying22) rfl ?_
                refine P_p rfl rfl (Ev_rem rfl rfl h153) rfl ?_
                have hw186 := Has.low (E := []) ha0' hK
                obtain ⟨b179, o180, j181, hA182, hj183, hl184, hp185⟩ := Has.at_idx hw186 h156
                refine P_p rfl rfl (Ev_index rfl rfl hA182 (j := j181) hj183 hl184 slc22) rfl ?_
                refine P_x rfl (Wx_val (Ev_loadPK0 rfl hp185 (SubE.cons2 (i := 0) rfl (SubE.nil)) rfl agg24) rfl ?_) ?_
                · skip
                  refine P_x rfl (Wx_alloc zer24 rfl (fun g187 => ?_)) ?_
                  · skip
                    refine P_x rfl (Wx_alloc zer24 rfl (fun g188 => ?_)) ?_
                    rotate_left; exact P_stop
                    refine P_h rfl rfl (Wh_store rfl rfl rfl (.there (.here)) (.put (.put (.done))) rfl (List.cons_ne_nil _ _) agg24.2 ?_) ?_
                    rotate_left; exact P_stop
                    refine P_h rfl rfl (Wh_store rfl rfl rfl (.here) (.put (.put (.done))) rfl (List.cons_ne_nil _ _) agg24.2 ?_) ?_
                    rotate_left; exact P_stop
                    refine P_done ?_
                    exact T_metP (x142.X, x142.Y, x155.X, x155.Y) (g187, g188) hx170 trivial (by exact .cons rfl (.cons rfl (.cons rfl (.nil)))) (by exact .pick 0 rfl (.pick 0 rfl (.refl)))
                  · skip
                    refine P_x rfl (Wx_alloc zer24 rfl (fun g189 => ?_)) ?_
                    rotate_left; exact P_stop
                    refine P_x rfl (Wx_alloc zer24 rfl (fun g190 => ?_)) ?_
                    rotate_left; exact P_stop
                    refine P_h rfl rfl (Wh_store rfl rfl rfl (.here) (.put (.put (.done))) rfl (List.cons_ne_nil _ _) agg24.2 ?_) ?_
                    rotate_left; exact P_stop
                    refine P_h rfl rfl (Wh_store rfl rfl rfl (.there (.here)) (.put (.put (.done))) rfl (List.cons_ne_nil _ _) agg24.2 ?_) ?_
                    rotate_left; exact P_stop
                    refine P_done ?_
                    exact T_metP (x142.X, x142.Y, x155.X, x155.Y) (g190, g189) hx170 trivial (by exact .cons rfl (.cons rfl (.cons rfl (.nil)))) (by exact .pick 1 rfl (.pick 0 rfl (.refl)))
                · skip
                  refine P_x rfl (Wx_alloc zer24 rfl (fun g191 => ?_)) ?_
                  · skip
                    refine P_x rfl (Wx_val (Ev_loadPK0 rfl hp185 (SubE.cons2 (i := 1) rfl (SubE.nil)) rfl agg24) rfl ?_) ?_
                    · skip
                      refine P_x rfl (Wx_alloc zer24 rfl (fun g192 => ?_)) ?_
                      rotate_left; exact P_stop
                      refine P_h rfl rfl (Wh_store rfl rfl rfl (.there (.here)) (.put (.put (.done))) rfl (List.cons_ne_nil _ _) agg24.2 ?_) ?_
                      rotate_left; exact P_stop
                      refine P_h rfl rfl (Wh_store rfl rfl rfl (.here) (.put (.put (.done))) rfl (List.cons_ne_nil _ _) agg24.2 ?_) ?_
                      rotate_left; exact P_stop
                      refine P_done ?_
                      exact T_metP (x142.X, x142.Y, x155.X, x155.Y) (g191, g192) hx170 trivial (by exact .cons rfl (.cons rfl (.cons rfl (.nil)))) (by exact .pick 0 rfl (.pick 0 rfl (.refl)))
                    · skip
                      refine P_x rfl (Wx_alloc zer24 rfl (fun g193 => ?_)) ?_
                      rotate_left; exact P_stop
                      refine P_x rfl (Wx_val (Ev_loadPK0 rfl hp185 (SubE.cons2 (i := 2) rfl (SubE.nil)) rfl agg24) rfl ?_) ?_
                      · skip
                        refine P_h rfl rfl (Wh_store rfl rfl rfl (.there (.here)) (.put (.put (.done))) rfl (List.cons_ne_nil _ _) agg24.2 ?_) ?_
                        rotate_left; exact P_stop
                        refine P_h rfl rfl (Wh_store rfl rfl rfl (.here) (.put (.put (.done))) rfl (List.cons_ne_nil _ _) agg24.2 ?_) ?_
                        rotate_left; exact P_stop
                        refine P_done ?_
                        exact T_metP (x142.X, x142.Y, x155.X, x155.Y) (g191, g193) hx170 trivial (by exact .cons rfl (.cons rfl (.cons rfl (.nil)))) (by exact .pick 0 rfl (.pick 0 rfl (.refl)))
                      · skip
                        refine P_h rfl rfl (Wh_store rfl rfl rfl (.there (.here)) (.put (.put (.done))) rfl (List.cons_ne_nil _ _) agg24.2 ?_) ?_
                        rotate_left; exact P_stop
                        refine P_x rfl (Wx_val (Ev_loadPK0 rfl hp185 (SubE.cons2 (i := 2) rfl (SubE.nil)) rfl agg24) rfl ?_) ?_
                        rotate_left; exact P_stop
                        refine P_h rfl rfl (Wh_store rfl rfl rfl (.here) (.put (.put (.done))) rfl (List.cons_ne_nil _ _) agg24.2 ?_) ?_
                        rotate_left; exact P_stop
                        refine P_done ?_
                        exact T_metP (x142.X, x142.Y, x155.X, x155.Y) (g191, g193) hx170 trivial (by exact .cons rfl (.cons rfl (.cons rfl (.nil)))) (by exact .pick 0 rfl (.pick 0 rfl (.refl)))
                  · skip
                    refine P_x rfl (Wx_alloc zer24 rfl (fun g194 => ?_)) ?_
                    rotate_left; exact P_stop
                    refine P_x rfl (Wx_val (Ev_loadPK0 rfl hp185 (SubE.cons2 (i := 1) rfl (SubE.nil)) rfl agg24) rfl ?_) ?_
                    · skip
                      refine P_x rfl (Wx_alloc zer24 rfl (fun g195 => ?_)) ?_
                      rotate_left; exact P_stop
                      refine P_h rfl rfl (Wh_store rfl rfl rfl (.here) (.put (.put (.done))) rfl (List.cons_ne_nil _ _) agg24.2 ?_) ?_
                      rotate_left; exact P_stop
                      refine P_h rfl rfl (Wh_store rfl rfl rfl (.there (.here)) (.put (.put (.done))) rfl (List.cons_ne_nil _ _) agg24.2 ?_) ?_
                      rotate_left; exact P_stop
                      refine P_done ?_
                      exact T_metP (x142.X, x142.Y, x155.X, x155.Y) (g195, g194) hx170 trivial (by exact .cons rfl (.cons rfl (.cons rfl (.nil)))) (by exact .pick 1 rfl (.pick 0 rfl (.refl)))
                    · skip
                      refine P_x rfl (Wx_alloc zer24 rfl (fun g196 => ?_)) ?_
                      rotate_left; exact P_stop
                      refine P_x rfl (Wx_val (Ev_loadPK0 rfl hp185 (SubE.cons2 (i := 2) rfl (SubE.nil)) rfl agg24) rfl ?_) ?_
                      · skip
                        refine P_h rfl rfl (Wh_store rfl rfl rfl (.here) (.put (.put (.done))) rfl (List.cons_ne_nil _ _) agg24.2 ?_) ?_
                        rotate_left; exact P_stop
                        refine P_h rfl rfl (Wh_store rfl rfl rfl (.there (.here)) (.put (.put (.done))) rfl (List.cons_ne_nil _ _) agg24.2 ?_) ?_
                        rotate_left; exact P_stop
                        refine P_done ?_
                        exact T_metP (x142.X, x142.Y, x155.X, x155.Y) (g196, g194) hx170 trivial (by exact .cons rfl (.cons rfl (.cons rfl (.nil)))) (by exact .pick 1 rfl (.pick 0 rfl (.refl)))
                      · skip
                        refine P_h rfl rfl (Wh_store rfl rfl rfl (.here) (.put (.put (.done))) rfl (List.cons_ne_nil _ _) agg24.2 ?_) ?_
                        rotate_left; exact P_stop
                        refine P_x rfl (Wx_val (Ev_loadPK0 rfl hp185 (SubE.cons2 (i := 2) rfl (SubE.nil)) rfl agg24) rfl ?_) ?_
                        rotate_left; exact P_stop
                        refine P_h rfl rfl (Wh_store rfl rfl rfl (.there (.here)) (.put (.put (.done))) rfl (List.cons_ne_nil _ _) agg24.2 ?_) ?_
                        rotate_left; exact P_stop
                        refine P_done ?_
                        exact T_metP (x142.X, x142.Y, x155.X, x155.Y) (g196, g194) hx170 trivial (by exact .cons rfl (.cons rfl (.cons rfl (.nil)))) (by exact .pick 1 rfl (.pick 0 rfl (.refl)))
          · skip
            refine T_reg ?_
            refine T_val (Ev_move rfl) rfl ?_
            refine T_val (Ev_neq rfl rfl) rfl ?_
            refine T_val (Ev_move rfl) rfl ?_
            refine T_caseNP (s := 92) rfl (fun h126 => ?_) (fun h126 => ?_)
            · have hx127 := ite_f h126 hx125
              refine T_skipG rfl rfl rfl rfl rfl ?_
              refine T_skipG rfl rfl rfl rfl rfl ?_
              refine T_val (Ev_pickT rfl rfl) rfl ?_
              refine T_val (Ev_move rfl) rfl ?_
              refine T_skipG rfl rfl rfl rfl rfl ?_
              refine T_skipG rfl rfl rfl rfl rfl ?_
              refine T_skipG rfl rfl rfl rfl rfl ?_
              refine T_val (Ev_pickT rfl rfl) rfl ?_
              refine T_val (Ev_move rfl) rfl ?_
              refine T_skipG rfl rfl rfl rfl rfl ?_
              refine T_skipG rfl rfl rfl rfl rfl ?_
              refine T_skipG rfl rfl rfl rfl rfl ?_
              refine T_val (Ev_pickT rfl rfl) rfl ?_
              refine T_nil ?_
              exact T_metP true () hx127 trivial (by exact .cons rfl (.cons rfl (.cons rfl (.nil)))) (by exact .drop 0 rfl (.drop 0 rfl (.drop 0 rfl (.refl))))
            · have hx128 := ite_t h126 hx125
              refine T_valG rfl rfl rfl (Ev_move rfl) rfl ?_
              refine T_valG rfl rfl rfl (Ev_neq rfl rfl) rfl ?_
              refine T_val (Ev_pickF rfl rfl) rfl ?_
              refine T_val (Ev_move rfl) rfl ?_
              refine T_caseNP (s := 96) rfl (fun h129 => ?_) (fun h129 => ?_)
              · have hx130 := ite_f h129 hx128
                refine T_skipG rfl rfl rfl rfl rfl ?_
                refine T_skipG rfl rfl rfl rfl rfl ?_
                refine T_skipG rfl rfl rfl rfl rfl ?_
                refine T_val (Ev_pickT rfl rfl) rfl ?_
                refine T_val (Ev_move rfl) rfl ?_
                refine T_skipG rfl rfl rfl rfl rfl ?_
                refine T_skipG rfl rfl rfl rfl rfl ?_
                refine T_skipG rfl rfl rfl rfl rfl ?_
                refine T_val (Ev_pickT rfl rfl) rfl ?_
                refine T_nil ?_
                exact T_metP true () hx130 trivial (by exact .cons rfl (.cons rfl (.cons rfl (.nil)))) (by exact .drop 0 rfl (.drop 0 rfl (.drop 0 rfl (.refl))))
              · have hx131 := ite_t h129 hx128
                refine T_valG rfl rfl rfl (Ev_move rfl) rfl ?_
                refine T_valG rfl rfl rfl (Ev_move rfl) rfl ?_
                refine T_valG rfl rfl rfl (Ev_neqB rfl rfl (by kernel_rfl)) rfl ?_
                refine T_val (Ev_pickF rfl rfl) rfl ?_
                refine T_val (Ev_move rfl) rfl ?_
                refine T_caseNB (s := 101) rfl (fun h132 => ?_) (fun h132 => ?_)
                · have hx133 := ite_bf h132 hx131
                  refine T_skipG rfl rfl rfl rfl rfl ?_
                  refine T_skipG rfl rfl rfl rfl rfl ?_
                  refine T_skipG rfl rfl rfl rfl rfl ?_
                  refine T_val (Ev_pickT rfl rfl) rfl ?_
                  refine T_nil ?_
                  exact T_metP true () hx133 trivial (by exact .cons rfl (.cons rfl (.cons rfl (.nil)))) (by exact .drop 0 rfl (.drop 0 rfl (.drop 0 rfl (.refl))))
                · have hx134 := ite_t h132 hx131
                  refine T_valG rfl rfl rfl (Ev_move rfl) rfl ?_
                  refine T_valG rfl rfl rfl (Ev_move rfl) rfl ?_
                  refine T_valG rfl rfl rfl (Ev_neqB rfl rfl (by kernel_rfl)) rfl ?_
                  refine T_val (Ev_pickF rfl rfl) rfl ?_
                  refine T_nil ?_
                  exact T_metP (!((r123.1) == (r8.1))) () hx134 trivial (by exact .cons rfl (.cons rfl (.cons rfl (.nil)))) (by exact .drop 0 rfl (.drop 0 rfl (.drop 0 rfl (.refl))))
        · skip
          refine T_seq ?_
          refine T_reg ?_
          refine T_val (Ev_assign rfl) rfl ?_
          refine T_nil ?_
          refine T_next ?_
          refine T_block ?_
          obtain ⟨t74, hl74, ho74⟩ := bnd_some hx33
          refine T_none 24 2 ?_
          refine T_none 24 2 ?_
          have hn75 : 0 = (([] : List S_api_XY)).length := by simp [setI_len, cpy_len, List.length_append] <;> omega
          refine T_ent (.there (.here)) (e' := .r (none) ((([] : List S_api_XY)).length) (0) 24 2 ((([] : List S_api_XY)).flatMap e_api_XY)) (by first | (rw [← hn75]; done) | rfl) ?_
          have hn76 : 0 = (([] : List S_api_XY)).length := by simp [setI_len, cpy_len, List.length_append] <;> omega
          refine T_ent (.here) (e' := .r (none) ((([] : List S_api_XY)).length) (0) 24 2 ((([] : List S_api_XY)).flatMap e_api_XY)) (by first | (rw [← hn76]; done) | rfl) ?_
          refine T_loopP (σ := (List S_api_XY) × (List S_api_XY) × Int) (γ := (Option Addr) × Nat × (Option Addr) × Nat) hl74 (fun s74 y74 => [(0, .slice (A0_0) ((p0).length) (c0_0)), (2, .int .u8 (p2)), (4, .pointer (some ⟨g1, 0, none⟩)), (7, .bool (r8.1)), (9, .slice (y74.1) ((s74.1).length) (y74.2.1)), (10, .slice (y74.2.2.1) ((s74.2.1).length) (y74.2.2.2)), (11, .int .i64 (s74.2.2))]) (fun s74 y74 => [.r (y74.1) ((s74.1).length) (y74.2.1) 24 2 ((s74.1).flatMap e_api_XY), .r (y74.2.2.1) ((s74.2.1).length) (y74.2.2.2) 24 2 ((s74.2.1).flatMap e_api_XY), .m g1 24 [.int .i64 (p1.X), .int .i64 (p1.Y)]] ++ [.old w]) (fun s74 y74 => True) (none, 0, none, 0) trivial (by exact .cons rfl (.cons rfl (.cons rfl (.cons rfl (.cons rfl (.cons rfl (.cons rfl (.nil)))))))) (by exact .pick 1 rfl (.pick 0 rfl (.pick 0 rfl (.refl)))) ?_
          intro s74 y74 hG74 x74 hx74 ht74
          unfold lidarlaw07_LabelRings_l10 at hx74
          refine T_seq ?_
          refine T_seq ?_
          refine T_reg ?_
          refine T_val (Ev_move rfl) rfl ?_
          refine T_val (Ev_move rfl) rfl ?_
          refine T_val (Ev_len rfl 24 Try.underlying22) rfl ?_
          refine T_val (Ev_lss rfl rfl) rfl ?_
          refine T_nil ?_
          refine T_next ?_
          refine T_caseP (s := 51) rfl (fun h77 => ?_) (fun h77 => ?_)
          · have hx78 := ite_t h77 hx74
            refine T_condT rfl ?_
            refine T_skip ?_
            refine T_next ?_
            refine T_seq ?_
            refine T_block ?_
            refine T_seq ?_
            refine T_reg ?_
            refine T_val (Ev_move rfl) rfl ?_
            refine T_val (Ev_move rfl) rfl ?_
            refine T_val (Ev_move rfl) rfl ?_
            refine T_val (Ev_move rfl) rfl ?_
            refine T_val (Ev_conv_w64 rfl (by kernel_rfl) Try.underlying3) rfl ?_
            refine T_val (Ev_add_w64 rfl rfl) rfl ?_
            refine T_val (Ev_move rfl) rfl ?_
            refine T_val (Ev_len rfl 24 Try.underlying22) rfl ?_
            obtain ⟨h80, hx81⟩ := gd_some hx78
            refine T_val (Ev_rem rfl rfl h80) rfl ?_
            obtain ⟨x82, h83, hx84⟩ := bnd_some hx81
            have hw92 := Has.low (E := []) ha0' hK
            obtain ⟨b85, o86, j87, hA88, hj89, hl90, hp91⟩ := Has.at_idx hw92 h83
            refine T_val (Ev_index rfl rfl hA88 (j := j87) hj89 hl90 slc22) rfl ?_
            refine T_val (Ev_loadPK0 rfl hp91 (SubE.cons2 (i := 3) rfl (SubE.nil)) rfl agg24) rfl ?_
            refine T_x (Wx_buildSlice rfl (bls22_1_0ai64i64 _ _) rfl (fun g93 => ?_))
            obtain ⟨h94, hx95⟩ := gd_some hx84
            refine T_h (Wh_appendP e_api_XY (s74.1) [x82] rfl rfl rfl elm22 (fun _ => rfl) (i' := 0) rfl rfl rfl rfl h94 rfl (fun _ _ => .there (.here)) (fun _ _ => .drop .refl) (by decide) (fun A96 c97 => ?_))
            refine T_val (Ev_assign rfl) rfl ?_
            refine T_nil ?_
            refine T_next ?_
            refine T_reg ?_
            refine T_val (Ev_move rfl) rfl ?_
            refine T_val (Ev_move rfl) rfl ?_
            refine T_val (Ev_move rfl) rfl ?_
            refine T_val (Ev_len rfl 24 Try.underlying22) rfl ?_
            refine T_val (Ev_sub_w64 rfl rfl) rfl ?_
            refine T_val (Ev_move rfl) rfl ?_
            refine T_val (Ev_sub_w64 rfl rfl) rfl ?_
            obtain ⟨x98, h99, hx100⟩ := bnd_some hx95
            have hw108 := Has.low (E := []) ha0' hK
            obtain ⟨b101, o102, j103, hA104, hj105, hl106, hp107⟩ := Has.at_idx hw108 h99
            refine T_val (Ev_index rfl rfl hA104 (j := j103) hj105 hl106 slc22) rfl ?_
            refine T_val (Ev_loadPK0 rfl hp107 (SubE.cons2 (i := 3) rfl (SubE.nil)) rfl agg24) rfl ?_
            refine T_x (Wx_buildSlice rfl (bls22_1_0ai64i64 _ _) rfl (fun g109 => ?_))
            obtain ⟨h110, hx111⟩ := gd_some hx100
            refine T_h (Wh_appendP e_api_XY (s74.2.1) [x98] rfl rfl rfl elm22 (fun _ => rfl) (i' := 0) rfl rfl rfl rfl h110 rfl (fun _ _ => .there (.there (.here))) (fun _ _ => .drop .refl) (by decide) (fun A112 c113 => ?_))
            refine T_val (Ev_assign rfl) rfl ?_
            refine T_nil ?_
            refine T_inN ?_
            refine T_next ?_
            refine T_reg ?_
            refine T_val (Ev_move rfl) rfl ?_
            refine T_val (Ev_add_w64 rfl rfl) rfl ?_
            refine T_val (Ev_assign rfl) rfl ?_
            refine T_nil ?_
            exact T_roundP (s74.1 ++ [x82], s74.2.1 ++ [x98], w64 (s74.2.2 + 1)) (A96, c97, A112, c113) hx111 trivial (by exact .cons rfl (.cons rfl (.cons rfl (.cons rfl (.cons rfl (.cons rfl (.cons rfl (.nil)))))))) (by exact .pick 0 rfl (.pick 0 rfl (.pick 0 rfl (.refl))))
          · have hx79 := ite_f h77 hx74
            refine T_condF rfl ?_
            refine T_exit ?_
            refine T_outX ?_
            obtain rfl := exit_eq ht74 hx79
            refine T_outX ?_
            refine T_here ?_
            exact T_metP (s74.1, s74.2.1) (y74.1, y74.2.1, y74.2.2.1, y74.2.2.2) ho74 trivial (by exact .cons rfl (.cons rfl (.cons rfl (.cons rfl (.cons rfl (.cons rfl (.nil))))))) (by exact .pick 0 rfl (.pick 0 rfl (.pick 0 rfl (.refl))))
set_option maxRecDepth 100000 in
theorem lidarlaw07_LabelPoints_ok (p0 : List S_api_Point) (p1 : S_api_Terrain) {K : List Ent} {A0_0 : Option Addr} {c0_0 : Nat} (ha0 : Has K A0_0 (p0).length c0_0 9 e_api_Point (p0)) {r : Bool} (hx : lidarlaw07_LabelPoints p0 p1 = some r) (w : World) (hK : ∀ e ∈ K, Ent.ok w e) : CtL Try.prog 5 [.slice (A0_0) ((p0).length) (c0_0), .agg #[.int .i64 (p1.Cell), .int .i64 (p1.Reach), .int .i64 (p1.Slope), .int .i64 (p1.Link), .int .i64 (p1.Flat), .int .i64 (p1.Tall), .int .i64 (p1.High), .int .i64 (p1.Low), .int .i64 (p1.Brush), .int .i64 (p1.Few)]] w fun v Ln => v = .bool (r) ∧ Ln = [] ∧ True := by
  have ha0' := Has.up0 ha0
  refine CtL.mk 95 Try.func5 rfl Try.ntmps5 (by kernel_rfl) rfl ?_
  show T 95 _ [(0, .slice (A0_0) ((p0).length) (c0_0)), (1, .agg #[.int .i64 (p1.Cell), .int .i64 (p1.Reach), .int .i64 (p1.Slope), .int .i64 (p1.Link), .int .i64 (p1.Flat), .int .i64 (p1.Tall), .int .i64 (p1.High), .int .i64 (p1.Low), .int .i64 (p1.Brush), .int .i64 (p1.Few)])] _
  unfold lidarlaw07_LabelPoints at hx
  refine T_seq ?_
  refine T_reg ?_
  refine T_x (Wx_box rfl rfl rfl (fun g1 => ?_))
  refine T_val (Ev_assign rfl) rfl ?_
  refine T_nil ?_
  refine T_next ?_
  refine T_seq ?_
  refine T_seq ?_
  refine T_reg ?_
  refine T_val (Ev_move rfl) rfl ?_
  obtain ⟨r2, h3, hx4⟩ := bnd_some hx
  refine T_x (Wx_callL rfl (fun w1 hw1 => lidarlaw07_many_ok p0 40 (Has.len' ha0') h3 w1 (okApp (K := K) (K2 := []) hK (by exact (SubE.cons2 (i := 1) rfl (SubE.nil))) (by exact (SubE.nil)) hw1)) rfl ?_)
  rintro _ _ hlo ⟨rfl, rfl, -⟩
  refine T_app0 ?_
  refine T_nil ?_
  refine T_next ?_
  refine T_caseB (s := 14) rfl (fun h5 => ?_) (fun h5 => ?_)
  · have hx6 := ite_t h5 hx4
    refine T_condT rfl ?_
    refine T_seq ?_
    refine T_reg ?_
    obtain ⟨r7, h8, hx9⟩ := bnd_some hx6
    refine T_x (Wx_callL rfl (fun w1 hw1 => lidarlaw07_first_ok  h8 w1) rfl ?_)
    rintro _ _ hlo ⟨rfl, rfl, -⟩
    refine T_app0 ?_
    refine T_val (Ev_assign rfl) rfl ?_
    refine T_nil ?_
    refine T_next ?_
    refine T_retc ?_
    refine T_outR ?_
    obtain rfl := Option.some.inj hx9
    exact T_retP (rs := [.tmp 4]) Try.results5 (.tmp rfl (.nil)) (Ln := []) ⟨rfl, rfl, trivial⟩ (loNil) (by exact .drop 0 rfl (.refl))
  · have hx10 := ite_bf h5 hx4
    refine T_condF rfl ?_
    refine T_skip ?_
    refine T_next ?_
    refine T_seq ?_
    refine T_reg ?_
    refine T_val (Ev_move rfl) rfl ?_
    refine T_val (Ev_loadK rfl (i := 0) rfl rfl agg33) rfl ?_
    obtain ⟨r11, h12, hx13⟩ := bnd_some hx10
    refine T_x (Wx_callL rfl (fun w1 hw1 => label_Sunk_ok p0 p1 (Has.len' ha0') h12 w1 (okApp (K := K) (K2 := []) hK (by exact (SubE.cons2 (i := 1) rfl (SubE.nil))) (by exact (SubE.nil)) hw1)) rfl ?_)
    rintro _ _ hlo ⟨A14, c15, rfl, rfl, -⟩
    refine T_app1 ?_
    refine T_val (Ev_move rfl) rfl ?_
    refine T_val (Ev_extract rfl rfl) rfl ?_
    refine T_val (Ev_extract rfl rfl) rfl ?_
    refine T_val (Ev_assign rfl) rfl ?_
    refine T_val (Ev_assign rfl) rfl ?_
    refine T_nil ?_
    refine T_next ?_
    refine T_seq ?_
    refine T_reg ?_
    refine T_val (Ev_move rfl) rfl ?_
    refine T_val (Ev_loadK rfl (i := 1) rfl rfl agg33) rfl ?_
    obtain ⟨r16, h17, hx18⟩ := bnd_some hx13
    refine T_x (Wx_callL rfl (fun w1 hw1 => lidarref07_Sunk_ok p0 p1 (Has.len' ha0') h17 w1 (okApp (K := K) (K2 := []) hK (by exact (SubE.cons2 (i := 2) rfl (SubE.nil))) (by exact (SubE.nil)) hw1)) rfl ?_)
    rintro _ _ hlo ⟨A19, c20, rfl, rfl, -⟩
    refine T_app1 ?_
    refine T_val (Ev_move rfl) rfl ?_
    refine T_val (Ev_extract rfl rfl) rfl ?_
    refine T_val (Ev_extract rfl rfl) rfl ?_
    refine T_val (Ev_assign rfl) rfl ?_
    refine T_val (Ev_assign rfl) rfl ?_
    refine T_nil ?_
    refine T_next ?_
    refine T_seq ?_
    refine T_reg ?_
    refine T_val (Ev_move rfl) rfl ?_
    obtain ⟨r21, h22, hx23⟩ := bnd_some hx18
    refine T_x (Wx_callL rfl (fun w1 hw1 => label_Lowest_ok p0 (Has.len' ha0') h22 w1 (okApp (K := K) (K2 := []) hK (by exact (SubE.cons2 (i := 3) rfl (SubE.nil))) (by exact (SubE.nil)) hw1)) rfl ?_)
    rintro _ _ hlo ⟨A24, c25, rfl, rfl, -⟩
    refine T_app1 ?_
    refine T_val (Ev_move rfl) rfl ?_
    refine T_val (Ev_extract rfl rfl) rfl ?_
    refine T_val (Ev_extract rfl rfl) rfl ?_
    refine T_val (Ev_assign rfl) rfl ?_
    refine T_val (Ev_assign rfl) rfl ?_
    refine T_nil ?_
    refine T_next ?_
    refine T_seq ?_
    refine T_reg ?_
    refine T_val (Ev_move rfl) rfl ?_
    obtain ⟨r26, h27, hx28⟩ := bnd_some hx23
    refine T_x (Wx_callL rfl (fun w1 hw1 => lidarref07_Lowest_ok p0 (Has.len' ha0') h27 w1 (okApp (K := K) (K2 := []) hK (by exact (SubE.cons2 (i := 4) rfl (SubE.nil))) (by exact (SubE.nil)) hw1)) rfl ?_)
    rintro _ _ hlo ⟨A29, c30, rfl, rfl, -⟩
    refine T_app1 ?_
    refine T_val (Ev_move rfl) rfl ?_
    refine T_val (Ev_extract rfl rfl) rfl ?_
    refine T_val (Ev_extract rfl rfl) rfl ?_
    refine T_val (Ev_assign rfl) rfl ?_
    refine T_val (Ev_assign rfl) rfl ?_
    refine T_nil ?_
    refine T_next ?_
    refine T_seq ?_
    obtain ⟨j10, hj10, hx28⟩ := jn_some hx28
    refine T_cutP (τ := Bool) (γ := Unit) (J := j10) (out := r) (fun s10 y10 => [(0, .slice (A0_0) ((p0).length) (c0_0)), (3, .pointer (some ⟨g1, 0, none⟩)), (71, .bool (s10))]) (fun s10 y10 => [.m g1 33 [.int .i64 (p1.Cell), .int .i64 (p1.Reach), .int .i64 (p1.Slope), .int .i64 (p1.Link), .int .i64 (p1.Flat), .int .i64 (p1.Tall), .int .i64 (p1.High), .int .i64 (p1.Low), .int .i64 (p1.Brush), .int .i64 (p1.Few)]] ++ [.old w]) (fun s10 y10 => True) ?_ ?_
    · intro s10 y10 hx72 hG73
      subst hj10
      refine T_caseB (s := 71) rfl (fun h74 => ?_) (fun h74 => ?_)
      · have hx75 := ite_t h74 hx72
        refine T_condT rfl ?_
        refine T_seq ?_
        refine T_reg ?_
        refine T_val (Ev_assign rfl) rfl ?_
        refine T_nil ?_
        refine T_next ?_
        refine T_retc ?_
        refine T_outR ?_
        obtain rfl := Option.some.inj hx75
        exact T_retP (rs := [.tmp 4]) Try.results5 (.tmp rfl (.nil)) (Ln := []) ⟨rfl, rfl, trivial⟩ (loNil) (by exact .drop 0 rfl (.refl))
      · have hx76 := ite_bf h74 hx72
        refine T_condF rfl ?_
        refine T_skip ?_
        refine T_next ?_
        refine T_seq ?_
        refine T_reg ?_
        refine T_val (Ev_move rfl) rfl ?_
        refine T_val (Ev_loadK rfl (i := 0) rfl rfl agg33) rfl ?_
        obtain ⟨r77, h78, hx79⟩ := bnd_some hx76
        refine T_x (Wx_callL rfl (fun w1 hw1 => label_Seeds_ok p0 p1 (Has.len' ha0') h78 w1 (okApp (K := K) (K2 := []) hK (by exact (SubE.cons2 (i := 1) rfl (SubE.nil))) (by exact (SubE.nil)) hw1)) rfl ?_)
        rintro _ _ hlo ⟨A80, c81, rfl, rfl, -⟩
        refine T_app1 ?_
        refine T_val (Ev_move rfl) rfl ?_
        refine T_val (Ev_extract rfl rfl) rfl ?_
        refine T_val (Ev_extract rfl rfl) rfl ?_
        refine T_val (Ev_assign rfl) rfl ?_
        refine T_val (Ev_assign rfl) rfl ?_
        refine T_nil ?_
        refine T_next ?_
        refine T_seq ?_
        refine T_reg ?_
        refine T_val (Ev_move rfl) rfl ?_
        refine T_val (Ev_loadK rfl (i := 1) rfl rfl agg33) rfl ?_
        obtain ⟨r82, h83, hx84⟩ := bnd_some hx79
        refine T_x (Wx_callL rfl (fun w1 hw1 => lidarref07_Seeds_ok p0 p1 (Has.len' ha0') h83 w1 (okApp (K := K) (K2 := []) hK (by exact (SubE.cons2 (i := 2) rfl (SubE.nil))) (by exact (SubE.nil)) hw1)) rfl ?_)
        rintro _ _ hlo ⟨A85, c86, rfl, rfl, -⟩
        refine T_app1 ?_
        refine T_val (Ev_move rfl) rfl ?_
        refine T_val (Ev_extract rfl rfl) rfl ?_
        refine T_val (Ev_extract rfl rfl) rfl ?_
        refine T_val (Ev_assign rfl) rfl ?_
        refine T_val (Ev_assign rfl) rfl ?_
        refine T_nil ?_
        refine T_next ?_
        obtain ⟨j14, hj14, hx84⟩ := jn_some hx84
        refine T_cutP (τ := Bool) (γ := Unit) (J := j14) (out := r) (fun s14 y14 => [(4, .bool (s14))]) (fun s14 y14 => [] ++ [.old w]) (fun s14 y14 => True) ?_ ?_
        · intro s14 y14 hx103 hG104
          subst hj14
          refine T_retc ?_
          obtain rfl := Option.some.inj hx103
          exact T_retP (rs := [.tmp 4]) Try.results5 (.tmp rfl (.nil)) (Ln := []) ⟨rfl, rfl, trivial⟩ (loNil) (by exact .refl)
        · skip
          refine T_reg ?_
          refine T_val (Ev_move rfl) rfl ?_
          refine T_val (Ev_move rfl) rfl ?_
          refine T_rowP (k := 1) rfl (by decide) (fun _ => rfl) (fun hn87 hs88 => ?_)
          refine T_rowP (k := 0) rfl (by decide) (fun _ => rfl) (fun hn89 hs90 => ?_)
          obtain ⟨r91, h92, hx93⟩ := bnd_some hx84
          refine T_x (Wx_callL rfl (fun w1 hw1 => lidarlaw07_sameInts_ok r77.1 r82.1 (Has.len' (Has.up (L := ([.r (A80) ((r77.1).length) (c81) 3 1 ((r77.1).flatMap e_i64), .r (A85) ((r82.1).length) (c86) 3 1 ((r82.1).flatMap e_i64)] : List Ent)) hs88 (SubE.cons2 (i := 0) rfl (SubE.nil)))) (Has.len' (Has.up (L := ([.r (A80) ((r77.1).length) (c81) 3 1 ((r77.1).flatMap e_i64), .r (A85) ((r82.1).length) (c86) 3 1 ((r82.1).flatMap e_i64)] : List Ent)) hs90 (SubE.cons2 (i := 1) rfl (SubE.nil)))) h92 w1 (okAll (K := ([.r (A80) ((r77.1).length) (c81) 3 1 ((r77.1).flatMap e_i64), .r (A85) ((r82.1).length) (c86) 3 1 ((r82.1).flatMap e_i64)] : List Ent)) (by exact (SubE.cons2 (i := 1) rfl (SubE.cons2 (i := 0) rfl (SubE.nil)))) hw1)) rfl ?_)
          rintro _ _ hlo ⟨rfl, rfl, -⟩
          refine T_app0 ?_
          refine T_val (Ev_move rfl) rfl ?_
          refine T_caseB (s := 87) rfl (fun h94 => ?_) (fun h94 => ?_)
          · have hx95 := ite_t h94 hx93
            refine T_valG rfl rfl rfl (Ev_move rfl) rfl ?_
            refine T_valG rfl rfl rfl (Ev_move rfl) rfl ?_
            refine T_valG rfl rfl rfl (Ev_eql rfl rfl) rfl ?_
            refine T_val (Ev_pickT rfl rfl) rfl ?_
            refine T_val (Ev_move rfl) rfl ?_
            refine T_caseP (s := 92) rfl (fun h96 => ?_) (fun h96 => ?_)
            · have hx97 := ite_t h96 hx95
              obtain ⟨r98, h99, hx100⟩ := bnd_some hx97
              refine T_xG rfl rfl rfl (Wx_callL rfl (fun w1 hw1 => lidarlaw07_first_ok  h99 w1) rfl ?_)
              rintro _ _ hlo ⟨rfl, rfl, -⟩
              refine T_app0 ?_
              refine T_val (Ev_pickT rfl rfl) rfl ?_
              refine T_val (Ev_assign rfl) rfl ?_
              refine T_nil ?_
              exact T_metP r98 () hx100 trivial (by exact .cons rfl (.nil)) (by exact .drop 0 rfl (.drop 0 rfl (.drop 0 rfl (.refl))))
            · have hx101 := ite_f h96 hx95
              refine T_skipG rfl rfl rfl rfl rfl ?_
              refine T_val (Ev_pickF rfl rfl) rfl ?_
              refine T_val (Ev_assign rfl) rfl ?_
              refine T_nil ?_
              exact T_metP false () hx101 trivial (by exact .cons rfl (.nil)) (by exact .drop 0 rfl (.drop 0 rfl (.drop 0 rfl (.refl))))
          · have hx102 := ite_bf h94 hx93
            refine T_skipG rfl rfl rfl rfl rfl ?_
            refine T_skipG rfl rfl rfl rfl rfl ?_
            refine T_skipG rfl rfl rfl rfl rfl ?_
            refine T_val (Ev_pickF rfl rfl) rfl ?_
            refine T_val (Ev_move rfl) rfl ?_
            refine T_skipG rfl rfl rfl rfl rfl ?_
            refine T_val (Ev_pickF rfl rfl) rfl ?_
            refine T_val (Ev_assign rfl) rfl ?_
            refine T_nil ?_
            exact T_metP false () hx102 trivial (by exact .cons rfl (.nil)) (by exact .drop 0 rfl (.drop 0 rfl (.drop 0 rfl (.refl))))
    · skip
      refine T_draw [0, 2, 0, 2, 0, 0, 1, 2, 1, 2, 0, 0, 0, 0, 0, 2, 0, 0, 0, 0, 0, 0, 0, 0, 0, 0, 2, 0, 0, 0, 0, 0, 0, 0] [[], [0], [], [0, 1, 2], [0, 1, 2, 3], [0, 1, 2, 3, 4], [0, 1, 2, 3, 4, 5], [0, 1, 2, 3, 4, 5, 6], [0, 1, 2, 3, 4, 5], [0, 1, 2, 3, 4, 5, 6, 7, 8], [0, 1, 2, 3, 4, 5, 6, 7, 8, 9], [0, 1, 2, 3, 4, 5, 6, 7, 8, 9, 10], [0, 1, 2, 3, 4, 5, 6, 7, 8, 9, 10, 11], [0, 1, 2, 3, 4, 5, 6, 7, 8, 9, 10, 11, 12], [0, 1, 2, 3, 4, 5, 6, 7, 8, 9, 10, 11, 12], [0, 1, 2, 3, 4, 5, 6, 7, 8, 9, 10, 11, 12, 13, 14], [0, 1, 2, 3, 4, 5, 6, 7, 8, 9, 10, 11, 12, 13, 14, 15], [0, 1, 2, 3, 4, 5, 6, 7, 8, 9, 10, 11, 12, 13, 14, 15, 16], [0, 1, 2, 3, 4, 5, 6, 7, 8, 9, 10, 11, 12, 13, 14, 15, 16, 17], [0, 1, 2, 3, 4, 5, 6, 7, 8, 9, 10, 11, 12, 13, 14, 15, 16, 17, 18], [0, 1, 2, 3, 4, 5, 6, 7, 8, 9, 10, 11, 12, 13, 14, 15, 16, 17, 18], [0, 1, 2, 3, 4, 5, 6, 7, 8, 9, 10, 11, 12, 13, 14, 15, 16, 17, 18, 19, 20], [0, 1, 2, 3, 4, 5, 6, 7, 8, 9, 10, 11, 12, 13, 14, 15, 16, 17, 18, 19, 20, 21], [0, 1, 2, 3, 4, 5, 6, 7, 8, 9, 10, 11, 12, 13, 14, 15, 16, 17, 18, 19, 20, 21, 22], [0, 1, 2, 3, 4, 5, 6, 7, 8, 9, 10, 11, 12, 13, 14, 15, 16, 17, 18, 19, 20, 21, 22, 23], [0, 1, 2, 3, 4, 5, 6, 7, 8, 9, 10, 11, 12, 13, 14, 15, 16, 17, 18, 19, 20, 21, 22, 23], [0, 1, 2, 3, 4, 5, 6, 7, 8, 9, 10, 11, 12, 13, 14, 15, 16, 17, 18, 19, 20, 21, 22, 23, 24, 25], [0, 1, 2, 3, 4, 5, 6, 7, 8, 9, 10, 11, 12, 13, 14, 15, 16, 17, 18, 19, 20, 21, 22, 23, 24, 25, 26], [0, 1, 2, 3, 4, 5, 6, 7, 8, 9, 10, 11, 12, 13, 14, 15, 16, 17, 18, 19, 20, 21, 22, 23, 24, 25, 26, 27], [0, 1, 2, 3, 4, 5, 6, 7, 8, 9, 10, 11, 12, 13, 14, 15, 16, 17, 18, 19, 20, 21, 22, 23, 24, 25, 26, 27, 28], [0, 1, 2, 3, 4, 5, 6, 7, 8, 9, 10, 11, 12, 13, 14, 15, 16, 17, 18, 19, 20, 21, 22, 23, 24, 25, 26, 27, 28, 29], [0, 1, 2, 3, 4, 5, 6, 7, 8, 9, 10, 11, 12, 13, 14, 15, 16, 17, 18, 19, 20, 21, 22, 23, 24, 25, 26, 27, 28, 29], [0, 1, 2, 3, 4, 5, 6, 7, 8, 9, 10, 11, 12, 13, 14, 15, 16, 17, 18, 19, 20, 21, 22, 23, 24, 25, 26, 27, 28, 29, 30, 31], [0, 1, 2, 3, 4, 5, 6, 7, 8, 9, 10, 11, 12, 13, 14, 15, 16, 17, 18, 19, 20, 21, 22, 23, 24, 25, 26, 27, 28, 29, 30, 31, 32]] (.q 0 (.q 2 (.e 1 (.e 3 (.q 4 (.q 5 (.q 6 (.q 8 (.e 7 (.e 9 (.q 10 (.q 11 (.q 12 (.q 13 (.q 14 (.e 15 (.q 16 (.q 17 (.q 18 (.q 19 (.q 20 (.q 21 (.q 22 (.q 23 (.q 24 (.q 25 (.e 26 (.q 27 (.q 28 (.q 29 (.q 30 (.q 31 (.q 32 (.q 33 (.done)))))))) (.stop)))))))))))) (.stop))))))) (.stop)) (.stop)))))) (.stop)) (.stop)))) mixed (by kernel_rfl) (by kernel_rfl) ?_
      refine P_p rfl rfl (Ev_move rfl) rfl ?_
      refine P_p rfl rfl (Ev_move rfl) rfl ?_
      obtain ⟨r31, h32, hx33⟩ := bnd_some hx28
      refine P_x rfl (Wx_callL rfl (fun w1 hw1 => label_Valid_ok p0 (Has.len' ha0') h32 w1 (okApp (K := K) (K2 := []) hK (by exact (SubE.cons2 (i := 5) rfl (SubE.nil))) (by exact (SubE.nil)) hw1)) rfl ?_) ?_
      rotate_left; exact P_stop
      rintro _ _ hlo ⟨rfl, rfl, -⟩
      refine T_app0 ?_
      obtain ⟨r34, h35, hx36⟩ := bnd_some hx33
      refine P_x rfl (Wx_callL rfl (fun w1 hw1 => lidarref07_Valid_ok p0 (Has.len' ha0') h35 w1 (okApp (K := K) (K2 := []) hK (by exact (SubE.cons2 (i := 5) rfl (SubE.nil))) (by exact (SubE.nil)) hw1)) rfl ?_) ?_
      rotate_left; exact P_stop
      rintro _ _ hlo ⟨rfl, rfl, -⟩
      refine T_app0 ?_
      refine P_p rfl rfl (Ev_neqB rfl rfl (by kernel_rfl)) rfl ?_
      refine P_p rfl rfl (Ev_move rfl) rfl ?_
      refine T_caseNB (s := 43) rfl (fun h37 => ?_) (fun h37 => ?_)
      · have hx38 := ite_bf h37 hx36
        refine P_skip rfl rfl rfl rfl rfl rfl ?_
        refine P_skip rfl rfl rfl rfl rfl rfl ?_
        refine P_skipE rfl rfl rfl rfl rfl rfl ?_ ?_
        rotate_left; exact P_stop
        refine P_skipE rfl rfl rfl rfl rfl rfl ?_ ?_
        rotate_left; exact P_stop
        refine P_skip rfl rfl rfl rfl rfl rfl ?_
        refine P_p rfl rfl (Ev_pickT rfl rfl) rfl ?_
        refine P_p rfl rfl (Ev_move rfl) rfl ?_
        refine P_skip rfl rfl rfl rfl rfl rfl ?_
        refine P_skip rfl rfl rfl rfl rfl rfl ?_
        refine P_skipE rfl rfl rfl rfl rfl rfl ?_ ?_
        rotate_left; exact P_stop
        refine P_skip rfl rfl rfl rfl rfl rfl ?_
        refine P_p rfl rfl (Ev_pickT rfl rfl) rfl ?_
        refine P_p rfl rfl (Ev_move rfl) rfl ?_
        refine P_skip rfl rfl rfl rfl rfl rfl ?_
        refine P_skip rfl rfl rfl rfl rfl rfl ?_
        refine P_skip rfl rfl rfl rfl rfl rfl ?_
        refine P_p rfl rfl (Ev_pickT rfl rfl) rfl ?_
        refine P_p rfl rfl (Ev_move rfl) rfl ?_
        refine P_skip rfl rfl rfl rfl rfl rfl ?_
        refine P_skip rfl rfl rfl rfl rfl rfl ?_
        refine P_skipE rfl rfl rfl rfl rfl rfl ?_ ?_
        rotate_left; exact P_stop
        refine P_skip rfl rfl rfl rfl rfl rfl ?_
        refine P_p rfl rfl (Ev_pickT rfl rfl) rfl ?_
        refine P_p rfl rfl (Ev_move rfl) rfl ?_
        refine P_skip rfl rfl rfl rfl rfl rfl ?_
        refine P_skip rfl rfl rfl rfl rfl rfl ?_
        refine P_skip rfl rfl rfl rfl rfl rfl ?_
        refine P_p rfl rfl (Ev_pickT rfl rfl) rfl ?_
        refine P_done ?_
        exact T_metP true () hx38 trivial (by exact .cons rfl (.cons rfl (.cons rfl (.nil)))) (by exact .pick 4 rfl (.drop 0 rfl (.drop 0 rfl (.drop 0 rfl (.drop 0 rfl (.refl))))))
      · have hx39 := ite_t h37 hx36
        refine P_qG rfl rfl rfl rfl rfl (Ev_loadK rfl (i := 4) rfl rfl agg33) rfl ?_
        refine P_qG rfl rfl rfl rfl rfl (Ev_loadK rfl (i := 4) rfl rfl agg33) rfl ?_
        obtain ⟨r40, h41, hx42⟩ := bnd_some hx39
        refine P_xG rfl rfl rfl rfl (Wx_callL rfl (fun w1 hw1 => label_ValidRules_ok p1  h41 w1) rfl ?_) ?_
        rotate_left; exact P_stop
        rintro _ _ hlo ⟨rfl, rfl, -⟩
        refine T_app0 ?_
        obtain ⟨r43, h44, hx45⟩ := bnd_some hx42
        refine P_xG rfl rfl rfl rfl (Wx_callL rfl (fun w1 hw1 => lidarref07_ValidRules_ok p1  h44 w1) rfl ?_) ?_
        rotate_left; exact P_stop
        rintro _ _ hlo ⟨rfl, rfl, -⟩
        refine T_app0 ?_
        refine P_pG rfl rfl rfl rfl rfl (Ev_neqB rfl rfl (by kernel_rfl)) rfl ?_
        refine P_p rfl rfl (Ev_pickF rfl rfl) rfl ?_
        refine P_p rfl rfl (Ev_move rfl) rfl ?_
        refine T_caseNB (s := 50) rfl (fun h46 => ?_) (fun h46 => ?_)
        · have hx47 := ite_bf h46 hx45
          refine P_skip rfl rfl rfl rfl rfl rfl ?_
          refine P_skip rfl rfl rfl rfl rfl rfl ?_
          refine P_skipE rfl rfl rfl rfl rfl rfl ?_ ?_
          rotate_left; exact P_stop
          refine P_skip rfl rfl rfl rfl rfl rfl ?_
          refine P_p rfl rfl (Ev_pickT rfl rfl) rfl ?_
          refine P_p rfl rfl (Ev_move rfl) rfl ?_
          refine P_skip rfl rfl rfl rfl rfl rfl ?_
          refine P_skip rfl rfl rfl rfl rfl rfl ?_
          refine P_skip rfl rfl rfl rfl rfl rfl ?_
          refine P_p rfl rfl (Ev_pickT rfl rfl) rfl ?_
          refine P_p rfl rfl (Ev_move rfl) rfl ?_
          refine P_skip rfl rfl rfl rfl rfl rfl ?_
          refine P_skip rfl rfl rfl rfl rfl rfl ?_
          refine P_skipE rfl rfl rfl rfl rfl rfl ?_ ?_
          rotate_left; exact P_stop
          refine P_skip rfl rfl rfl rfl rfl rfl ?_
          refine P_p rfl rfl (Ev_pickT rfl rfl) rfl ?_
          refine P_p rfl rfl (Ev_move rfl) rfl ?_
          refine P_skip rfl rfl rfl rfl rfl rfl ?_
          refine P_skip rfl rfl rfl rfl rfl rfl ?_
          refine P_skip rfl rfl rfl rfl rfl rfl ?_
          refine P_p rfl rfl (Ev_pickT rfl rfl) rfl ?_
          refine P_done ?_
          exact T_metP true () hx47 trivial (by exact .cons rfl (.cons rfl (.cons rfl (.nil)))) (by exact .pick 4 rfl (.drop 0 rfl (.drop 0 rfl (.drop 0 rfl (.drop 0 rfl (.refl))))))
        · have hx48 := ite_t h46 hx45
          refine P_pG rfl rfl rfl rfl rfl (Ev_move rfl) rfl ?_
          refine P_pG rfl rfl rfl rfl rfl (Ev_move rfl) rfl ?_
          refine T_rowP (k := 3) rfl (by decide) (fun _ => rfl) (fun hn49 hs50 => ?_)
          refine T_rowP (k := 2) rfl (by decide) (fun _ => rfl) (fun hn51 hs52 => ?_)
          obtain ⟨r53, h54, hx55⟩ := bnd_some hx48
          refine P_xG rfl rfl rfl rfl (Wx_callL rfl (fun w1 hw1 => lidarlaw07_sameInts_ok r11.1 r16.1 (Has.len' (Has.up (L := ([.r (A14) ((r11.1).length) (c15) 3 1 ((r11.1).flatMap e_i64), .r (A19) ((r16.1).length) (c20) 3 1 ((r16.1).flatMap e_i64)] : List Ent)) hs50 (SubE.cons2 (i := 0) rfl (SubE.nil)))) (Has.len' (Has.up (L := ([.r (A14) ((r11.1).length) (c15) 3 1 ((r11.1).flatMap e_i64), .r (A19) ((r16.1).length) (c20) 3 1 ((r16.1).flatMap e_i64)] : List Ent)) hs52 (SubE.cons2 (i := 1) rfl (SubE.nil)))) h54 w1 (okAll (K := ([.r (A14) ((r11.1).length) (c15) 3 1 ((r11.1).flatMap e_i64), .r (A19) ((r16.1).length) (c20) 3 1 ((r16.1).flatMap e_i64)] : List Ent)) (by exact (SubE.cons2 (i := 3) rfl (SubE.cons2 (i := 2) rfl (SubE.nil)))) hw1)) rfl ?_) ?_
          rotate_left; exact P_stop
          rintro _ _ hlo ⟨rfl, rfl, -⟩
          refine T_app0 ?_
          refine P_pG rfl rfl rfl rfl rfl (Ev_not rfl) rfl ?_
          refine P_p rfl rfl (Ev_pickF rfl rfl) rfl ?_
          refine P_p rfl rfl (Ev_move rfl) rfl ?_
          refine T_caseNB (s := 56) rfl (fun h56 => ?_) (fun h56 => ?_)
          · have hx57 := ite_bf h56 hx55
            refine P_skip rfl rfl rfl rfl rfl rfl ?_
            refine P_skip rfl rfl rfl rfl rfl rfl ?_
            refine P_skip rfl rfl rfl rfl rfl rfl ?_
            refine P_p rfl rfl (Ev_pickT rfl rfl) rfl ?_
            refine P_p rfl rfl (Ev_move rfl) rfl ?_
            refine P_skip rfl rfl rfl rfl rfl rfl ?_
            refine P_skip rfl rfl rfl rfl rfl rfl ?_
            refine P_skipE rfl rfl rfl rfl rfl rfl ?_ ?_
            rotate_left; exact P_stop
            refine P_skip rfl rfl rfl rfl rfl rfl ?_
            refine P_p rfl rfl (Ev_pickT rfl rfl) rfl ?_
            refine P_p rfl rfl (Ev_move rfl) rfl ?_
            refine P_skip rfl rfl rfl rfl rfl rfl ?_
            refine P_skip rfl rfl rfl rfl rfl rfl ?_
            refine P_skip rfl rfl rfl rfl rfl rfl ?_
            refine P_p rfl rfl (Ev_pickT rfl rfl) rfl ?_
            refine P_done ?_
            exact T_metP true () hx57 trivial (by exact .cons rfl (.cons rfl (.cons rfl (.nil)))) (by exact .pick 4 rfl (.drop 0 rfl (.drop 0 rfl (.drop 0 rfl (.drop 0 rfl (.refl))))))
          · have hx58 := ite_t h56 hx55
            refine P_pG rfl rfl rfl rfl rfl (Ev_move rfl) rfl ?_
            refine P_pG rfl rfl rfl rfl rfl (Ev_move rfl) rfl ?_
            refine P_pG rfl rfl rfl rfl rfl (Ev_neq rfl rfl) rfl ?_
            refine P_p rfl rfl (Ev_pickF rfl rfl) rfl ?_
            refine P_p rfl rfl (Ev_move rfl) rfl ?_
            refine T_caseNP (s := 61) rfl (fun h59 => ?_) (fun h59 => ?_)
            · have hx60 := ite_f h59 hx58
              refine P_skip rfl rfl rfl rfl rfl rfl ?_
              refine P_skip rfl rfl rfl rfl rfl rfl ?_
              refine P_skipE rfl rfl rfl rfl rfl rfl ?_ ?_
              rotate_left; exact P_stop
              refine P_skip rfl rfl rfl rfl rfl rfl ?_
              refine P_p rfl rfl (Ev_pickT rfl rfl) rfl ?_
              refine P_p rfl rfl (Ev_move rfl) rfl ?_
              refine P_skip rfl rfl rfl rfl rfl rfl ?_
              refine P_skip rfl rfl rfl rfl rfl rfl ?_
              refine P_skip rfl rfl rfl rfl rfl rfl ?_
              refine P_p rfl rfl (Ev_pickT rfl rfl) rfl ?_
              refine P_done ?_
              exact T_metP true () hx60 trivial (by exact .cons rfl (.cons rfl (.cons rfl (.nil)))) (by exact .pick 4 rfl (.drop 0 rfl (.drop 0 rfl (.drop 0 rfl (.drop 0 rfl (.refl))))))
            · have hx61 := ite_t h59 hx58
              refine P_pG rfl rfl rfl rfl rfl (Ev_move rfl) rfl ?_
              refine P_pG rfl rfl rfl rfl rfl (Ev_move rfl) rfl ?_
              refine T_rowP (k := 1) rfl (by decide) (fun _ => rfl) (fun hn62 hs63 => ?_)
              refine T_rowP (k := 0) rfl (by decide) (fun _ => rfl) (fun hn64 hs65 => ?_)
              obtain ⟨r66, h67, hx68⟩ := bnd_some hx61
              refine P_xG rfl rfl rfl rfl (Wx_callL rfl (fun w1 hw1 => lidarlaw07_sameInts_ok r21.1 r26.1 (Has.len' (Has.up (L := ([.r (A24) ((r21.1).length) (c25) 3 1 ((r21.1).flatMap e_i64), .r (A29) ((r26.1).length) (c30) 3 1 ((r26.1).flatMap e_i64)] : List Ent)) hs63 (SubE.cons2 (i := 0) rfl (SubE.nil)))) (Has.len' (Has.up (L := ([.r (A24) ((r21.1).length) (c25) 3 1 ((r21.1).flatMap e_i64), .r (A29) ((r26.1).length) (c30) 3 1 ((r26.1).flatMap e_i64)] : List Ent)) hs65 (SubE.cons2 (i := 1) rfl (SubE.nil)))) h67 w1 (okAll (K := ([.r (A24) ((r21.1).length) (c25) 3 1 ((r21.1).flatMap e_i64), .r (A29) ((r26.1).length) (c30) 3 1 ((r26.1).flatMap e_i64)] : List Ent)) (by exact (SubE.cons2 (i := 1) rfl (SubE.cons2 (i := 0) rfl (SubE.nil)))) hw1)) rfl ?_) ?_
              rotate_left; exact P_stop
              rintro _ _ hlo ⟨rfl, rfl, -⟩
              refine T_app0 ?_
              refine P_pG rfl rfl rfl rfl rfl (Ev_not rfl) rfl ?_
              refine P_p rfl rfl (Ev_pickF rfl rfl) rfl ?_
              refine P_p rfl rfl (Ev_move rfl) rfl ?_
              refine T_caseNB (s := 67) rfl (fun h69 => ?_) (fun h69 => ?_)
              · have hx70 := ite_bf h69 hx68
                refine P_skip rfl rfl rfl rfl rfl rfl ?_
                refine P_skip rfl rfl rfl rfl rfl rfl ?_
                refine P_skip rfl rfl rfl rfl rfl rfl ?_
                refine P_p rfl rfl (Ev_pickT rfl rfl) rfl ?_
                refine P_done ?_
                exact T_metP true () hx70 trivial (by exact .cons rfl (.cons rfl (.cons rfl (.nil)))) (by exact .pick 4 rfl (.drop 0 rfl (.drop 0 rfl (.drop 0 rfl (.drop 0 rfl (.refl))))))
              · have hx71 := ite_t h69 hx68
                refine P_pG rfl rfl rfl rfl rfl (Ev_move rfl) rfl ?_
                refine P_pG rfl rfl rfl rfl rfl (Ev_move rfl) rfl ?_
                refine P_pG rfl rfl rfl rfl rfl (Ev_neq rfl rfl) rfl ?_
                refine P_p rfl rfl (Ev_pickF rfl rfl) rfl ?_
                refine P_done ?_
                exact T_metP (!(decide (r21.2 = r26.2))) () hx71 trivial (by exact .cons rfl (.cons rfl (.cons rfl (.nil)))) (by exact .pick 4 rfl (.drop 0 rfl (.drop 0 rfl (.drop 0 rfl (.drop 0 rfl (.refl))))))
end Go.Proofs.Ytdkjcoonmgjpfaa
