/- Walks of the program: grids. -/
import Derived.Test.YtjhknbpiaikblaaWmod
namespace Go.Proofs.Ytjhknbpiaikblaa
open Go Go.RowKit
theorem fld39_0 : FieldOf Try.prog 39 0 0 := .mk Try.underlying39 rfl rfl (show Try.prog.info? 3 = some Try.t3 from by kernel_rfl) (show Try.t3.size = 1 from by kernel_rfl) rfl
theorem fld39_1 : FieldOf Try.prog 39 1 1 := .mk Try.underlying39 rfl rfl (show Try.prog.info? 3 = some Try.t3 from by kernel_rfl) (show Try.t3.size = 1 from by kernel_rfl) rfl
theorem fld41_0 : FieldOf Try.prog 41 0 0 := .mk Try.underlying41 rfl rfl (show Try.prog.info? 4 = some Try.t4 from by kernel_rfl) (show Try.t4.size = 1 from by kernel_rfl) rfl
theorem fld41_1 : FieldOf Try.prog 41 1 1 := .mk Try.underlying41 rfl rfl (show Try.prog.info? 39 = some Try.t39 from by kernel_rfl) (show Try.t39.size = 2 from by kernel_rfl) rfl
theorem agg39 : AggOf Try.prog 39 2 := .mk Try.underlying39 rfl (show Try.prog.info? 39 = some Try.t39 from by kernel_rfl) (by kernel_rfl)
theorem bld39_  : BuildOf Try.prog 39 [] [.int .i64 (0), .int .i64 (0)] := fun w => by kernel_rfl
theorem seq39 (a0 : Int) (a1 : Int) (b0 : Int) (b1 : Int) : ∀ w, (Op.equalIn 10000 39 (.agg #[.int .i64 (a0), .int .i64 (a1)]) (.agg #[.int .i64 (b0), .int .i64 (b1)])).run Try.prog w = .ok ((((a0) == (b0)) && (((a1) == (b1)) && true))) w :=
  EqF.struct Try.underlying39 (by kernel_rfl) (.cons rfl (fun w => by kernel_rfl) (fun w => by kernel_rfl) (fun w => run_equalIn_int w 9998 3 .i64 .i64 _ _ Try.underlying3) (.cons rfl (fun w => by kernel_rfl) (fun w => by kernel_rfl) (fun w => run_equalIn_int w 9998 3 .i64 .i64 _ _ Try.underlying3) (EqF.nil)))
theorem fld26_0 : FieldOf Try.prog 26 0 0 := .mk Try.underlying26 rfl rfl (show Try.prog.info? 23 = some Try.t23 from by kernel_rfl) (show Try.t23.size = 5 from by kernel_rfl) rfl
theorem fld26_1 : FieldOf Try.prog 26 1 5 := .mk Try.underlying26 rfl rfl (show Try.prog.info? 24 = some Try.t24 from by kernel_rfl) (show Try.t24.size = 1 from by kernel_rfl) rfl
theorem one24 : OneOf Try.prog 24 := .mk Try.underlying24 rfl (show Try.prog.info? 24 = some Try.t24 from by kernel_rfl) (by kernel_rfl)
theorem slc24 : SliceOf Try.prog 24 41 3 := .mk Try.underlying24 (show Try.prog.info? 41 = some Try.t41 from by kernel_rfl) (by kernel_rfl)
theorem agg41 : AggOf Try.prog 41 3 := .mk Try.underlying41 rfl (show Try.prog.info? 41 = some Try.t41 from by kernel_rfl) (by kernel_rfl)
theorem zer41 : ZeroOf Try.prog 41 [.bool (false), .int .i64 (0), .int .i64 (0)] := ⟨_, Try.zeroValue41, rfl⟩
theorem agg26 : AggOf Try.prog 26 6 := .mk Try.underlying26 rfl (show Try.prog.info? 26 = some Try.t26 from by kernel_rfl) (by kernel_rfl)
theorem seq23 (a0 : Int) (a1 : Int) (a2 : Int) (a3 : Int) (a4 : Int) (b0 : Int) (b1 : Int) (b2 : Int) (b3 : Int) (b4 : Int) : ∀ w, (Op.equalIn 10000 23 (.agg #[.int .i64 (a0), .int .i64 (a1), .int .i64 (a2), .int .i64 (a3), .int .i64 (a4)]) (.agg #[.int .i64 (b0), .int .i64 (b1), .int .i64 (b2), .int .i64 (b3), .int .i64 (b4)])).run Try.prog w = .ok ((((a0) == (b0)) && (((a1) == (b1)) && (((a2) == (b2)) && (((a3) == (b3)) && (((a4) == (b4)) && true)))))) w :=
  EqF.struct Try.underlying23 (by kernel_rfl) (.cons rfl (fun w => by kernel_rfl) (fun w => by kernel_rfl) (fun w => run_equalIn_int w 9998 3 .i64 .i64 _ _ Try.underlying3) (.cons rfl (fun w => by kernel_rfl) (fun w => by kernel_rfl) (fun w => run_equalIn_int w 9998 3 .i64 .i64 _ _ Try.underlying3) (.cons rfl (fun w => by kernel_rfl) (fun w => by kernel_rfl) (fun w => run_equalIn_int w 9998 3 .i64 .i64 _ _ Try.underlying3) (.cons rfl (fun w => by kernel_rfl) (fun w => by kernel_rfl) (fun w => run_equalIn_int w 9998 3 .i64 .i64 _ _ Try.underlying3) (.cons rfl (fun w => by kernel_rfl) (fun w => by kernel_rfl) (fun w => run_equalIn_int w 9998 3 .i64 .i64 _ _ Try.underlying3) (EqF.nil))))))
set_option maxRecDepth 100000 in
theorem spanValid_ok (a b : Int) (w : World) : Ct Try.prog 125 [.agg #[.int .i64 a, .int .i64 b]] w fun v => v = .bool (decide (-1152921504606846976 ≤ a) && decide (a ≤ b) && decide (b ≤ 1152921504606846976)) := by
  refine CtL.mk 18 Try.func125 rfl Try.ntmps125 (by kernel_rfl) rfl ?_
  show T 18 _ [(0, .agg #[.int .i64 (a), .int .i64 (b)])] _
  refine T_seq ?_
  refine T_reg ?_
  refine T_x (Wx_box rfl rfl rfl (fun g1 => ?_))
  refine T_val (Ev_assign rfl) rfl ?_
  refine T_nil ?_
  refine T_next ?_
  refine T_seq ?_
  refine T_reg ?_
  refine T_val (Ev_field rfl fld39_0 rfl) rfl ?_
  refine T_val (Ev_load1 rfl (i := 0) rfl rfl one3) rfl ?_
  refine T_val (Ev_leq rfl rfl) rfl ?_
  refine T_val (Ev_move rfl) rfl ?_
  refine T_caseP (s := 6) rfl (fun h2 => ?_) (fun h2 => ?_)
  · refine T_valG rfl rfl rfl (Ev_field rfl fld39_0 rfl) rfl ?_
    refine T_valG rfl rfl rfl (Ev_load1 rfl (i := 0) rfl rfl one3) rfl ?_
    refine T_valG rfl rfl rfl (Ev_field rfl fld39_1 rfl) rfl ?_
    refine T_valG rfl rfl rfl (Ev_load1 rfl (i := 0) rfl rfl one3) rfl ?_
    refine T_valG rfl rfl rfl (Ev_leq rfl rfl) rfl ?_
    refine T_val (Ev_pickT rfl rfl) rfl ?_
    refine T_val (Ev_move rfl) rfl ?_
    refine T_caseP (s := 13) rfl (fun h3 => ?_) (fun h3 => ?_)
    · refine T_valG rfl rfl rfl (Ev_field rfl fld39_1 rfl) rfl ?_
      refine T_valG rfl rfl rfl (Ev_load1 rfl (i := 0) rfl rfl one3) rfl ?_
      refine T_valG rfl rfl rfl (Ev_leq rfl rfl) rfl ?_
      refine T_val (Ev_pickT rfl rfl) rfl ?_
      refine T_val (Ev_assign rfl) rfl ?_
      refine T_nil ?_
      refine T_next ?_
      refine T_retc ?_
      refine T_retL (rs := [.tmp 2]) Try.results125 (.tmp rfl (.nil)) (Ln := []) (⟨by first | (simp_all [resVal]; done) | (simp only [resVal] at *; congr 1; grind), rfl⟩) (loNil) (.drop (.refl))
    · refine T_skipG rfl rfl rfl rfl rfl ?_
      refine T_skipG rfl rfl rfl rfl rfl ?_
      refine T_skipG rfl rfl rfl rfl rfl ?_
      refine T_val (Ev_pickF rfl rfl) rfl ?_
      refine T_val (Ev_assign rfl) rfl ?_
      refine T_nil ?_
      refine T_next ?_
      refine T_retc ?_
      refine T_retL (rs := [.tmp 2]) Try.results125 (.tmp rfl (.nil)) (Ln := []) (⟨by first | (simp_all [resVal]; done) | (simp only [resVal] at *; congr 1; grind), rfl⟩) (loNil) (.drop (.refl))
  · refine T_skipG rfl rfl rfl rfl rfl ?_
    refine T_skipG rfl rfl rfl rfl rfl ?_
    refine T_skipG rfl rfl rfl rfl rfl ?_
    refine T_skipG rfl rfl rfl rfl rfl ?_
    refine T_skipG rfl rfl rfl rfl rfl ?_
    refine T_val (Ev_pickF rfl rfl) rfl ?_
    refine T_val (Ev_move rfl) rfl ?_
    refine T_skipG rfl rfl rfl rfl rfl ?_
    refine T_skipG rfl rfl rfl rfl rfl ?_
    refine T_skipG rfl rfl rfl rfl rfl ?_
    refine T_val (Ev_pickF rfl rfl) rfl ?_
    refine T_val (Ev_assign rfl) rfl ?_
    refine T_nil ?_
    refine T_next ?_
    refine T_retc ?_
    refine T_retL (rs := [.tmp 2]) Try.results125 (.tmp rfl (.nil)) (Ln := []) (⟨by first | (simp_all [resVal]; done) | (simp only [resVal] at *; congr 1; grind), rfl⟩) (loNil) (.drop (.refl))
set_option maxRecDepth 100000 in
theorem validCell_ok (c : Cell) (w : World) : Ct Try.prog 93 [.agg #[.bool c.void, .int .i64 c.lo, .int .i64 c.hi]] w fun v => v = .bool (cellB c) := by
  refine CtL.mk 24 Try.func93 rfl Try.ntmps93 (by kernel_rfl) rfl ?_
  show T 24 _ [(0, .agg #[.bool (c.void), .int .i64 (c.lo), .int .i64 (c.hi)])] _
  refine T_seq ?_
  refine T_reg ?_
  refine T_x (Wx_box rfl rfl rfl (fun g1 => ?_))
  refine T_val (Ev_assign rfl) rfl ?_
  refine T_nil ?_
  refine T_next ?_
  refine T_seq ?_
  refine T_seq ?_
  refine T_reg ?_
  refine T_val (Ev_field rfl fld41_0 rfl) rfl ?_
  refine T_val (Ev_load1 rfl (i := 0) rfl rfl one4) rfl ?_
  refine T_nil ?_
  refine T_next ?_
  refine T_caseB (s := 4) rfl (fun h2 => ?_) (fun h2 => ?_)
  · refine T_condT rfl ?_
    refine T_seq ?_
    refine T_reg ?_
    refine T_val (Ev_field rfl fld41_1 rfl) rfl ?_
    refine T_val (Ev_loadK rfl (i := 0) rfl rfl agg39) rfl ?_
    refine T_val (Ev_build rfl (bld39_)) rfl ?_
    refine T_val (Ev_eqlS rfl rfl (by kernel_rfl) (seq39 _ _ _ _)) rfl ?_
    refine T_val (Ev_assign rfl) rfl ?_
    refine T_nil ?_
    refine T_next ?_
    refine T_retc ?_
    refine T_outR ?_
    refine T_retL (rs := [.tmp 2]) Try.results93 (.tmp rfl (.nil)) (Ln := []) (⟨by simp only [resVal, cellB, coordB] at *; congr 1; grind, rfl⟩) (loNil) (.drop (.refl))
  · refine T_condF rfl ?_
    refine T_skip ?_
    refine T_next ?_
    refine T_seq ?_
    refine T_reg ?_
    refine T_val (Ev_field rfl fld41_1 rfl) rfl ?_
    refine T_val (Ev_loadK rfl (i := 0) rfl rfl agg39) rfl ?_
    refine T_x (Wx_call rfl (fun w _ => spanValid_ok _ _  w) rfl ?_)
    rintro _ rfl
    refine T_val (Ev_move rfl) rfl ?_
    refine T_caseB (s := 12) rfl (fun h3 => ?_) (fun h3 => ?_)
    · refine T_valG rfl rfl rfl (Ev_field rfl fld41_1 rfl) rfl ?_
      refine T_valG rfl rfl rfl (Ev_field rfl fld39_0 rfl) rfl ?_
      refine T_valG rfl rfl rfl (Ev_load1 rfl (i := 0) rfl rfl one3) rfl ?_
      refine T_xG rfl rfl rfl (Wx_call rfl (fun w hw => validCoord_ok _ w) rfl ?_)
      rintro _ rfl
      refine T_val (Ev_pickT rfl rfl) rfl ?_
      refine T_val (Ev_move rfl) rfl ?_
      refine T_caseB (s := 18) rfl (fun h4 => ?_) (fun h4 => ?_)
      · refine T_valG rfl rfl rfl (Ev_field rfl fld41_1 rfl) rfl ?_
        refine T_valG rfl rfl rfl (Ev_field rfl fld39_1 rfl) rfl ?_
        refine T_valG rfl rfl rfl (Ev_load1 rfl (i := 0) rfl rfl one3) rfl ?_
        refine T_xG rfl rfl rfl (Wx_call rfl (fun w hw => validCoord_ok _ w) rfl ?_)
        rintro _ rfl
        refine T_val (Ev_pickT rfl rfl) rfl ?_
        refine T_val (Ev_assign rfl) rfl ?_
        refine T_nil ?_
        refine T_next ?_
        refine T_retc ?_
        refine T_retL (rs := [.tmp 2]) Try.results93 (.tmp rfl (.nil)) (Ln := []) (⟨by simp only [resVal, cellB, coordB] at *; congr 1; grind, rfl⟩) (loNil) (.drop (.refl))
      · refine T_skipG rfl rfl rfl rfl rfl ?_
        refine T_skipG rfl rfl rfl rfl rfl ?_
        refine T_skipG rfl rfl rfl rfl rfl ?_
        refine T_skipG rfl rfl rfl rfl rfl ?_
        refine T_val (Ev_pickF rfl rfl) rfl ?_
        refine T_val (Ev_assign rfl) rfl ?_
        refine T_nil ?_
        refine T_next ?_
        refine T_retc ?_
        refine T_retL (rs := [.tmp 2]) Try.results93 (.tmp rfl (.nil)) (Ln := []) (⟨by simp only [resVal, cellB, coordB] at *; congr 1; grind, rfl⟩) (loNil) (.drop (.refl))
    · refine T_skipG rfl rfl rfl rfl rfl ?_
      refine T_skipG rfl rfl rfl rfl rfl ?_
      refine T_skipG rfl rfl rfl rfl rfl ?_
      refine T_skipG rfl rfl rfl rfl rfl ?_
      refine T_val (Ev_pickF rfl rfl) rfl ?_
      refine T_val (Ev_move rfl) rfl ?_
      refine T_skipG rfl rfl rfl rfl rfl ?_
      refine T_skipG rfl rfl rfl rfl rfl ?_
      refine T_skipG rfl rfl rfl rfl rfl ?_
      refine T_skipG rfl rfl rfl rfl rfl ?_
      refine T_val (Ev_pickF rfl rfl) rfl ?_
      refine T_val (Ev_assign rfl) rfl ?_
      refine T_nil ?_
      refine T_next ?_
      refine T_retc ?_
      refine T_retL (rs := [.tmp 2]) Try.results93 (.tmp rfl (.nil)) (Ln := []) (⟨by simp only [resVal, cellB, coordB] at *; congr 1; grind, rfl⟩) (loNil) (.drop (.refl))
theorem all_no {α : Type} {p : α → Bool} {l : List α} {k : Nat} (hk : k < l.length) (h : p l[k] = false) : l.all p = false := by
  rcases hb : l.all p with _ | _
  · rfl
  · rw [List.all_eq_true] at hb; rw [hb _ (List.getElem_mem hk)] at h; cases h
theorem all_yes {α : Type} {p : α → Bool} {l : List α} {k : Nat} (hk : l.length ≤ k) (h : ∀ (j : Nat) (hj : j < l.length), j < k → p l[j] = true) : l.all p = true := by
  rw [List.all_eq_true]
  intro x hx
  obtain ⟨j, hj, rfl⟩ := List.getElem_of_mem hx
  exact h j hj (by omega)
set_option maxRecDepth 100000 in
theorem valid_ok (f : Raster) {A n c} {l : List Cell} {K : List Ent} (ha : Has K A n c 3 eC l) (w : World) (hK : ∀ e ∈ K, Ent.ok w e) : Ct Try.prog 50 [.agg #[.int .i64 f.x0, .int .i64 f.y0, .int .i64 f.step, .int .i64 f.nx, .int .i64 f.ny, .slice A n c]] w fun v => v = .bool (validB f l) := by
  have hs := (ha.sl hK).has
  have hn := ha.len
  have hsm := ha.small
  refine CtL.mk 33 Try.func50 rfl Try.ntmps50 (by kernel_rfl) rfl ?_
  show T 33 _ [(0, .agg #[.int .i64 (f.x0), .int .i64 (f.y0), .int .i64 (f.step), .int .i64 (f.nx), .int .i64 (f.ny), .slice (A) (n) (c)])] _
  refine T_seq ?_
  refine T_reg ?_
  refine T_x (Wx_box rfl rfl rfl (fun g1 => ?_))
  refine T_val (Ev_assign rfl) rfl ?_
  refine T_nil ?_
  refine T_next ?_
  refine T_seq ?_
  refine T_seq ?_
  refine T_reg ?_
  refine T_val (Ev_field rfl fld26_0 rfl) rfl ?_
  refine T_val (Ev_loadK rfl (i := 0) rfl rfl agg23) rfl ?_
  refine T_x (Wx_call rfl (fun w _ => validRaster_ok f  w) rfl ?_)
  rintro _ rfl
  refine T_val (Ev_not rfl) rfl ?_
  refine T_val (Ev_move rfl) rfl ?_
  refine T_caseNB (s := 9) rfl (fun h2 => ?_) (fun h2 => ?_)
  · refine T_skipG rfl rfl rfl rfl rfl ?_
    refine T_skipG rfl rfl rfl rfl rfl ?_
    refine T_skipG rfl rfl rfl rfl rfl ?_
    refine T_skipG rfl rfl rfl rfl rfl ?_
    refine T_skipG rfl rfl rfl rfl rfl ?_
    refine T_skipG rfl rfl rfl rfl rfl ?_
    refine T_skipG rfl rfl rfl rfl rfl ?_
    refine T_skipG rfl rfl rfl rfl rfl ?_
    refine T_skipG rfl rfl rfl rfl rfl ?_
    refine T_skipG rfl rfl rfl rfl rfl ?_
    refine T_skipG rfl rfl rfl rfl rfl ?_
    refine T_val (Ev_pickT rfl rfl) rfl ?_
    refine T_nil ?_
    refine T_next ?_
    refine T_condT rfl ?_
    refine T_seq ?_
    refine T_reg ?_
    refine T_val (Ev_assign rfl) rfl ?_
    refine T_nil ?_
    refine T_next ?_
    refine T_retc ?_
    refine T_outR ?_
    refine T_retL (rs := [.tmp 2]) Try.results50 (.tmp rfl (.nil)) (Ln := []) (⟨by simp only [resVal, validB]; first | (simp_all; done) | (rw [all_no (k := k) (by omega) (by assumption)]; simp; done) | (rw [all_yes (k := k) (by omega) hC2]; simp_all), rfl⟩) (loNil) (.drop (.refl))
  · refine T_valG rfl rfl rfl (Ev_field rfl fld26_1 rfl) rfl ?_
    refine T_valG rfl rfl rfl (Ev_load1 rfl (i := 0) rfl rfl one24) rfl ?_
    refine T_valG rfl rfl rfl (Ev_len rfl 41 Try.underlying24) rfl ?_
    refine T_valG rfl rfl rfl (Ev_field rfl fld26_0 rfl) rfl ?_
    refine T_valG rfl rfl rfl (Ev_field rfl fld23_3 rfl) rfl ?_
    refine T_valG rfl rfl rfl (Ev_load1 rfl (i := 0) rfl rfl one3) rfl ?_
    refine T_valG rfl rfl rfl (Ev_field rfl fld26_0 rfl) rfl ?_
    refine T_valG rfl rfl rfl (Ev_field rfl fld23_4 rfl) rfl ?_
    refine T_valG rfl rfl rfl (Ev_load1 rfl (i := 0) rfl rfl one3) rfl ?_
    have hg := good_of (f := f) (by assumption)
    have hs1 := hg.s1
    have hs2 := hg.s2
    have hn1 := hg.n1
    have hn2 := hg.n2
    have hm1 := hg.m1
    have hm2 := hg.m2
    have hx1 := hg.x1
    have hx2 := hg.x2
    have hy1 := hg.y1
    have hy2 := hg.y2
    have hsz := hg.size
    refine T_valG rfl rfl rfl (Ev_mul rfl rfl (by omega) (by omega)) rfl ?_
    refine T_valG rfl rfl rfl (Ev_neq rfl rfl) rfl ?_
    refine T_val (Ev_pickF rfl rfl) rfl ?_
    refine T_nil ?_
    refine T_next ?_
    refine T_caseNP (s := 21) rfl (fun h3 => ?_) (fun h3 => ?_)
    · refine T_condT rfl ?_
      refine T_seq ?_
      refine T_reg ?_
      refine T_val (Ev_assign rfl) rfl ?_
      refine T_nil ?_
      refine T_next ?_
      refine T_retc ?_
      refine T_outR ?_
      refine T_retL (rs := [.tmp 2]) Try.results50 (.tmp rfl (.nil)) (Ln := []) (⟨by simp only [resVal, validB]; first | (simp_all; done) | (rw [all_no (k := k) (by omega) (by assumption)]; simp; done) | (rw [all_yes (k := k) (by omega) hC2]; simp_all), rfl⟩) (loNil) (.drop (.refl))
    · refine T_condF rfl ?_
      refine T_skip ?_
      refine T_next ?_
      refine T_seq ?_
      refine T_seq ?_
      refine T_reg ?_
      refine T_val (Ev_field rfl fld26_1 rfl) rfl ?_
      refine T_val (Ev_load1 rfl (i := 0) rfl rfl one24) rfl ?_
      refine T_val (Ev_len rfl 41 Try.underlying24) rfl ?_
      refine T_val (Ev_move rfl) rfl ?_
      refine T_nil ?_
      refine T_next ?_
      refine T_block ?_
      refine T_loop (σ := Nat) (fun k => [(0, .agg #[.int .i64 (f.x0), .int .i64 (f.y0), .int .i64 (f.step), .int .i64 (f.nx), .int .i64 (f.ny), .slice (A) (n) (c)]), (1, .pointer (some ⟨g1, 0, none⟩)), (5, .pointer (some ⟨g1, 0, none⟩)), (6, .agg #[.int .i64 (f.x0), .int .i64 (f.y0), .int .i64 (f.step), .int .i64 (f.nx), .int .i64 (f.ny)]), (7, .bool (rasterB f)), (8, .bool (!(rasterB f))), (9, .bool (false)), (10, .pointer (some ⟨g1, 5, none⟩)), (11, .slice (A) (n) (c)), (12, .int .i64 (((n : Nat) : Int))), (13, .pointer (some ⟨g1, 0, none⟩)), (14, .pointer (some ⟨g1, 3, none⟩)), (15, .int .i64 (f.nx)), (16, .pointer (some ⟨g1, 0, none⟩)), (17, .pointer (some ⟨g1, 4, none⟩)), (18, .int .i64 (f.ny)), (19, .int .i64 ((f.nx) * (f.ny))), (20, .bool (!(decide ((((n : Nat) : Int)) = ((f.nx) * (f.ny)))))), (21, .bool (false)), (22, .pointer (some ⟨g1, 5, none⟩)), (23, .slice (A) (n) (c)), (24, .int .i64 (((n : Nat) : Int))), (25, .int .i64 (((k : Nat) : Int)))]) (fun k => [.m g1 26 [.int .i64 (f.x0), .int .i64 (f.y0), .int .i64 (f.step), .int .i64 (f.nx), .int .i64 (f.ny), .slice (A) (n) (c)]] ++ [.old w]) (fun k => k ≤ n ∧ ∀ (j : Nat) (hj : j < l.length), j < k → cellB l[j] = true) (fun k => n - k) (0) ?_ ?_ ?_ ?_
      · exact ⟨Nat.zero_le _, fun j hj h => absurd h (by omega)⟩
      · exact .cons rfl (.cons rfl (.cons rfl (.cons rfl (.cons rfl (.cons rfl (.cons rfl (.cons rfl (.cons rfl (.cons rfl (.cons rfl (.cons rfl (.cons rfl (.cons rfl (.cons rfl (.cons rfl (.cons rfl (.cons rfl (.cons rfl (.cons rfl (.cons rfl (.cons rfl (.cons rfl (.nil)))))))))))))))))))))))
      · exact .keep (.refl)
      intro k hC
      obtain ⟨hC1, hC2⟩ := hC
      refine T_seq ?_
      refine T_reg ?_
      refine T_val (Ev_lss rfl rfl) rfl ?_
      refine T_nil ?_
      refine T_next ?_
      refine T_seq ?_
      refine T_caseP (s := 26) rfl (fun h4 => ?_) (fun h4 => ?_)
      · refine T_condT rfl ?_
        refine T_skip ?_
        refine T_next ?_
        refine T_seq ?_
        refine T_block ?_
        refine T_seq ?_
        refine T_reg ?_
        obtain ⟨b5, o6, hA7, hp8⟩ := Has.elem hs (i := k) (by omega)
        refine T_val (Ev_index rfl rfl hA7 (j := k) (by omega) (by omega) slc24) rfl ?_
        refine T_val (Ev_loadPK0 rfl hp8 (SubE.cons2 (i := 1) rfl (SubE.nil)) rfl agg41) rfl ?_
        refine T_x (Wx_alloc zer41 rfl (fun g9 => ?_))
        refine T_h (Wh_store rfl rfl rfl (.here) (.put (.put (.put (.done)))) rfl (List.cons_ne_nil _ _) agg41.2 ?_)
        refine T_nil ?_
        refine T_next ?_
        refine T_seq ?_
        refine T_reg ?_
        refine T_val (Ev_loadK rfl (i := 0) rfl rfl agg41) rfl ?_
        refine T_x (Wx_call rfl (fun w _ => validCell_ok ((l)[k])  w) rfl ?_)
        rintro _ rfl
        refine T_val (Ev_not rfl) rfl ?_
        refine T_nil ?_
        refine T_next ?_
        refine T_caseNB (s := 31) rfl (fun h10 => ?_) (fun h10 => ?_)
        · refine T_condT rfl ?_
          refine T_seq ?_
          refine T_reg ?_
          refine T_val (Ev_assign rfl) rfl ?_
          refine T_nil ?_
          refine T_next ?_
          refine T_retc ?_
          refine T_inR ?_
          refine T_outR ?_
          refine T_outR ?_
          refine T_inR ?_
          refine T_outR ?_
          refine T_retL (rs := [.tmp 2]) Try.results50 (.tmp rfl (.nil)) (Ln := []) (⟨by simp only [resVal, validB]; first | (simp_all; done) | (rw [all_no (k := k) (by omega) (by assumption)]; simp; done) | (rw [all_yes (k := k) (by omega) hC2]; simp_all), rfl⟩) (loNil) (.drop (.drop (.refl)))
        · refine T_condF rfl ?_
          refine T_skip ?_
          refine T_inN ?_
          refine T_next ?_
          refine T_reg ?_
          refine T_val (Ev_addN (k) (1) rfl rfl (by simp only [top]; omega)) rfl ?_
          refine T_val (Ev_move rfl) rfl ?_
          refine T_nil ?_
          refine T_round (σ := Nat) (I := fun k => [(0, .agg #[.int .i64 (f.x0), .int .i64 (f.y0), .int .i64 (f.step), .int .i64 (f.nx), .int .i64 (f.ny), .slice (A) (n) (c)]), (1, .pointer (some ⟨g1, 0, none⟩)), (5, .pointer (some ⟨g1, 0, none⟩)), (6, .agg #[.int .i64 (f.x0), .int .i64 (f.y0), .int .i64 (f.step), .int .i64 (f.nx), .int .i64 (f.ny)]), (7, .bool (rasterB f)), (8, .bool (!(rasterB f))), (9, .bool (false)), (10, .pointer (some ⟨g1, 5, none⟩)), (11, .slice (A) (n) (c)), (12, .int .i64 (((n : Nat) : Int))), (13, .pointer (some ⟨g1, 0, none⟩)), (14, .pointer (some ⟨g1, 3, none⟩)), (15, .int .i64 (f.nx)), (16, .pointer (some ⟨g1, 0, none⟩)), (17, .pointer (some ⟨g1, 4, none⟩)), (18, .int .i64 (f.ny)), (19, .int .i64 ((f.nx) * (f.ny))), (20, .bool (!(decide ((((n : Nat) : Int)) = ((f.nx) * (f.ny)))))), (21, .bool (false)), (22, .pointer (some ⟨g1, 5, none⟩)), (23, .slice (A) (n) (c)), (24, .int .i64 (((n : Nat) : Int))), (25, .int .i64 (((k : Nat) : Int)))]) (H := fun k => [.m g1 26 [.int .i64 (f.x0), .int .i64 (f.y0), .int .i64 (f.step), .int .i64 (f.nx), .int .i64 (f.ny), .slice (A) (n) (c)]] ++ [.old w]) (C := fun k => k ≤ n ∧ ∀ (j : Nat) (hj : j < l.length), j < k → cellB l[j] = true) (μ := fun k => n - k) (s := k) (k + 1) ?_ ?_ ?_ ?_
          · exact ⟨by omega, fun j hj h => (by rcases Nat.lt_or_ge j k with hq | hq; exact hC2 j hj hq; have e : j = k := (by omega); subst e; assumption)⟩
          · exact (show n - (k + 1) < n - k by omega)
          · exact .cons rfl (.cons rfl (.cons rfl (.cons rfl (.cons rfl (.cons rfl (.cons rfl (.cons rfl (.cons rfl (.cons rfl (.cons rfl (.cons rfl (.cons rfl (.cons rfl (.cons rfl (.cons rfl (.cons rfl (.cons rfl (.cons rfl (.cons rfl (.cons rfl (.cons rfl (.cons rfl (.nil)))))))))))))))))))))))
          · exact .drop (.keep (.refl))
      · refine T_condF rfl ?_
        refine T_exit ?_
        refine T_outX ?_
        refine T_outX ?_
        refine T_here ?_
        refine T_next ?_
        refine T_seq ?_
        refine T_reg ?_
        refine T_val (Ev_assign rfl) rfl ?_
        refine T_nil ?_
        refine T_next ?_
        refine T_retc ?_
        refine T_retL (rs := [.tmp 2]) Try.results50 (.tmp rfl (.nil)) (Ln := []) (⟨by simp only [resVal, validB]; first | (simp_all; done) | (rw [all_no (k := k) (by omega) (by assumption)]; simp; done) | (rw [all_yes (k := k) (by omega) hC2]; simp_all), rfl⟩) (loNil) (.drop (.refl))
set_option maxRecDepth 100000 in
theorem state_ok (a b : Cell) (w : World) : Ct Try.prog 102 [.agg #[.bool a.void, .int .i64 a.lo, .int .i64 a.hi], .agg #[.bool b.void, .int .i64 b.lo, .int .i64 b.hi]] w fun v => v = .int .i64 (stateI a b) := by
  refine CtL.mk 28 Try.func102 rfl Try.ntmps102 (by kernel_rfl) rfl ?_
  show T 28 _ [(0, .agg #[.bool (a.void), .int .i64 (a.lo), .int .i64 (a.hi)]), (1, .agg #[.bool (b.void), .int .i64 (b.lo), .int .i64 (b.hi)])] _
  refine T_seq ?_
  refine T_reg ?_
  refine T_x (Wx_box rfl rfl rfl (fun g1 => ?_))
  refine T_x (Wx_box rfl rfl rfl (fun g2 => ?_))
  refine T_val (Ev_assign rfl) rfl ?_
  refine T_nil ?_
  refine T_next ?_
  refine T_seq ?_
  refine T_block ?_
  refine T_seq ?_
  refine T_reg ?_
  refine T_val (Ev_field rfl fld41_0 rfl) rfl ?_
  refine T_val (Ev_load1 rfl (i := 1) rfl rfl one4) rfl ?_
  refine T_val (Ev_move rfl) rfl ?_
  refine T_caseB (s := 8) rfl (fun h3 => ?_) (fun h3 => ?_)
  · refine T_skipG rfl rfl rfl rfl rfl ?_
    refine T_skipG rfl rfl rfl rfl rfl ?_
    refine T_val (Ev_pickT rfl rfl) rfl ?_
    refine T_val (Ev_assign rfl) rfl ?_
    refine T_nil ?_
    refine T_next ?_
    refine T_condT rfl ?_
    refine T_seq ?_
    refine T_reg ?_
    refine T_val (Ev_assign rfl) rfl ?_
    refine T_nil ?_
    refine T_next ?_
    refine T_retc ?_
    refine T_inR ?_
    refine T_outR ?_
    refine T_retL (rs := [.tmp 4]) Try.results102 (.tmp rfl (.nil)) (Ln := []) (⟨by simp only [resVal, stateI]; congr 1; grind, rfl⟩) (loNil) (.drop (.drop (.refl)))
  · refine T_valG rfl rfl rfl (Ev_field rfl fld41_0 rfl) rfl ?_
    refine T_valG rfl rfl rfl (Ev_load1 rfl (i := 0) rfl rfl one4) rfl ?_
    refine T_val (Ev_pickF rfl rfl) rfl ?_
    refine T_val (Ev_assign rfl) rfl ?_
    refine T_nil ?_
    refine T_next ?_
    refine T_caseB (s := 5) rfl (fun h4 => ?_) (fun h4 => ?_)
    · refine T_condT rfl ?_
      refine T_seq ?_
      refine T_reg ?_
      refine T_val (Ev_assign rfl) rfl ?_
      refine T_nil ?_
      refine T_next ?_
      refine T_retc ?_
      refine T_inR ?_
      refine T_outR ?_
      refine T_retL (rs := [.tmp 4]) Try.results102 (.tmp rfl (.nil)) (Ln := []) (⟨by simp only [resVal, stateI]; congr 1; grind, rfl⟩) (loNil) (.drop (.drop (.refl)))
    · refine T_condF rfl ?_
      refine T_seq ?_
      refine T_reg ?_
      refine T_val (Ev_field rfl fld41_1 rfl) rfl ?_
      refine T_val (Ev_field rfl fld39_0 rfl) rfl ?_
      refine T_val (Ev_load1 rfl (i := 0) rfl rfl one3) rfl ?_
      refine T_val (Ev_field rfl fld41_1 rfl) rfl ?_
      refine T_val (Ev_field rfl fld39_1 rfl) rfl ?_
      refine T_val (Ev_load1 rfl (i := 1) rfl rfl one3) rfl ?_
      refine T_val (Ev_gtr rfl rfl) rfl ?_
      refine T_val (Ev_assign rfl) rfl ?_
      refine T_nil ?_
      refine T_next ?_
      refine T_caseP (s := 12) rfl (fun h5 => ?_) (fun h5 => ?_)
      · refine T_condT rfl ?_
        refine T_seq ?_
        refine T_reg ?_
        refine T_val (Ev_assign rfl) rfl ?_
        refine T_nil ?_
        refine T_next ?_
        refine T_retc ?_
        refine T_inR ?_
        refine T_outR ?_
        refine T_retL (rs := [.tmp 4]) Try.results102 (.tmp rfl (.nil)) (Ln := []) (⟨by simp only [resVal, stateI]; congr 1; grind, rfl⟩) (loNil) (.drop (.drop (.refl)))
      · refine T_condF rfl ?_
        refine T_seq ?_
        refine T_reg ?_
        refine T_val (Ev_field rfl fld41_1 rfl) rfl ?_
        refine T_val (Ev_field rfl fld39_1 rfl) rfl ?_
        refine T_val (Ev_load1 rfl (i := 0) rfl rfl one3) rfl ?_
        refine T_val (Ev_field rfl fld41_1 rfl) rfl ?_
        refine T_val (Ev_field rfl fld39_0 rfl) rfl ?_
        refine T_val (Ev_load1 rfl (i := 1) rfl rfl one3) rfl ?_
        refine T_val (Ev_lss rfl rfl) rfl ?_
        refine T_val (Ev_assign rfl) rfl ?_
        refine T_nil ?_
        refine T_next ?_
        refine T_caseP (s := 20) rfl (fun h6 => ?_) (fun h6 => ?_)
        · refine T_condT rfl ?_
          refine T_seq ?_
          refine T_reg ?_
          refine T_val (Ev_assign rfl) rfl ?_
          refine T_nil ?_
          refine T_next ?_
          refine T_retc ?_
          refine T_inR ?_
          refine T_outR ?_
          refine T_retL (rs := [.tmp 4]) Try.results102 (.tmp rfl (.nil)) (Ln := []) (⟨by simp only [resVal, stateI]; congr 1; grind, rfl⟩) (loNil) (.drop (.drop (.refl)))
        · refine T_condF rfl ?_
          refine T_skip ?_
          refine T_inN ?_
          refine T_next ?_
          refine T_seq ?_
          refine T_reg ?_
          refine T_val (Ev_assign rfl) rfl ?_
          refine T_nil ?_
          refine T_next ?_
          refine T_retc ?_
          refine T_retL (rs := [.tmp 4]) Try.results102 (.tmp rfl (.nil)) (Ln := []) (⟨by simp only [resVal, stateI]; congr 1; grind, rfl⟩) (loNil) (.drop (.drop (.refl)))
set_option maxRecDepth 100000 in
theorem pair_ok (f g : Raster) {A n c B m d} {l r : List Cell} {K : List Ent} (ha : Has K A n c 3 eC l) (hb : Has K B m d 3 eC r) (w : World) (hK : ∀ e ∈ K, Ent.ok w e) : Ct Try.prog 57 [.agg #[.int .i64 f.x0, .int .i64 f.y0, .int .i64 f.step, .int .i64 f.nx, .int .i64 f.ny, .slice A n c], .agg #[.int .i64 g.x0, .int .i64 g.y0, .int .i64 g.step, .int .i64 g.nx, .int .i64 g.ny, .slice B m d]] w fun v => v = .int .i64 (pairE f l g r) := by
  have hs := (ha.sl hK).has
  have ht := (hb.sl hK).has
  have hn := ha.len
  have hm := hb.len
  have hsm := ha.small
  have hsm2 := hb.small
  refine CtL.mk 20 Try.func57 rfl Try.ntmps57 (by kernel_rfl) rfl ?_
  show T 20 _ [(0, .agg #[.int .i64 (f.x0), .int .i64 (f.y0), .int .i64 (f.step), .int .i64 (f.nx), .int .i64 (f.ny), .slice (A) (n) (c)]), (1, .agg #[.int .i64 (g.x0), .int .i64 (g.y0), .int .i64 (g.step), .int .i64 (g.nx), .int .i64 (g.ny), .slice (B) (m) (d)])] _
  refine T_seq ?_
  refine T_reg ?_
  refine T_x (Wx_box rfl rfl rfl (fun g1 => ?_))
  refine T_x (Wx_box rfl rfl rfl (fun g2 => ?_))
  refine T_val (Ev_assign rfl) rfl ?_
  refine T_nil ?_
  refine T_next ?_
  refine T_seq ?_
  refine T_block ?_
  refine T_seq ?_
  refine T_reg ?_
  refine T_val (Ev_loadK rfl (i := 1) rfl rfl agg26) rfl ?_
  refine T_x (Wx_call rfl (fun w1 hw1 => valid_ok f hs  w1 (okAll (K := [.old w]) (by exact (SubE.cons2 (i := 2) rfl (SubE.nil))) hw1)) rfl ?_)
  rintro _ rfl
  refine T_val (Ev_not rfl) rfl ?_
  refine T_val (Ev_move rfl) rfl ?_
  refine T_caseNB (s := 9) rfl (fun h3 => ?_) (fun h3 => ?_)
  · refine T_skipG rfl rfl rfl rfl rfl ?_
    refine T_skipG rfl rfl rfl rfl rfl ?_
    refine T_skipG rfl rfl rfl rfl rfl ?_
    refine T_val (Ev_pickT rfl rfl) rfl ?_
    refine T_val (Ev_assign rfl) rfl ?_
    refine T_nil ?_
    refine T_next ?_
    refine T_condT rfl ?_
    refine T_seq ?_
    refine T_reg ?_
    refine T_val (Ev_assign rfl) rfl ?_
    refine T_nil ?_
    refine T_next ?_
    refine T_retc ?_
    refine T_inR ?_
    refine T_outR ?_
    refine T_retL (rs := [.tmp 4]) Try.results57 (.tmp rfl (.nil)) (Ln := []) (⟨by simp only [resVal, pairE, rasEq] at *; congr 1; grind, rfl⟩) (loNil) (.drop (.drop (.refl)))
  · refine T_valG rfl rfl rfl (Ev_loadK rfl (i := 0) rfl rfl agg26) rfl ?_
    refine T_xG rfl rfl rfl (Wx_call rfl (fun w1 hw1 => valid_ok g ht  w1 (okAll (K := [.old w]) (by exact (SubE.cons2 (i := 2) rfl (SubE.nil))) hw1)) rfl ?_)
    rintro _ rfl
    refine T_valG rfl rfl rfl (Ev_not rfl) rfl ?_
    refine T_val (Ev_pickF rfl rfl) rfl ?_
    refine T_val (Ev_assign rfl) rfl ?_
    refine T_nil ?_
    refine T_next ?_
    refine T_caseNB (s := 5) rfl (fun h4 => ?_) (fun h4 => ?_)
    · refine T_condT rfl ?_
      refine T_seq ?_
      refine T_reg ?_
      refine T_val (Ev_assign rfl) rfl ?_
      refine T_nil ?_
      refine T_next ?_
      refine T_retc ?_
      refine T_inR ?_
      refine T_outR ?_
      refine T_retL (rs := [.tmp 4]) Try.results57 (.tmp rfl (.nil)) (Ln := []) (⟨by simp only [resVal, pairE, rasEq] at *; congr 1; grind, rfl⟩) (loNil) (.drop (.drop (.refl)))
    · refine T_condF rfl ?_
      refine T_seq ?_
      refine T_reg ?_
      refine T_val (Ev_field rfl fld26_0 rfl) rfl ?_
      refine T_val (Ev_loadK rfl (i := 1) rfl rfl agg23) rfl ?_
      refine T_val (Ev_field rfl fld26_0 rfl) rfl ?_
      refine T_val (Ev_loadK rfl (i := 0) rfl rfl agg23) rfl ?_
      refine T_val (Ev_neqS rfl rfl (by kernel_rfl) (seq23 _ _ _ _ _ _ _ _ _ _)) rfl ?_
      refine T_val (Ev_assign rfl) rfl ?_
      refine T_nil ?_
      refine T_next ?_
      refine T_caseNB (s := 14) rfl (fun h5 => ?_) (fun h5 => ?_)
      · refine T_condT rfl ?_
        refine T_seq ?_
        refine T_reg ?_
        refine T_val (Ev_assign rfl) rfl ?_
        refine T_nil ?_
        refine T_next ?_
        refine T_retc ?_
        refine T_inR ?_
        refine T_outR ?_
        refine T_retL (rs := [.tmp 4]) Try.results57 (.tmp rfl (.nil)) (Ln := []) (⟨by simp only [resVal, pairE, rasEq] at *; congr 1; grind, rfl⟩) (loNil) (.drop (.drop (.refl)))
      · refine T_condF rfl ?_
        refine T_skip ?_
        refine T_inN ?_
        refine T_next ?_
        refine T_seq ?_
        refine T_reg ?_
        refine T_val (Ev_assign rfl) rfl ?_
        refine T_nil ?_
        refine T_next ?_
        refine T_retc ?_
        refine T_retL (rs := [.tmp 4]) Try.results57 (.tmp rfl (.nil)) (Ln := []) (⟨by simp only [resVal, pairE, rasEq] at *; congr 1; grind, rfl⟩) (loNil) (.drop (.drop (.refl)))
theorem zip_take {α β γ : Type} (f : α → β → γ) {l : List α} {r : List β} {k : Nat} (h1 : k < l.length) (h2 : k < r.length) : (List.zipWith f l r).take k ++ [f l[k] r[k]] = (List.zipWith f l r).take (k + 1) := by
  have h : k < (List.zipWith f l r).length := by rw [List.length_zipWith]; omega
  rw [← List.take_append_getElem h, List.getElem_zipWith]
set_option maxRecDepth 100000 in
theorem states_ok (f g : Raster) {A n c B m d} {l r : List Cell} {K : List Ent} (ha : Has K A n c 3 eC l) (hb : Has K B m d 3 eC r) (h9 : n ≤ 1000000) (hnm : n ≤ m) (w : World) (hK : ∀ e ∈ K, Ent.ok w e) : Ct1 Try.prog 68 [.agg #[.int .i64 f.x0, .int .i64 f.y0, .int .i64 f.step, .int .i64 f.nx, .int .i64 f.ny, .slice A n c], .agg #[.int .i64 g.x0, .int .i64 g.y0, .int .i64 g.step, .int .i64 g.nx, .int .i64 g.ny, .slice B m d]] w fun v e => ∃ A' c', v = .slice A' n c' ∧ Has [e] A' n c' 1 eI (List.zipWith stateI l r) := by
  have hs := (ha.sl hK).has
  have ht := (hb.sl hK).has
  have hn := ha.len
  have hm := hb.len
  have hsm := ha.small
  have hsm2 := hb.small
  refine CtL.mk 33 Try.func68 rfl Try.ntmps68 (by kernel_rfl) rfl ?_
  show T 33 _ [(0, .agg #[.int .i64 (f.x0), .int .i64 (f.y0), .int .i64 (f.step), .int .i64 (f.nx), .int .i64 (f.ny), .slice (A) (n) (c)]), (1, .agg #[.int .i64 (g.x0), .int .i64 (g.y0), .int .i64 (g.step), .int .i64 (g.nx), .int .i64 (g.ny), .slice (B) (m) (d)])] _
  refine T_seq ?_
  refine T_reg ?_
  refine T_x (Wx_box rfl rfl rfl (fun g1 => ?_))
  refine T_x (Wx_box rfl rfl rfl (fun g2 => ?_))
  refine T_val (Ev_assign rfl) rfl ?_
  refine T_nil ?_
  refine T_next ?_
  refine T_seq ?_
  refine T_reg ?_
  refine T_val (Ev_field rfl fld26_1 rfl) rfl ?_
  refine T_val (Ev_load1 rfl (i := 1) rfl rfl one24) rfl ?_
  refine T_val (Ev_len rfl 41 Try.underlying24) rfl ?_
  refine T_x (Wx_make0 (z := .int .i64 (0)) rfl rfl (m := n) rfl rfl Try.underlying27 (show Try.prog.info? 3 = some Try.t3 from by kernel_rfl) (by kernel_rfl) rfl (by kernel_rfl) (by show 8 * _ ≤ _; omega) (by omega) rfl (fun A3 c4 => ?_))
  refine T_val (Ev_assign rfl) rfl ?_
  refine T_nil ?_
  refine T_next ?_
  refine T_seq ?_
  refine T_seq ?_
  refine T_reg ?_
  refine T_val (Ev_field rfl fld26_1 rfl) rfl ?_
  refine T_val (Ev_load1 rfl (i := 2) rfl rfl one24) rfl ?_
  refine T_val (Ev_len rfl 41 Try.underlying24) rfl ?_
  refine T_val (Ev_move rfl) rfl ?_
  refine T_nil ?_
  refine T_next ?_
  refine T_block ?_
  refine T_loop (σ := Option Addr × Nat × Nat) (fun (A', k, c') => [(0, .agg #[.int .i64 (f.x0), .int .i64 (f.y0), .int .i64 (f.step), .int .i64 (f.nx), .int .i64 (f.ny), .slice (A) (n) (c)]), (1, .agg #[.int .i64 (g.x0), .int .i64 (g.y0), .int .i64 (g.step), .int .i64 (g.nx), .int .i64 (g.ny), .slice (B) (m) (d)]), (2, .pointer (some ⟨g1, 0, none⟩)), (3, .pointer (some ⟨g2, 0, none⟩)), (4, .slice (none) (0) (0)), (5, .slice (A') (k) (c')), (7, .pointer (some ⟨g1, 5, none⟩)), (8, .slice (A) (n) (c)), (9, .int .i64 (((n : Nat) : Int))), (10, .slice (A3) (0) (c4)), (11, .pointer (some ⟨g1, 5, none⟩)), (12, .slice (A) (n) (c)), (13, .int .i64 (((n : Nat) : Int))), (14, .int .i64 (((k : Nat) : Int)))]) (fun (A', k, c') => [.r (A') (k) (c') 3 1 (((List.zipWith stateI l r).take k).flatMap eI), .m g2 26 [.int .i64 (g.x0), .int .i64 (g.y0), .int .i64 (g.step), .int .i64 (g.nx), .int .i64 (g.ny), .slice (B) (m) (d)], .m g1 26 [.int .i64 (f.x0), .int .i64 (f.y0), .int .i64 (f.step), .int .i64 (f.nx), .int .i64 (f.ny), .slice (A) (n) (c)]] ++ [.old w]) (fun (A', k, c') => k ≤ n) (fun (A', k, c') => n - k) ((A3, 0, c4)) ?_ ?_ ?_ ?_
  · exact Nat.zero_le _
  · exact .cons rfl (.cons rfl (.cons rfl (.cons rfl (.cons rfl (.cons rfl (.cons rfl (.cons rfl (.cons rfl (.cons rfl (.cons rfl (.cons rfl (.cons rfl (.cons rfl (.nil))))))))))))))
  · exact .keep (.keep (.keep (.refl)))
  intro ⟨A', k, c'⟩ hC
  replace hC : k ≤ n := hC
  show T 33 _ [(0, .agg #[.int .i64 (f.x0), .int .i64 (f.y0), .int .i64 (f.step), .int .i64 (f.nx), .int .i64 (f.ny), .slice (A) (n) (c)]), (1, .agg #[.int .i64 (g.x0), .int .i64 (g.y0), .int .i64 (g.step), .int .i64 (g.nx), .int .i64 (g.ny), .slice (B) (m) (d)]), (2, .pointer (some ⟨g1, 0, none⟩)), (3, .pointer (some ⟨g2, 0, none⟩)), (4, .slice (none) (0) (0)), (5, .slice (A') (k) (c')), (7, .pointer (some ⟨g1, 5, none⟩)), (8, .slice (A) (n) (c)), (9, .int .i64 (((n : Nat) : Int))), (10, .slice (A3) (0) (c4)), (11, .pointer (some ⟨g1, 5, none⟩)), (12, .slice (A) (n) (c)), (13, .int .i64 (((n : Nat) : Int))), (14, .int .i64 (((k : Nat) : Int)))] ([.r (A') (k) (c') 3 1 (((List.zipWith stateI l r).take k).flatMap eI), .m g2 26 [.int .i64 (g.x0), .int .i64 (g.y0), .int .i64 (g.step), .int .i64 (g.nx), .int .i64 (g.ny), .slice (B) (m) (d)], .m g1 26 [.int .i64 (f.x0), .int .i64 (f.y0), .int .i64 (f.step), .int .i64 (f.nx), .int .i64 (f.ny), .slice (A) (n) (c)]] ++ [.old w])
  refine T_seq ?_
  refine T_reg ?_
  refine T_val (Ev_lss rfl rfl) rfl ?_
  refine T_nil ?_
  refine T_next ?_
  refine T_seq ?_
  refine T_caseP (s := 15) rfl (fun h5 => ?_) (fun h5 => ?_)
  · refine T_condT rfl ?_
    refine T_skip ?_
    refine T_next ?_
    refine T_seq ?_
    refine T_block ?_
    refine T_seq ?_
    refine T_reg ?_
    refine T_val (Ev_move rfl) rfl ?_
    refine T_val (Ev_assign rfl) rfl ?_
    refine T_nil ?_
    refine T_next ?_
    refine T_draw [0, 0, 1, 0, 0, 1, 0, 1, 0, 0, 1, 2, 2, 3, 2] [[], [], [1], [], [1, 2, 3], [1, 2, 3, 4], [], [6], [], [6, 7, 8], [6, 7, 8, 9], [1, 2, 3, 4, 5, 6, 7, 8, 9, 10], [1, 2, 3, 4, 5, 6, 7, 8, 9, 10, 11], [0, 1, 2, 3, 4, 5, 6, 7, 8, 9, 10, 11, 12], [0, 1, 2, 3, 4, 5, 6, 7, 8, 9, 10, 11, 12, 13]] (.q 0 (.q 1 (.q 2 (.q 3 (.q 4 (.q 5 (.q 6 (.q 7 (.q 8 (.q 9 (.q 10 (.e 11 (.e 12 (.e 13 (.e 14 (.done) (.stop)) (.stop)) (.stop)) (.stop))))))))))))) mixed (by kernel_rfl) (by kernel_rfl) ?_
    refine P_p rfl rfl (Ev_move rfl) rfl ?_
    refine P_p rfl rfl (Ev_field rfl fld26_1 rfl) rfl ?_
    refine P_q rfl rfl (Ev_load1 rfl (i := 2) rfl rfl one24) rfl ?_
    refine P_p rfl rfl (Ev_move rfl) rfl ?_
    obtain ⟨b6, o7, hA8, hp9⟩ := Has.elem hs (i := k) (by omega)
    refine P_p rfl rfl (Ev_index rfl rfl hA8 (j := k) (by omega) (by omega) slc24) rfl ?_
    refine P_q rfl rfl (Ev_loadPK0 rfl hp9 (SubE.cons2 (i := 3) rfl (SubE.nil)) rfl agg41) rfl ?_
    refine P_p rfl rfl (Ev_field rfl fld26_1 rfl) rfl ?_
    refine P_q rfl rfl (Ev_load1 rfl (i := 1) rfl rfl one24) rfl ?_
    refine P_p rfl rfl (Ev_move rfl) rfl ?_
    obtain ⟨b10, o11, hA12, hp13⟩ := Has.elem ht (i := k) (by omega)
    refine P_p rfl rfl (Ev_index rfl rfl hA12 (j := k) (by omega) (by omega) slc24) rfl ?_
    refine P_q rfl rfl (Ev_loadPK0 rfl hp13 (SubE.cons2 (i := 3) rfl (SubE.nil)) rfl agg41) rfl ?_
    refine P_x rfl (Wx_call rfl (fun w _ => state_ok (((l)[k])) (((r)[k]))  w) rfl ?_) ?_
    rotate_left; exact P_stop
    rintro _ rfl
    refine P_x rfl (Wx_buildSlice rfl (bls27_1_0i64 _) rfl (fun g14 => ?_)) ?_
    rotate_left; exact P_stop
    refine P_h rfl rfl (Wh_append rfl rfl rfl elm27 (i' := 0) rfl rfl rfl (by omega) (by omega) rfl (fun _ _ => .there (.here)) (fun _ _ => .drop .refl) (fun A15 c16 => ?_)) ?_
    rotate_left; exact P_stop
    refine T_ent (.here) (e' := .r (A15) (k + 1) (c16) 3 1 (((List.zipWith stateI l r).take (k + 1)).flatMap eI)) (by rw [← zip_take stateI (show k < l.length by omega) (show k < r.length by omega)]; simp [List.flatMap_append, eI]) ?_
    refine P_x rfl (Wx_val (Ev_assign rfl) rfl ?_) ?_
    rotate_left; exact P_stop
    refine P_done ?_
    refine T_inN ?_
    refine T_next ?_
    refine T_reg ?_
    refine T_val (Ev_addN (k) (1) rfl rfl (by simp only [top]; omega)) rfl ?_
    refine T_val (Ev_move rfl) rfl ?_
    refine T_nil ?_
    refine T_round (σ := Option Addr × Nat × Nat) (I := fun (A', k, c') => [(0, .agg #[.int .i64 (f.x0), .int .i64 (f.y0), .int .i64 (f.step), .int .i64 (f.nx), .int .i64 (f.ny), .slice (A) (n) (c)]), (1, .agg #[.int .i64 (g.x0), .int .i64 (g.y0), .int .i64 (g.step), .int .i64 (g.nx), .int .i64 (g.ny), .slice (B) (m) (d)]), (2, .pointer (some ⟨g1, 0, none⟩)), (3, .pointer (some ⟨g2, 0, none⟩)), (4, .slice (none) (0) (0)), (5, .slice (A') (k) (c')), (7, .pointer (some ⟨g1, 5, none⟩)), (8, .slice (A) (n) (c)), (9, .int .i64 (((n : Nat) : Int))), (10, .slice (A3) (0) (c4)), (11, .pointer (some ⟨g1, 5, none⟩)), (12, .slice (A) (n) (c)), (13, .int .i64 (((n : Nat) : Int))), (14, .int .i64 (((k : Nat) : Int)))]) (H := fun (A', k, c') => [.r (A') (k) (c') 3 1 (((List.zipWith stateI l r).take k).flatMap eI), .m g2 26 [.int .i64 (g.x0), .int .i64 (g.y0), .int .i64 (g.step), .int .i64 (g.nx), .int .i64 (g.ny), .slice (B) (m) (d)], .m g1 26 [.int .i64 (f.x0), .int .i64 (f.y0), .int .i64 (f.step), .int .i64 (f.nx), .int .i64 (f.ny), .slice (A) (n) (c)]] ++ [.old w]) (C := fun (A', k, c') => k ≤ n) (μ := fun (A', k, c') => n - k) (s := (A', k, c')) ((A15, k + 1, c16)) ?_ ?_ ?_ ?_
    · exact (by omega)
    · exact (show n - (k + 1) < n - k by omega)
    · exact .cons rfl (.cons rfl (.cons rfl (.cons rfl (.cons rfl (.cons rfl (.cons rfl (.cons rfl (.cons rfl (.cons rfl (.cons rfl (.cons rfl (.cons rfl (.cons rfl (.nil))))))))))))))
    · exact .keep (.keep (.keep (.refl)))
  · refine T_condF rfl ?_
    refine T_exit ?_
    refine T_outX ?_
    refine T_outX ?_
    refine T_here ?_
    refine T_next ?_
    refine T_seq ?_
    refine T_reg ?_
    refine T_val (Ev_move rfl) rfl ?_
    refine T_val (Ev_assign rfl) rfl ?_
    refine T_nil ?_
    refine T_next ?_
    refine T_retc ?_
    refine T_rowH eI ((List.zipWith stateI l r).take k) (i := 0) rfl (by decide) (fun _ => rfl) (fun hn17 hs18 => ?_)
    refine T_retL (rs := [.tmp 4]) Try.results68 (.tmp rfl (.nil)) (Ln := [.r (A') (k) (c') 3 1 (((List.zipWith stateI l r).take k).flatMap eI)]) (⟨.r (A') (k) (c') 3 1 (((List.zipWith stateI l r).take k).flatMap eI), ⟨_, _, by simp only [resVal]; rw [show k = n by omega], by have hk : k = n := (by omega); subst hk; exact Eq.mp (congrArg (fun z => Has [.r (A') (k) (c') 3 1 (((List.zipWith stateI l r).take k).flatMap eI)] A' k c' 1 eI z) (List.take_of_length_le (by rw [List.length_zipWith]; omega))) hs18⟩, rfl⟩) (loCons rfl (loNil)) (.keep (.drop (.drop (.refl))))
end Go.Proofs.Ytjhknbpiaikblaa
