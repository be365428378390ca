/- Walks of the program: rasters. -/
import Derived.Test.YtjhknbpiaikblaaWref
import Derived.Test.YtjhknbpiaikblaaEq
namespace Go.Proofs.Ytjhknbpiaikblaa
open Go Go.RowKit
theorem zer51 : ZeroOf Try.prog 51 [.int .i64 (0), .int .i64 (0)] := ⟨_, Try.zeroValue51, rfl⟩
theorem fld23_0 : FieldOf Try.prog 23 0 0 := .mk Try.underlying23 rfl rfl (show Try.prog.info? 3 = some Try.t3 from by kernel_rfl) (show Try.t3.size = 1 from by kernel_rfl) rfl
theorem fld23_3 : FieldOf Try.prog 23 3 3 := .mk Try.underlying23 rfl rfl (show Try.prog.info? 3 = some Try.t3 from by kernel_rfl) (show Try.t3.size = 1 from by kernel_rfl) rfl
theorem fld23_1 : FieldOf Try.prog 23 1 1 := .mk Try.underlying23 rfl rfl (show Try.prog.info? 3 = some Try.t3 from by kernel_rfl) (show Try.t3.size = 1 from by kernel_rfl) rfl
theorem bld51_0i641i64 (x0 : Int) (x1 : Int) : BuildOf Try.prog 51 [(0, .int .i64 x0), (1, .int .i64 x1)] [.int .i64 x0, .int .i64 x1] := fun w => by kernel_rfl
theorem agg51 : AggOf Try.prog 51 2 := .mk Try.underlying51 rfl (show Try.prog.info? 51 = some Try.t51 from by kernel_rfl) (by kernel_rfl)
theorem fld51_0 : FieldOf Try.prog 51 0 0 := .mk Try.underlying51 rfl rfl (show Try.prog.info? 3 = some Try.t3 from by kernel_rfl) (show Try.t3.size = 1 from by kernel_rfl) rfl
theorem fld51_1 : FieldOf Try.prog 51 1 1 := .mk Try.underlying51 rfl rfl (show Try.prog.info? 3 = some Try.t3 from by kernel_rfl) (show Try.t3.size = 1 from by kernel_rfl) rfl
theorem fld23_4 : FieldOf Try.prog 23 4 4 := .mk Try.underlying23 rfl rfl (show Try.prog.info? 3 = some Try.t3 from by kernel_rfl) (show Try.t3.size = 1 from by kernel_rfl) rfl
theorem agg23 : AggOf Try.prog 23 5 := .mk Try.underlying23 rfl (show Try.prog.info? 23 = some Try.t23 from by kernel_rfl) (by kernel_rfl)
theorem bld51_  : BuildOf Try.prog 51 [] [.int .i64 (0), .int .i64 (0)] := fun w => by kernel_rfl
structure GoodR (f : Raster) : Prop where
  s1 : 1 ≤ f.step
  s2 : f.step ≤ 1000000
  n1 : 1 ≤ f.nx
  n2 : f.nx ≤ 64
  m1 : 1 ≤ f.ny
  m2 : f.ny ≤ 64
  x1 : -268435456 ≤ f.x0
  x2 : f.x0 ≤ 268435456
  y1 : -268435456 ≤ f.y0
  y2 : f.y0 ≤ 268435456
theorem last_mod {a b : Int} (h : 0 < a) : (a * b - 1) % a = a - 1 := by
  have e : a * b - 1 = (a - 1) + a * (b - 1) := by rw [Int.mul_sub]; omega
  rw [e, Int.add_mul_emod_self_left]
  exact Int.emod_eq_of_lt (by omega) (by omega)
theorem last_div {a b : Int} (h : 0 < a) : (a * b - 1) / a = b - 1 := by
  have e : a * b - 1 = (a - 1) + a * (b - 1) := by rw [Int.mul_sub]; omega
  rw [e, Int.add_mul_ediv_left _ _ (by omega), Int.ediv_eq_zero_of_lt (by omega) (by omega)]; omega
theorem GoodR.size {f : Raster} (h : GoodR f) : 1 ≤ f.nx * f.ny ∧ f.nx * f.ny ≤ 4096 := by
  have h1 := mul_bd (a := f.nx) (b := f.ny) (by have := h.n1; omega) h.n2 (by have := h.m1; omega) h.m2
  have h2 := Int.mul_pos (show 0 < f.nx by have := h.n1; omega) (show 0 < f.ny by have := h.m1; omega)
  omega
theorem GoodR.col {f : Raster} (h : GoodR f) (i : Int) : 0 ≤ i % f.nx ∧ i % f.nx ≤ 63 ∧ 0 ≤ i % f.nx * f.step ∧ i % f.nx * f.step ≤ 63 * 1000000 := by
  have h1 := Int.emod_nonneg i (show f.nx ≠ 0 by have := h.n1; omega)
  have h2 := Int.emod_lt_of_pos i (show 0 < f.nx by have := h.n1; omega)
  have h3 : i % f.nx ≤ 63 := by have := h.n2; omega
  have h4 := mul_bd h1 h3 (by have := h.s1; omega) h.s2
  exact ⟨h1, h3, h4.1, h4.2⟩
theorem GoodR.row {f : Raster} (h : GoodR f) (i : Int) (h0 : 0 ≤ i) (h9 : i ≤ 4096) : 0 ≤ i / f.nx ∧ i / f.nx ≤ 4096 ∧ 0 ≤ i / f.nx * f.step ∧ i / f.nx * f.step ≤ 4096 * 1000000 := by
  have h1 : 0 ≤ i / f.nx := Int.ediv_nonneg h0 (by have := h.n1; omega)
  have h2 : i / f.nx ≤ 4096 := Int.le_trans (Int.ediv_le_self _ h0) h9
  have h4 := mul_bd h1 h2 (by have := h.s1; omega) h.s2
  exact ⟨h1, h2, h4.1, h4.2⟩
set_option maxRecDepth 100000 in
theorem node_ok (f : Raster) (i : Int) (hg : GoodR f) (h0 : 0 ≤ i) (h9 : i ≤ 4096) (w : World) : Ct Try.prog 63 [.agg #[.int .i64 f.x0, .int .i64 f.y0, .int .i64 f.step, .int .i64 f.nx, .int .i64 f.ny], .int .i64 i] w fun v => v = .agg #[.int .i64 (f.x0 + i % f.nx * f.step), .int .i64 (f.y0 + i / f.nx * f.step)] := by
  have hs1 := hg.s1
  have hs2 := hg.s2
  have hn1 := hg.n1
  have hn2 := hg.n2
  have hm1 := hg.m1
  have hm2 := hg.m2
  have hx1 := hg.x1
  have hx2 := hg.x2
  have hy1 := hg.y1
  have hy2 := hg.y2
  have hsz := hg.size
  have hc := hg.col i
  have hr := hg.row i h0 h9
  refine CtL.mk 26 Try.func63 rfl Try.ntmps63 (by kernel_rfl) rfl ?_
  show T 26 _ [(0, .agg #[.int .i64 (f.x0), .int .i64 (f.y0), .int .i64 (f.step), .int .i64 (f.nx), .int .i64 (f.ny)]), (1, .int .i64 (i))] _
  refine T_seq ?_
  refine T_reg ?_
  refine T_x (Wx_box rfl rfl rfl (fun g1 => ?_))
  refine T_x (Wx_alloc zer51 rfl (fun g2 => ?_))
  refine T_nil ?_
  refine T_next ?_
  refine T_seq ?_
  refine T_draw [0, 1, 0, 0, 1, 0, 0, 1, 0, 0, 0, 1, 0, 0, 1, 0, 0, 1, 0, 0, 0, 3] [[], [0], [], [], [3], [2, 3, 4], [], [6], [2, 3, 4, 5, 6, 7], [0, 1, 2, 3, 4, 5, 6, 7, 8], [], [10], [], [], [13], [12, 13, 14], [], [16], [12, 13, 14, 15, 16, 17], [10, 11, 12, 13, 14, 15, 16, 17, 18], [0, 1, 2, 3, 4, 5, 6, 7, 8, 9, 10, 11, 12, 13, 14, 15, 16, 17, 18, 19], [0, 1, 2, 3, 4, 5, 6, 7, 8, 9, 10, 11, 12, 13, 14, 15, 16, 17, 18, 19, 20]] (.q 0 (.q 1 (.q 2 (.q 3 (.q 4 (.q 5 (.q 6 (.q 7 (.q 8 (.q 9 (.q 10 (.q 11 (.q 12 (.q 13 (.q 14 (.q 15 (.q 16 (.q 17 (.q 18 (.q 19 (.q 20 (.e 21 (.done) (.stop))))))))))))))))))))))) mixed (by kernel_rfl) (by kernel_rfl) ?_
  refine P_p rfl rfl (Ev_field rfl fld23_0 rfl) rfl ?_
  refine P_q rfl rfl (Ev_load1 rfl (i := 1) rfl rfl one3) rfl ?_
  refine P_p rfl rfl (Ev_move rfl) rfl ?_
  refine P_p rfl rfl (Ev_field rfl fld23_3 rfl) rfl ?_
  refine P_q rfl rfl (Ev_load1 rfl (i := 1) rfl rfl one3) rfl ?_
  refine P_p rfl rfl (Ev_remP rfl rfl (by omega) (by omega)) rfl ?_
  refine P_p rfl rfl (Ev_field rfl fld23_2 rfl) rfl ?_
  refine P_q rfl rfl (Ev_load1 rfl (i := 1) rfl rfl one3) rfl ?_
  refine P_p rfl rfl (Ev_mul rfl rfl (by omega) (by omega)) rfl ?_
  refine P_p rfl rfl (Ev_add rfl rfl (by omega) (by omega)) rfl ?_
  refine P_p rfl rfl (Ev_field rfl fld23_1 rfl) rfl ?_
  refine P_q rfl rfl (Ev_load1 rfl (i := 1) rfl rfl one3) rfl ?_
  refine P_p rfl rfl (Ev_move rfl) rfl ?_
  refine P_p rfl rfl (Ev_field rfl fld23_3 rfl) rfl ?_
  refine P_q rfl rfl (Ev_load1 rfl (i := 1) rfl rfl one3) rfl ?_
  refine P_p rfl rfl (Ev_quoP rfl rfl (by omega) (by omega) (by omega)) rfl ?_
  refine P_p rfl rfl (Ev_field rfl fld23_2 rfl) rfl ?_
  refine P_q rfl rfl (Ev_load1 rfl (i := 1) rfl rfl one3) rfl ?_
  refine P_p rfl rfl (Ev_mul rfl rfl (by omega) (by omega)) rfl ?_
  refine P_p rfl rfl (Ev_add rfl rfl (by omega) (by omega)) rfl ?_
  refine P_p rfl rfl (Ev_build rfl (bld51_0i641i64 _ _)) rfl ?_
  refine P_h rfl rfl (Wh_store rfl rfl rfl (.here) (.put (.put (.done))) rfl (List.cons_ne_nil _ _) agg51.2 ?_) ?_
  rotate_left; exact P_stop
  refine P_done ?_
  refine T_next ?_
  refine T_retc ?_
  refine T_retL (rs := [.cell 4 51]) Try.results63 (.cell rfl (i := 0) rfl rfl agg51 (.nil)) (Ln := []) (⟨by first | rfl | simp [resVal], rfl⟩) (loNil) (.drop (.drop (.refl)))
set_option maxRecDepth 100000 in
theorem place_ok (f : Raster) (i : Int) (hg : GoodR f) (h0 : 0 ≤ i) (h9 : i ≤ 4096) (w : World) : Ct Try.prog 64 [.agg #[.int .i64 f.x0, .int .i64 f.y0, .int .i64 f.step, .int .i64 f.nx, .int .i64 f.ny], .int .i64 i] w fun v => v = .agg #[.int .i64 (f.x0 + i % f.nx * f.step), .int .i64 (f.y0 + i / f.nx * f.step)] := by
  have hs1 := hg.s1
  have hs2 := hg.s2
  have hn1 := hg.n1
  have hn2 := hg.n2
  have hm1 := hg.m1
  have hm2 := hg.m2
  have hx1 := hg.x1
  have hx2 := hg.x2
  have hy1 := hg.y1
  have hy2 := hg.y2
  have hsz := hg.size
  have hc := hg.col i
  have hr := hg.row i h0 h9
  refine CtL.mk 26 Try.func64 rfl Try.ntmps64 (by kernel_rfl) rfl ?_
  show T 26 _ [(0, .agg #[.int .i64 (f.x0), .int .i64 (f.y0), .int .i64 (f.step), .int .i64 (f.nx), .int .i64 (f.ny)]), (1, .int .i64 (i))] _
  refine T_seq ?_
  refine T_reg ?_
  refine T_x (Wx_box rfl rfl rfl (fun g1 => ?_))
  refine T_x (Wx_alloc zer51 rfl (fun g2 => ?_))
  refine T_nil ?_
  refine T_next ?_
  refine T_seq ?_
  refine T_draw [0, 1, 0, 0, 1, 0, 0, 1, 0, 0, 0, 1, 0, 0, 1, 0, 0, 1, 0, 0, 0, 3] [[], [0], [], [], [3], [2, 3, 4], [], [6], [2, 3, 4, 5, 6, 7], [0, 1, 2, 3, 4, 5, 6, 7, 8], [], [10], [], [], [13], [12, 13, 14], [], [16], [12, 13, 14, 15, 16, 17], [10, 11, 12, 13, 14, 15, 16, 17, 18], [0, 1, 2, 3, 4, 5, 6, 7, 8, 9, 10, 11, 12, 13, 14, 15, 16, 17, 18, 19], [0, 1, 2, 3, 4, 5, 6, 7, 8, 9, 10, 11, 12, 13, 14, 15, 16, 17, 18, 19, 20]] (.q 0 (.q 1 (.q 2 (.q 3 (.q 4 (.q 5 (.q 6 (.q 7 (.q 8 (.q 9 (.q 10 (.q 11 (.q 12 (.q 13 (.q 14 (.q 15 (.q 16 (.q 17 (.q 18 (.q 19 (.q 20 (.e 21 (.done) (.stop))))))))))))))))))))))) mixed (by kernel_rfl) (by kernel_rfl) ?_
  refine P_p rfl rfl (Ev_field rfl fld23_0 rfl) rfl ?_
  refine P_q rfl rfl (Ev_load1 rfl (i := 1) rfl rfl one3) rfl ?_
  refine P_p rfl rfl (Ev_move rfl) rfl ?_
  refine P_p rfl rfl (Ev_field rfl fld23_3 rfl) rfl ?_
  refine P_q rfl rfl (Ev_load1 rfl (i := 1) rfl rfl one3) rfl ?_
  refine P_p rfl rfl (Ev_remP rfl rfl (by omega) (by omega)) rfl ?_
  refine P_p rfl rfl (Ev_field rfl fld23_2 rfl) rfl ?_
  refine P_q rfl rfl (Ev_load1 rfl (i := 1) rfl rfl one3) rfl ?_
  refine P_p rfl rfl (Ev_mul rfl rfl (by omega) (by omega)) rfl ?_
  refine P_p rfl rfl (Ev_add rfl rfl (by omega) (by omega)) rfl ?_
  refine P_p rfl rfl (Ev_field rfl fld23_1 rfl) rfl ?_
  refine P_q rfl rfl (Ev_load1 rfl (i := 1) rfl rfl one3) rfl ?_
  refine P_p rfl rfl (Ev_move rfl) rfl ?_
  refine P_p rfl rfl (Ev_field rfl fld23_3 rfl) rfl ?_
  refine P_q rfl rfl (Ev_load1 rfl (i := 1) rfl rfl one3) rfl ?_
  refine P_p rfl rfl (Ev_quoP rfl rfl (by omega) (by omega) (by omega)) rfl ?_
  refine P_p rfl rfl (Ev_field rfl fld23_2 rfl) rfl ?_
  refine P_q rfl rfl (Ev_load1 rfl (i := 1) rfl rfl one3) rfl ?_
  refine P_p rfl rfl (Ev_mul rfl rfl (by omega) (by omega)) rfl ?_
  refine P_p rfl rfl (Ev_add rfl rfl (by omega) (by omega)) rfl ?_
  refine P_p rfl rfl (Ev_build rfl (bld51_0i641i64 _ _)) rfl ?_
  refine P_h rfl rfl (Wh_store rfl rfl rfl (.here) (.put (.put (.done))) rfl (List.cons_ne_nil _ _) agg51.2 ?_) ?_
  rotate_left; exact P_stop
  refine P_done ?_
  refine T_next ?_
  refine T_retc ?_
  refine T_retL (rs := [.cell 4 51]) Try.results64 (.cell rfl (i := 0) rfl rfl agg51 (.nil)) (Ln := []) (⟨by first | rfl | simp [resVal], rfl⟩) (loNil) (.drop (.drop (.refl)))
set_option maxRecDepth 100000 in
theorem rplace_ok (x y : Int) (w : World) : Ct Try.prog 66 [.agg #[.int .i64 x, .int .i64 y]] w fun v => v = .bool (coordB x && coordB y) := by
  refine CtL.mk 21 Try.func66 rfl Try.ntmps66 (by kernel_rfl) rfl ?_
  show T 21 _ [(0, .agg #[.int .i64 (x), .int .i64 (y)])] _
  refine T_seq ?_
  refine T_reg ?_
  refine T_x (Wx_box rfl rfl rfl (fun g1 => ?_))
  refine T_val (Ev_assign rfl) rfl ?_
  refine T_nil ?_
  refine T_next ?_
  refine T_seq ?_
  refine T_reg ?_
  refine T_val (Ev_field rfl fld51_0 rfl) rfl ?_
  refine T_val (Ev_load1 rfl (i := 0) rfl rfl one3) rfl ?_
  refine T_val (Ev_leq rfl rfl) rfl ?_
  refine T_val (Ev_move rfl) rfl ?_
  refine T_caseP (s := 6) rfl (fun h2 => ?_) (fun h2 => ?_)
  · refine T_valG rfl rfl rfl (Ev_field rfl fld51_0 rfl) rfl ?_
    refine T_valG rfl rfl rfl (Ev_load1 rfl (i := 0) rfl rfl one3) rfl ?_
    refine T_valG rfl rfl rfl (Ev_leq rfl rfl) rfl ?_
    refine T_val (Ev_pickT rfl rfl) rfl ?_
    refine T_val (Ev_move rfl) rfl ?_
    refine T_caseP (s := 11) rfl (fun h3 => ?_) (fun h3 => ?_)
    · refine T_valG rfl rfl rfl (Ev_field rfl fld51_1 rfl) rfl ?_
      refine T_valG rfl rfl rfl (Ev_load1 rfl (i := 0) rfl rfl one3) rfl ?_
      refine T_valG rfl rfl rfl (Ev_leq rfl rfl) rfl ?_
      refine T_val (Ev_pickT rfl rfl) rfl ?_
      refine T_val (Ev_move rfl) rfl ?_
      refine T_caseP (s := 16) rfl (fun h4 => ?_) (fun h4 => ?_)
      · refine T_valG rfl rfl rfl (Ev_field rfl fld51_1 rfl) rfl ?_
        refine T_valG rfl rfl rfl (Ev_load1 rfl (i := 0) rfl rfl one3) rfl ?_
        refine T_valG rfl rfl rfl (Ev_leq rfl rfl) rfl ?_
        refine T_val (Ev_pickT rfl rfl) rfl ?_
        refine T_val (Ev_assign rfl) rfl ?_
        refine T_nil ?_
        refine T_next ?_
        refine T_retc ?_
        refine T_retL (rs := [.tmp 2]) Try.results66 (.tmp rfl (.nil)) (Ln := []) (⟨by first | (simp_all [resVal, coordB]; done) | (simp_all [resVal, coordB]; omega), rfl⟩) (loNil) (.drop (.refl))
      · refine T_skipG rfl rfl rfl rfl rfl ?_
        refine T_skipG rfl rfl rfl rfl rfl ?_
        refine T_skipG rfl rfl rfl rfl rfl ?_
        refine T_val (Ev_pickF rfl rfl) rfl ?_
        refine T_val (Ev_assign rfl) rfl ?_
        refine T_nil ?_
        refine T_next ?_
        refine T_retc ?_
        refine T_retL (rs := [.tmp 2]) Try.results66 (.tmp rfl (.nil)) (Ln := []) (⟨by first | (simp_all [resVal, coordB]; done) | (simp_all [resVal, coordB]; omega), rfl⟩) (loNil) (.drop (.refl))
    · refine T_skipG rfl rfl rfl rfl rfl ?_
      refine T_skipG rfl rfl rfl rfl rfl ?_
      refine T_skipG rfl rfl rfl rfl rfl ?_
      refine T_val (Ev_pickF rfl rfl) rfl ?_
      refine T_val (Ev_move rfl) rfl ?_
      refine T_skipG rfl rfl rfl rfl rfl ?_
      refine T_skipG rfl rfl rfl rfl rfl ?_
      refine T_skipG rfl rfl rfl rfl rfl ?_
      refine T_val (Ev_pickF rfl rfl) rfl ?_
      refine T_val (Ev_assign rfl) rfl ?_
      refine T_nil ?_
      refine T_next ?_
      refine T_retc ?_
      refine T_retL (rs := [.tmp 2]) Try.results66 (.tmp rfl (.nil)) (Ln := []) (⟨by first | (simp_all [resVal, coordB]; done) | (simp_all [resVal, coordB]; omega), rfl⟩) (loNil) (.drop (.refl))
  · refine T_skipG rfl rfl rfl rfl rfl ?_
    refine T_skipG rfl rfl rfl rfl rfl ?_
    refine T_skipG rfl rfl rfl rfl rfl ?_
    refine T_val (Ev_pickF rfl rfl) rfl ?_
    refine T_val (Ev_move rfl) rfl ?_
    refine T_skipG rfl rfl rfl rfl rfl ?_
    refine T_skipG rfl rfl rfl rfl rfl ?_
    refine T_skipG rfl rfl rfl rfl rfl ?_
    refine T_val (Ev_pickF rfl rfl) rfl ?_
    refine T_val (Ev_move rfl) rfl ?_
    refine T_skipG rfl rfl rfl rfl rfl ?_
    refine T_skipG rfl rfl rfl rfl rfl ?_
    refine T_skipG rfl rfl rfl rfl rfl ?_
    refine T_val (Ev_pickF rfl rfl) rfl ?_
    refine T_val (Ev_assign rfl) rfl ?_
    refine T_nil ?_
    refine T_next ?_
    refine T_retc ?_
    refine T_retL (rs := [.tmp 2]) Try.results66 (.tmp rfl (.nil)) (Ln := []) (⟨by first | (simp_all [resVal, coordB]; done) | (simp_all [resVal, coordB]; omega), rfl⟩) (loNil) (.drop (.refl))
set_option maxRecDepth 100000 in
theorem validRaster_ok (f : Raster) (w : World) : Ct Try.prog 25 [.agg #[.int .i64 f.x0, .int .i64 f.y0, .int .i64 f.step, .int .i64 f.nx, .int .i64 f.ny]] w fun v => v = .bool (rasterB f) := by
  refine CtL.mk 48 Try.func25 rfl Try.ntmps25 (by kernel_rfl) rfl ?_
  show T 48 _ [(0, .agg #[.int .i64 (f.x0), .int .i64 (f.y0), .int .i64 (f.step), .int .i64 (f.nx), .int .i64 (f.ny)])] _
  refine T_seq ?_
  refine T_reg ?_
  refine T_x (Wx_box rfl rfl rfl (fun g1 => ?_))
  refine T_val (Ev_assign rfl) rfl ?_
  refine T_nil ?_
  refine T_next ?_
  refine T_seq ?_
  refine T_seq ?_
  refine T_reg ?_
  refine T_val (Ev_field rfl fld23_2 rfl) rfl ?_
  refine T_val (Ev_load1 rfl (i := 0) rfl rfl one3) rfl ?_
  refine T_x (Wx_call rfl (fun w hw => within_ok _ _ _ w) rfl ?_)
  rintro _ rfl
  refine T_val (Ev_not rfl) rfl ?_
  refine T_val (Ev_move rfl) rfl ?_
  refine T_caseNB (s := 8) rfl (fun h2 => ?_) (fun h2 => ?_)
  · refine T_skipG rfl rfl rfl rfl rfl ?_
    refine T_skipG rfl rfl rfl rfl rfl ?_
    refine T_skipG rfl rfl rfl rfl rfl ?_
    refine T_skipG rfl rfl rfl rfl rfl ?_
    refine T_val (Ev_pickT rfl rfl) rfl ?_
    refine T_val (Ev_move rfl) rfl ?_
    refine T_skipG rfl rfl rfl rfl rfl ?_
    refine T_skipG rfl rfl rfl rfl rfl ?_
    refine T_skipG rfl rfl rfl rfl rfl ?_
    refine T_skipG rfl rfl rfl rfl rfl ?_
    refine T_val (Ev_pickT rfl rfl) rfl ?_
    refine T_val (Ev_move rfl) rfl ?_
    refine T_skipG rfl rfl rfl rfl rfl ?_
    refine T_skipG rfl rfl rfl rfl rfl ?_
    refine T_skipG rfl rfl rfl rfl rfl ?_
    refine T_skipG rfl rfl rfl rfl rfl ?_
    refine T_val (Ev_pickT rfl rfl) rfl ?_
    refine T_val (Ev_move rfl) rfl ?_
    refine T_skipG rfl rfl rfl rfl rfl ?_
    refine T_skipG rfl rfl rfl rfl rfl ?_
    refine T_skipG rfl rfl rfl rfl rfl ?_
    refine T_skipG rfl rfl rfl rfl rfl ?_
    refine T_val (Ev_pickT rfl rfl) rfl ?_
    refine T_nil ?_
    refine T_next ?_
    refine T_condT rfl ?_
    refine T_seq ?_
    refine T_reg ?_
    refine T_val (Ev_assign rfl) rfl ?_
    refine T_nil ?_
    refine T_next ?_
    refine T_retc ?_
    refine T_outR ?_
    refine T_retL (rs := [.tmp 2]) Try.results25 (.tmp rfl (.nil)) (Ln := []) (⟨by simp_all [resVal, rasterB], rfl⟩) (loNil) (.drop (.refl))
  · refine T_valG rfl rfl rfl (Ev_field rfl fld23_3 rfl) rfl ?_
    refine T_valG rfl rfl rfl (Ev_load1 rfl (i := 0) rfl rfl one3) rfl ?_
    refine T_xG rfl rfl rfl (Wx_call rfl (fun w hw => within_ok _ _ _ w) rfl ?_)
    rintro _ rfl
    refine T_valG rfl rfl rfl (Ev_not rfl) rfl ?_
    refine T_val (Ev_pickF rfl rfl) rfl ?_
    refine T_val (Ev_move rfl) rfl ?_
    refine T_caseNB (s := 14) rfl (fun h3 => ?_) (fun h3 => ?_)
    · refine T_skipG rfl rfl rfl rfl rfl ?_
      refine T_skipG rfl rfl rfl rfl rfl ?_
      refine T_skipG rfl rfl rfl rfl rfl ?_
      refine T_skipG rfl rfl rfl rfl rfl ?_
      refine T_val (Ev_pickT rfl rfl) rfl ?_
      refine T_val (Ev_move rfl) rfl ?_
      refine T_skipG rfl rfl rfl rfl rfl ?_
      refine T_skipG rfl rfl rfl rfl rfl ?_
      refine T_skipG rfl rfl rfl rfl rfl ?_
      refine T_skipG rfl rfl rfl rfl rfl ?_
      refine T_val (Ev_pickT rfl rfl) rfl ?_
      refine T_val (Ev_move rfl) rfl ?_
      refine T_skipG rfl rfl rfl rfl rfl ?_
      refine T_skipG rfl rfl rfl rfl rfl ?_
      refine T_skipG rfl rfl rfl rfl rfl ?_
      refine T_skipG rfl rfl rfl rfl rfl ?_
      refine T_val (Ev_pickT rfl rfl) rfl ?_
      refine T_nil ?_
      refine T_next ?_
      refine T_condT rfl ?_
      refine T_seq ?_
      refine T_reg ?_
      refine T_val (Ev_assign rfl) rfl ?_
      refine T_nil ?_
      refine T_next ?_
      refine T_retc ?_
      refine T_outR ?_
      refine T_retL (rs := [.tmp 2]) Try.results25 (.tmp rfl (.nil)) (Ln := []) (⟨by simp_all [resVal, rasterB], rfl⟩) (loNil) (.drop (.refl))
    · refine T_valG rfl rfl rfl (Ev_field rfl fld23_4 rfl) rfl ?_
      refine T_valG rfl rfl rfl (Ev_load1 rfl (i := 0) rfl rfl one3) rfl ?_
      refine T_xG rfl rfl rfl (Wx_call rfl (fun w hw => within_ok _ _ _ w) rfl ?_)
      rintro _ rfl
      refine T_valG rfl rfl rfl (Ev_not rfl) rfl ?_
      refine T_val (Ev_pickF rfl rfl) rfl ?_
      refine T_val (Ev_move rfl) rfl ?_
      refine T_caseNB (s := 20) rfl (fun h4 => ?_) (fun h4 => ?_)
      · refine T_skipG rfl rfl rfl rfl rfl ?_
        refine T_skipG rfl rfl rfl rfl rfl ?_
        refine T_skipG rfl rfl rfl rfl rfl ?_
        refine T_skipG rfl rfl rfl rfl rfl ?_
        refine T_val (Ev_pickT rfl rfl) rfl ?_
        refine T_val (Ev_move rfl) rfl ?_
        refine T_skipG rfl rfl rfl rfl rfl ?_
        refine T_skipG rfl rfl rfl rfl rfl ?_
        refine T_skipG rfl rfl rfl rfl rfl ?_
        refine T_skipG rfl rfl rfl rfl rfl ?_
        refine T_val (Ev_pickT rfl rfl) rfl ?_
        refine T_nil ?_
        refine T_next ?_
        refine T_condT rfl ?_
        refine T_seq ?_
        refine T_reg ?_
        refine T_val (Ev_assign rfl) rfl ?_
        refine T_nil ?_
        refine T_next ?_
        refine T_retc ?_
        refine T_outR ?_
        refine T_retL (rs := [.tmp 2]) Try.results25 (.tmp rfl (.nil)) (Ln := []) (⟨by simp_all [resVal, rasterB], rfl⟩) (loNil) (.drop (.refl))
      · refine T_valG rfl rfl rfl (Ev_field rfl fld23_0 rfl) rfl ?_
        refine T_valG rfl rfl rfl (Ev_load1 rfl (i := 0) rfl rfl one3) rfl ?_
        refine T_xG rfl rfl rfl (Wx_call rfl (fun w hw => validCoord_ok _ w) rfl ?_)
        rintro _ rfl
        refine T_valG rfl rfl rfl (Ev_not rfl) rfl ?_
        refine T_val (Ev_pickF rfl rfl) rfl ?_
        refine T_val (Ev_move rfl) rfl ?_
        refine T_caseNB (s := 26) rfl (fun h5 => ?_) (fun h5 => ?_)
        · refine T_skipG rfl rfl rfl rfl rfl ?_
          refine T_skipG rfl rfl rfl rfl rfl ?_
          refine T_skipG rfl rfl rfl rfl rfl ?_
          refine T_skipG rfl rfl rfl rfl rfl ?_
          refine T_val (Ev_pickT rfl rfl) rfl ?_
          refine T_nil ?_
          refine T_next ?_
          refine T_condT rfl ?_
          refine T_seq ?_
          refine T_reg ?_
          refine T_val (Ev_assign rfl) rfl ?_
          refine T_nil ?_
          refine T_next ?_
          refine T_retc ?_
          refine T_outR ?_
          refine T_retL (rs := [.tmp 2]) Try.results25 (.tmp rfl (.nil)) (Ln := []) (⟨by simp_all [resVal, rasterB], rfl⟩) (loNil) (.drop (.refl))
        · refine T_valG rfl rfl rfl (Ev_field rfl fld23_1 rfl) rfl ?_
          refine T_valG rfl rfl rfl (Ev_load1 rfl (i := 0) rfl rfl one3) rfl ?_
          refine T_xG rfl rfl rfl (Wx_call rfl (fun w hw => validCoord_ok _ w) rfl ?_)
          rintro _ rfl
          refine T_valG rfl rfl rfl (Ev_not rfl) rfl ?_
          refine T_val (Ev_pickF rfl rfl) rfl ?_
          refine T_nil ?_
          refine T_next ?_
          refine T_caseNB (s := 31) rfl (fun h6 => ?_) (fun h6 => ?_)
          · refine T_condT rfl ?_
            refine T_seq ?_
            refine T_reg ?_
            refine T_val (Ev_assign rfl) rfl ?_
            refine T_nil ?_
            refine T_next ?_
            refine T_retc ?_
            refine T_outR ?_
            refine T_retL (rs := [.tmp 2]) Try.results25 (.tmp rfl (.nil)) (Ln := []) (⟨by simp_all [resVal, rasterB], rfl⟩) (loNil) (.drop (.refl))
          · refine T_condF rfl ?_
            refine T_skip ?_
            refine T_next ?_
            refine T_seq ?_
            refine T_reg ?_
            refine T_val (Ev_loadK rfl (i := 0) rfl rfl agg23) rfl ?_
            refine T_val (Ev_field rfl fld23_3 rfl) rfl ?_
            refine T_val (Ev_load1 rfl (i := 0) rfl rfl one3) rfl ?_
            refine T_val (Ev_field rfl fld23_4 rfl) rfl ?_
            refine T_val (Ev_load1 rfl (i := 0) rfl rfl one3) rfl ?_
            have hg : GoodR f := by simp only [withinB, coordB, Bool.and_eq_true, decide_eq_true_eq] at *; constructor <;> omega
            have hs1 := hg.s1
            have hs2 := hg.s2
            have hn1 := hg.n1
            have hn2 := hg.n2
            have hm1 := hg.m1
            have hm2 := hg.m2
            have hx1 := hg.x1
            have hx2 := hg.x2
            have hy1 := hg.y1
            have hy2 := hg.y2
            have hsz := hg.size
            refine T_val (Ev_mul rfl rfl (by omega) (by omega)) rfl ?_
            refine T_val (Ev_sub rfl rfl (by omega) (by omega)) rfl ?_
            refine T_x (Wx_call rfl (fun w _ => node_ok f _ (by assumption) (by omega) (by omega) w) rfl ?_)
            rintro _ rfl
            refine T_slot (s := 39) (v' := .agg #[.int .i64 (f.x0 + (f.nx - 1) * f.step), .int .i64 (f.y0 + (f.ny - 1) * f.step)]) rfl (by rw [last_mod (by omega), last_div (by omega)]) ?_
            refine T_x (Wx_alloc zer51 rfl (fun g7 => ?_))
            refine T_h (Wh_store rfl rfl rfl (.here) (.put (.put (.done))) rfl (List.cons_ne_nil _ _) agg51.2 ?_)
            refine T_nil ?_
            refine T_next ?_
            refine T_seq ?_
            refine T_reg ?_
            refine T_val (Ev_field rfl fld51_0 rfl) rfl ?_
            refine T_val (Ev_load1 rfl (i := 0) rfl rfl one3) rfl ?_
            refine T_x (Wx_call rfl (fun w hw => validCoord_ok _ w) rfl ?_)
            rintro _ rfl
            refine T_val (Ev_move rfl) rfl ?_
            refine T_caseB (s := 43) rfl (fun h8 => ?_) (fun h8 => ?_)
            · refine T_valG rfl rfl rfl (Ev_field rfl fld51_1 rfl) rfl ?_
              refine T_valG rfl rfl rfl (Ev_load1 rfl (i := 0) rfl rfl one3) rfl ?_
              refine T_xG rfl rfl rfl (Wx_call rfl (fun w hw => validCoord_ok _ w) rfl ?_)
              rintro _ rfl
              refine T_val (Ev_pickT rfl rfl) rfl ?_
              refine T_val (Ev_assign rfl) rfl ?_
              refine T_nil ?_
              refine T_next ?_
              refine T_retc ?_
              refine T_retL (rs := [.tmp 2]) Try.results25 (.tmp rfl (.nil)) (Ln := []) (⟨by simp_all [resVal, rasterB], rfl⟩) (loNil) (.drop (.drop (.refl)))
            · refine T_skipG rfl rfl rfl rfl rfl ?_
              refine T_skipG rfl rfl rfl rfl rfl ?_
              refine T_skipG rfl rfl rfl rfl rfl ?_
              refine T_val (Ev_pickF rfl rfl) rfl ?_
              refine T_val (Ev_assign rfl) rfl ?_
              refine T_nil ?_
              refine T_next ?_
              refine T_retc ?_
              refine T_retL (rs := [.tmp 2]) Try.results25 (.tmp rfl (.nil)) (Ln := []) (⟨by simp_all [resVal, rasterB], rfl⟩) (loNil) (.drop (.drop (.refl)))
theorem good_of {f : Raster} (h : rasterB f = true) : GoodR f := by
  simp only [rasterB, withinB, coordB, Bool.and_eq_true, decide_eq_true_eq] at h
  constructor <;> omega
set_option maxRecDepth 100000 in
theorem refValidRaster_ok (f : Raster) (w : World) : Ct Try.prog 26 [.agg #[.int .i64 f.x0, .int .i64 f.y0, .int .i64 f.step, .int .i64 f.nx, .int .i64 f.ny]] w fun v => v = .bool (rasterB f) := by
  refine CtL.mk 60 Try.func26 rfl Try.ntmps26 (by kernel_rfl) rfl ?_
  show T 60 _ [(0, .agg #[.int .i64 (f.x0), .int .i64 (f.y0), .int .i64 (f.step), .int .i64 (f.nx), .int .i64 (f.ny)])] _
  refine T_seq ?_
  refine T_reg ?_
  refine T_x (Wx_box rfl rfl rfl (fun g1 => ?_))
  refine T_val (Ev_assign rfl) rfl ?_
  refine T_nil ?_
  refine T_next ?_
  refine T_seq ?_
  refine T_seq ?_
  refine T_reg ?_
  refine T_val (Ev_field rfl fld23_2 rfl) rfl ?_
  refine T_val (Ev_load1 rfl (i := 0) rfl rfl one3) rfl ?_
  refine T_val (Ev_lss rfl rfl) rfl ?_
  refine T_val (Ev_move rfl) rfl ?_
  refine T_caseP (s := 6) rfl (fun h2 => ?_) (fun h2 => ?_)
  · refine T_skipG rfl rfl rfl rfl rfl ?_
    refine T_skipG rfl rfl rfl rfl rfl ?_
    refine T_skipG rfl rfl rfl rfl rfl ?_
    refine T_val (Ev_pickT rfl rfl) rfl ?_
    refine T_val (Ev_move rfl) rfl ?_
    refine T_skipG rfl rfl rfl rfl rfl ?_
    refine T_skipG rfl rfl rfl rfl rfl ?_
    refine T_skipG rfl rfl rfl rfl rfl ?_
    refine T_val (Ev_pickT rfl rfl) rfl ?_
    refine T_val (Ev_move rfl) rfl ?_
    refine T_skipG rfl rfl rfl rfl rfl ?_
    refine T_skipG rfl rfl rfl rfl rfl ?_
    refine T_skipG rfl rfl rfl rfl rfl ?_
    refine T_val (Ev_pickT rfl rfl) rfl ?_
    refine T_val (Ev_move rfl) rfl ?_
    refine T_skipG rfl rfl rfl rfl rfl ?_
    refine T_skipG rfl rfl rfl rfl rfl ?_
    refine T_skipG rfl rfl rfl rfl rfl ?_
    refine T_val (Ev_pickT rfl rfl) rfl ?_
    refine T_val (Ev_move rfl) rfl ?_
    refine T_skipG rfl rfl rfl rfl rfl ?_
    refine T_skipG rfl rfl rfl rfl rfl ?_
    refine T_skipG rfl rfl rfl rfl rfl ?_
    refine T_val (Ev_pickT rfl rfl) rfl ?_
    refine T_val (Ev_move rfl) rfl ?_
    refine T_skipG rfl rfl rfl rfl rfl ?_
    refine T_skipG rfl rfl rfl rfl rfl ?_
    refine T_skipG rfl rfl rfl rfl rfl ?_
    refine T_skipG rfl rfl rfl rfl rfl ?_
    refine T_skipG rfl rfl rfl rfl rfl ?_
    refine T_skipG rfl rfl rfl rfl rfl ?_
    refine T_skipG rfl rfl rfl rfl rfl ?_
    refine T_val (Ev_pickT rfl rfl) rfl ?_
    refine T_nil ?_
    refine T_next ?_
    refine T_condT rfl ?_
    refine T_seq ?_
    refine T_reg ?_
    refine T_val (Ev_assign rfl) rfl ?_
    refine T_nil ?_
    refine T_next ?_
    refine T_retc ?_
    refine T_outR ?_
    refine T_retL (rs := [.tmp 2]) Try.results26 (.tmp rfl (.nil)) (Ln := []) (⟨by simp only [resVal, rasterB, withinB, coordB] at *; congr 1; grind, rfl⟩) (loNil) (.drop (.refl))
  · refine T_valG rfl rfl rfl (Ev_field rfl fld23_2 rfl) rfl ?_
    refine T_valG rfl rfl rfl (Ev_load1 rfl (i := 0) rfl rfl one3) rfl ?_
    refine T_valG rfl rfl rfl (Ev_gtr rfl rfl) rfl ?_
    refine T_val (Ev_pickF rfl rfl) rfl ?_
    refine T_val (Ev_move rfl) rfl ?_
    refine T_caseP (s := 11) rfl (fun h3 => ?_) (fun h3 => ?_)
    · refine T_skipG rfl rfl rfl rfl rfl ?_
      refine T_skipG rfl rfl rfl rfl rfl ?_
      refine T_skipG rfl rfl rfl rfl rfl ?_
      refine T_val (Ev_pickT rfl rfl) rfl ?_
      refine T_val (Ev_move rfl) rfl ?_
      refine T_skipG rfl rfl rfl rfl rfl ?_
      refine T_skipG rfl rfl rfl rfl rfl ?_
      refine T_skipG rfl rfl rfl rfl rfl ?_
      refine T_val (Ev_pickT rfl rfl) rfl ?_
      refine T_val (Ev_move rfl) rfl ?_
      refine T_skipG rfl rfl rfl rfl rfl ?_
      refine T_skipG rfl rfl rfl rfl rfl ?_
      refine T_skipG rfl rfl rfl rfl rfl ?_
      refine T_val (Ev_pickT rfl rfl) rfl ?_
      refine T_val (Ev_move rfl) rfl ?_
      refine T_skipG rfl rfl rfl rfl rfl ?_
      refine T_skipG rfl rfl rfl rfl rfl ?_
      refine T_skipG rfl rfl rfl rfl rfl ?_
      refine T_val (Ev_pickT rfl rfl) rfl ?_
      refine T_val (Ev_move rfl) rfl ?_
      refine T_skipG rfl rfl rfl rfl rfl ?_
      refine T_skipG rfl rfl rfl rfl rfl ?_
      refine T_skipG rfl rfl rfl rfl rfl ?_
      refine T_skipG rfl rfl rfl rfl rfl ?_
      refine T_skipG rfl rfl rfl rfl rfl ?_
      refine T_skipG rfl rfl rfl rfl rfl ?_
      refine T_skipG rfl rfl rfl rfl rfl ?_
      refine T_val (Ev_pickT rfl rfl) rfl ?_
      refine T_nil ?_
      refine T_next ?_
      refine T_condT rfl ?_
      refine T_seq ?_
      refine T_reg ?_
      refine T_val (Ev_assign rfl) rfl ?_
      refine T_nil ?_
      refine T_next ?_
      refine T_retc ?_
      refine T_outR ?_
      refine T_retL (rs := [.tmp 2]) Try.results26 (.tmp rfl (.nil)) (Ln := []) (⟨by simp only [resVal, rasterB, withinB, coordB] at *; congr 1; grind, rfl⟩) (loNil) (.drop (.refl))
    · refine T_valG rfl rfl rfl (Ev_field rfl fld23_3 rfl) rfl ?_
      refine T_valG rfl rfl rfl (Ev_load1 rfl (i := 0) rfl rfl one3) rfl ?_
      refine T_valG rfl rfl rfl (Ev_lss rfl rfl) rfl ?_
      refine T_val (Ev_pickF rfl rfl) rfl ?_
      refine T_val (Ev_move rfl) rfl ?_
      refine T_caseP (s := 16) rfl (fun h4 => ?_) (fun h4 => ?_)
      · refine T_skipG rfl rfl rfl rfl rfl ?_
        refine T_skipG rfl rfl rfl rfl rfl ?_
        refine T_skipG rfl rfl rfl rfl rfl ?_
        refine T_val (Ev_pickT rfl rfl) rfl ?_
        refine T_val (Ev_move rfl) rfl ?_
        refine T_skipG rfl rfl rfl rfl rfl ?_
        refine T_skipG rfl rfl rfl rfl rfl ?_
        refine T_skipG rfl rfl rfl rfl rfl ?_
        refine T_val (Ev_pickT rfl rfl) rfl ?_
        refine T_val (Ev_move rfl) rfl ?_
        refine T_skipG rfl rfl rfl rfl rfl ?_
        refine T_skipG rfl rfl rfl rfl rfl ?_
        refine T_skipG rfl rfl rfl rfl rfl ?_
        refine T_val (Ev_pickT rfl rfl) rfl ?_
        refine T_val (Ev_move rfl) rfl ?_
        refine T_skipG rfl rfl rfl rfl rfl ?_
        refine T_skipG rfl rfl rfl rfl rfl ?_
        refine T_skipG rfl rfl rfl rfl rfl ?_
        refine T_skipG rfl rfl rfl rfl rfl ?_
        refine T_skipG rfl rfl rfl rfl rfl ?_
        refine T_skipG rfl rfl rfl rfl rfl ?_
        refine T_skipG rfl rfl rfl rfl rfl ?_
        refine T_val (Ev_pickT rfl rfl) rfl ?_
        refine T_nil ?_
        refine T_next ?_
        refine T_condT rfl ?_
        refine T_seq ?_
        refine T_reg ?_
        refine T_val (Ev_assign rfl) rfl ?_
        refine T_nil ?_
        refine T_next ?_
        refine T_retc ?_
        refine T_outR ?_
        refine T_retL (rs := [.tmp 2]) Try.results26 (.tmp rfl (.nil)) (Ln := []) (⟨by simp only [resVal, rasterB, withinB, coordB] at *; congr 1; grind, rfl⟩) (loNil) (.drop (.refl))
      · refine T_valG rfl rfl rfl (Ev_field rfl fld23_3 rfl) rfl ?_
        refine T_valG rfl rfl rfl (Ev_load1 rfl (i := 0) rfl rfl one3) rfl ?_
        refine T_valG rfl rfl rfl (Ev_gtr rfl rfl) rfl ?_
        refine T_val (Ev_pickF rfl rfl) rfl ?_
        refine T_val (Ev_move rfl) rfl ?_
        refine T_caseP (s := 21) rfl (fun h5 => ?_) (fun h5 => ?_)
        · refine T_skipG rfl rfl rfl rfl rfl ?_
          refine T_skipG rfl rfl rfl rfl rfl ?_
          refine T_skipG rfl rfl rfl rfl rfl ?_
          refine T_val (Ev_pickT rfl rfl) rfl ?_
          refine T_val (Ev_move rfl) rfl ?_
          refine T_skipG rfl rfl rfl rfl rfl ?_
          refine T_skipG rfl rfl rfl rfl rfl ?_
          refine T_skipG rfl rfl rfl rfl rfl ?_
          refine T_val (Ev_pickT rfl rfl) rfl ?_
          refine T_val (Ev_move rfl) rfl ?_
          refine T_skipG rfl rfl rfl rfl rfl ?_
          refine T_skipG rfl rfl rfl rfl rfl ?_
          refine T_skipG rfl rfl rfl rfl rfl ?_
          refine T_skipG rfl rfl rfl rfl rfl ?_
          refine T_skipG rfl rfl rfl rfl rfl ?_
          refine T_skipG rfl rfl rfl rfl rfl ?_
          refine T_skipG rfl rfl rfl rfl rfl ?_
          refine T_val (Ev_pickT rfl rfl) rfl ?_
          refine T_nil ?_
          refine T_next ?_
          refine T_condT rfl ?_
          refine T_seq ?_
          refine T_reg ?_
          refine T_val (Ev_assign rfl) rfl ?_
          refine T_nil ?_
          refine T_next ?_
          refine T_retc ?_
          refine T_outR ?_
          refine T_retL (rs := [.tmp 2]) Try.results26 (.tmp rfl (.nil)) (Ln := []) (⟨by simp only [resVal, rasterB, withinB, coordB] at *; congr 1; grind, rfl⟩) (loNil) (.drop (.refl))
        · refine T_valG rfl rfl rfl (Ev_field rfl fld23_4 rfl) rfl ?_
          refine T_valG rfl rfl rfl (Ev_load1 rfl (i := 0) rfl rfl one3) rfl ?_
          refine T_valG rfl rfl rfl (Ev_lss rfl rfl) rfl ?_
          refine T_val (Ev_pickF rfl rfl) rfl ?_
          refine T_val (Ev_move rfl) rfl ?_
          refine T_caseP (s := 26) rfl (fun h6 => ?_) (fun h6 => ?_)
          · refine T_skipG rfl rfl rfl rfl rfl ?_
            refine T_skipG rfl rfl rfl rfl rfl ?_
            refine T_skipG rfl rfl rfl rfl rfl ?_
            refine T_val (Ev_pickT rfl rfl) rfl ?_
            refine T_val (Ev_move rfl) rfl ?_
            refine T_skipG rfl rfl rfl rfl rfl ?_
            refine T_skipG rfl rfl rfl rfl rfl ?_
            refine T_skipG rfl rfl rfl rfl rfl ?_
            refine T_skipG rfl rfl rfl rfl rfl ?_
            refine T_skipG rfl rfl rfl rfl rfl ?_
            refine T_skipG rfl rfl rfl rfl rfl ?_
            refine T_skipG rfl rfl rfl rfl rfl ?_
            refine T_val (Ev_pickT rfl rfl) rfl ?_
            refine T_nil ?_
            refine T_next ?_
            refine T_condT rfl ?_
            refine T_seq ?_
            refine T_reg ?_
            refine T_val (Ev_assign rfl) rfl ?_
            refine T_nil ?_
            refine T_next ?_
            refine T_retc ?_
            refine T_outR ?_
            refine T_retL (rs := [.tmp 2]) Try.results26 (.tmp rfl (.nil)) (Ln := []) (⟨by simp only [resVal, rasterB, withinB, coordB] at *; congr 1; grind, rfl⟩) (loNil) (.drop (.refl))
          · refine T_valG rfl rfl rfl (Ev_field rfl fld23_4 rfl) rfl ?_
            refine T_valG rfl rfl rfl (Ev_load1 rfl (i := 0) rfl rfl one3) rfl ?_
            refine T_valG rfl rfl rfl (Ev_gtr rfl rfl) rfl ?_
            refine T_val (Ev_pickF rfl rfl) rfl ?_
            refine T_val (Ev_move rfl) rfl ?_
            refine T_caseP (s := 31) rfl (fun h7 => ?_) (fun h7 => ?_)
            · refine T_skipG rfl rfl rfl rfl rfl ?_
              refine T_skipG rfl rfl rfl rfl rfl ?_
              refine T_skipG rfl rfl rfl rfl rfl ?_
              refine T_skipG rfl rfl rfl rfl rfl ?_
              refine T_skipG rfl rfl rfl rfl rfl ?_
              refine T_skipG rfl rfl rfl rfl rfl ?_
              refine T_skipG rfl rfl rfl rfl rfl ?_
              refine T_val (Ev_pickT rfl rfl) rfl ?_
              refine T_nil ?_
              refine T_next ?_
              refine T_condT rfl ?_
              refine T_seq ?_
              refine T_reg ?_
              refine T_val (Ev_assign rfl) rfl ?_
              refine T_nil ?_
              refine T_next ?_
              refine T_retc ?_
              refine T_outR ?_
              refine T_retL (rs := [.tmp 2]) Try.results26 (.tmp rfl (.nil)) (Ln := []) (⟨by simp only [resVal, rasterB, withinB, coordB] at *; congr 1; grind, rfl⟩) (loNil) (.drop (.refl))
            · refine T_valG rfl rfl rfl (Ev_field rfl fld23_0 rfl) rfl ?_
              refine T_valG rfl rfl rfl (Ev_load1 rfl (i := 0) rfl rfl one3) rfl ?_
              refine T_valG rfl rfl rfl (Ev_field rfl fld23_1 rfl) rfl ?_
              refine T_valG rfl rfl rfl (Ev_load1 rfl (i := 0) rfl rfl one3) rfl ?_
              refine T_valG rfl rfl rfl (Ev_build rfl (bld51_0i641i64 _ _)) rfl ?_
              refine T_xG rfl rfl rfl (Wx_call rfl (fun w _ => rplace_ok _ _  w) rfl ?_)
              rintro _ rfl
              refine T_valG rfl rfl rfl (Ev_not rfl) rfl ?_
              refine T_val (Ev_pickF rfl rfl) rfl ?_
              refine T_nil ?_
              refine T_next ?_
              refine T_caseNB (s := 39) rfl (fun h8 => ?_) (fun h8 => ?_)
              · refine T_condT rfl ?_
                refine T_seq ?_
                refine T_reg ?_
                refine T_val (Ev_assign rfl) rfl ?_
                refine T_nil ?_
                refine T_next ?_
                refine T_retc ?_
                refine T_outR ?_
                refine T_retL (rs := [.tmp 2]) Try.results26 (.tmp rfl (.nil)) (Ln := []) (⟨by simp only [resVal, rasterB, withinB, coordB] at *; congr 1; grind, rfl⟩) (loNil) (.drop (.refl))
              · refine T_condF rfl ?_
                refine T_skip ?_
                refine T_next ?_
                refine T_seq ?_
                refine T_reg ?_
                refine T_val (Ev_field rfl fld23_0 rfl) rfl ?_
                refine T_val (Ev_load1 rfl (i := 0) rfl rfl one3) rfl ?_
                refine T_val (Ev_field rfl fld23_3 rfl) rfl ?_
                refine T_val (Ev_load1 rfl (i := 0) rfl rfl one3) rfl ?_
                have hg : GoodR f := by simp only [coordB, Bool.and_eq_true, decide_eq_true_eq] at *; constructor <;> omega
                have hs1 := hg.s1
                have hs2 := hg.s2
                have hn1 := hg.n1
                have hn2 := hg.n2
                have hm1 := hg.m1
                have hm2 := hg.m2
                have hx1 := hg.x1
                have hx2 := hg.x2
                have hy1 := hg.y1
                have hy2 := hg.y2
                have hsz := hg.size
                have hp1 := mul_bd (a := f.nx - 1) (b := f.step) (A := 63) (B := 1000000) (by omega) (by omega) (by omega) (by omega)
                have hp2 := mul_bd (a := f.ny - 1) (b := f.step) (A := 63) (B := 1000000) (by omega) (by omega) (by omega) (by omega)
                refine T_val (Ev_sub rfl rfl (by omega) (by omega)) rfl ?_
                refine T_val (Ev_field rfl fld23_2 rfl) rfl ?_
                refine T_val (Ev_load1 rfl (i := 0) rfl rfl one3) rfl ?_
                refine T_val (Ev_mul rfl rfl (by omega) (by omega)) rfl ?_
                refine T_val (Ev_add rfl rfl (by omega) (by omega)) rfl ?_
                refine T_val (Ev_field rfl fld23_1 rfl) rfl ?_
                refine T_val (Ev_load1 rfl (i := 0) rfl rfl one3) rfl ?_
                refine T_val (Ev_field rfl fld23_4 rfl) rfl ?_
                refine T_val (Ev_load1 rfl (i := 0) rfl rfl one3) rfl ?_
                refine T_val (Ev_sub rfl rfl (by omega) (by omega)) rfl ?_
                refine T_val (Ev_field rfl fld23_2 rfl) rfl ?_
                refine T_val (Ev_load1 rfl (i := 0) rfl rfl one3) rfl ?_
                refine T_val (Ev_mul rfl rfl (by omega) (by omega)) rfl ?_
                refine T_val (Ev_add rfl rfl (by omega) (by omega)) rfl ?_
                refine T_val (Ev_build rfl (bld51_0i641i64 _ _)) rfl ?_
                refine T_x (Wx_call rfl (fun w _ => rplace_ok _ _  w) rfl ?_)
                rintro _ rfl
                refine T_val (Ev_assign rfl) rfl ?_
                refine T_nil ?_
                refine T_next ?_
                refine T_retc ?_
                refine T_retL (rs := [.tmp 2]) Try.results26 (.tmp rfl (.nil)) (Ln := []) (⟨by simp only [resVal, rasterB, withinB, coordB] at *; congr 1; grind, rfl⟩) (loNil) (.drop (.refl))
set_option maxRecDepth 100000 in
theorem nodeN_ok (f : Raster) (i : Int) (w : World) : Ct Try.prog 23 [.agg #[.int .i64 f.x0, .int .i64 f.y0, .int .i64 f.step, .int .i64 f.nx, .int .i64 f.ny], .int .i64 i] w fun v => v = .tuple #[.agg #[.int .i64 (nodeX f i), .int .i64 (nodeY f i)], .int .i64 (nodeE f i)] := by
  refine CtL.mk 23 Try.func23 rfl Try.ntmps23 (by kernel_rfl) rfl ?_
  show T 23 _ [(0, .agg #[.int .i64 (f.x0), .int .i64 (f.y0), .int .i64 (f.step), .int .i64 (f.nx), .int .i64 (f.ny)]), (1, .int .i64 (i))] _
  refine T_seq ?_
  refine T_reg ?_
  refine T_x (Wx_box rfl rfl rfl (fun g1 => ?_))
  refine T_x (Wx_alloc zer51 rfl (fun g2 => ?_))
  refine T_val (Ev_assign rfl) rfl ?_
  refine T_nil ?_
  refine T_next ?_
  refine T_seq ?_
  refine T_seq ?_
  refine T_reg ?_
  refine T_val (Ev_loadK rfl (i := 1) rfl rfl agg23) rfl ?_
  refine T_x (Wx_call rfl (fun w _ => validRaster_ok f  w) rfl ?_)
  rintro _ rfl
  refine T_val (Ev_not rfl) rfl ?_
  refine T_nil ?_
  refine T_next ?_
  refine T_caseNB (s := 8) rfl (fun h3 => ?_) (fun h3 => ?_)
  · refine T_condT rfl ?_
    refine T_seq ?_
    refine T_reg ?_
    refine T_val (Ev_build rfl (bld51_)) rfl ?_
    refine T_h (Wh_store rfl rfl rfl (.here) (.put (.put (.done))) rfl (List.cons_ne_nil _ _) agg51.2 ?_)
    refine T_val (Ev_assign rfl) rfl ?_
    refine T_nil ?_
    refine T_next ?_
    refine T_retc ?_
    refine T_outR ?_
    refine T_retL (rs := [.cell 4 51, .tmp 5]) Try.results23 (.cell rfl (i := 0) rfl rfl agg51 (.tmp rfl (.nil))) (Ln := []) (⟨by simp only [resVal, nodeX, nodeY, nodeE, nodeOk, withinB] at *; congr 3 <;> grind, rfl⟩) (loNil) (.drop (.drop (.refl)))
  · refine T_condF rfl ?_
    refine T_skip ?_
    refine T_next ?_
    refine T_seq ?_
    refine T_seq ?_
    refine T_reg ?_
    refine T_val (Ev_move rfl) rfl ?_
    refine T_val (Ev_field rfl fld23_3 rfl) rfl ?_
    refine T_val (Ev_load1 rfl (i := 1) rfl rfl one3) rfl ?_
    refine T_val (Ev_field rfl fld23_4 rfl) rfl ?_
    refine T_val (Ev_load1 rfl (i := 1) rfl rfl one3) rfl ?_
    have hg := good_of (f := f) (by assumption)
    have hs1 := hg.s1
    have hs2 := hg.s2
    have hn1 := hg.n1
    have hn2 := hg.n2
    have hm1 := hg.m1
    have hm2 := hg.m2
    have hx1 := hg.x1
    have hx2 := hg.x2
    have hy1 := hg.y1
    have hy2 := hg.y2
    have hsz := hg.size
    refine T_val (Ev_mul rfl rfl (by omega) (by omega)) rfl ?_
    refine T_val (Ev_sub rfl rfl (by omega) (by omega)) rfl ?_
    refine T_x (Wx_call rfl (fun w hw => within_ok _ _ _ w) rfl ?_)
    rintro _ rfl
    have hg := good_of (f := f) (by assumption)
    have hs1 := hg.s1
    have hs2 := hg.s2
    have hn1 := hg.n1
    have hn2 := hg.n2
    have hm1 := hg.m1
    have hm2 := hg.m2
    have hx1 := hg.x1
    have hx2 := hg.x2
    have hy1 := hg.y1
    have hy2 := hg.y2
    have hsz := hg.size
    refine T_val (Ev_not rfl) rfl ?_
    refine T_nil ?_
    refine T_next ?_
    refine T_caseNB (s := 18) rfl (fun h4 => ?_) (fun h4 => ?_)
    · refine T_condT rfl ?_
      refine T_seq ?_
      refine T_reg ?_
      refine T_val (Ev_build rfl (bld51_)) rfl ?_
      refine T_h (Wh_store rfl rfl rfl (.here) (.put (.put (.done))) rfl (List.cons_ne_nil _ _) agg51.2 ?_)
      refine T_val (Ev_assign rfl) rfl ?_
      refine T_nil ?_
      refine T_next ?_
      refine T_retc ?_
      refine T_outR ?_
      refine T_retL (rs := [.cell 4 51, .tmp 5]) Try.results23 (.cell rfl (i := 0) rfl rfl agg51 (.tmp rfl (.nil))) (Ln := []) (⟨by simp only [resVal, nodeX, nodeY, nodeE, nodeOk, withinB] at *; congr 3 <;> grind, rfl⟩) (loNil) (.drop (.drop (.refl)))
    · refine T_condF rfl ?_
      refine T_skip ?_
      refine T_next ?_
      refine T_seq ?_
      refine T_reg ?_
      refine T_val (Ev_loadK rfl (i := 1) rfl rfl agg23) rfl ?_
      refine T_val (Ev_move rfl) rfl ?_
      have hwi : 0 ≤ i ∧ i ≤ f.nx * f.ny - 1 := by simp only [withinB, Bool.and_eq_true, decide_eq_true_eq] at *; omega
      refine T_x (Wx_call rfl (fun w _ => node_ok f _ (by assumption) (by omega) (by omega) w) rfl ?_)
      rintro _ rfl
      refine T_h (Wh_store rfl rfl rfl (.here) (.put (.put (.done))) rfl (List.cons_ne_nil _ _) agg51.2 ?_)
      refine T_val (Ev_assign rfl) rfl ?_
      refine T_nil ?_
      refine T_next ?_
      refine T_retc ?_
      refine T_retL (rs := [.cell 4 51, .tmp 5]) Try.results23 (.cell rfl (i := 0) rfl rfl agg51 (.tmp rfl (.nil))) (Ln := []) (⟨by simp only [resVal, nodeX, nodeY, nodeE, nodeOk, withinB] at *; congr 3 <;> grind, rfl⟩) (loNil) (.drop (.drop (.refl)))
set_option maxRecDepth 100000 in
theorem refNode_ok (f : Raster) (i : Int) (w : World) : Ct Try.prog 24 [.agg #[.int .i64 f.x0, .int .i64 f.y0, .int .i64 f.step, .int .i64 f.nx, .int .i64 f.ny], .int .i64 i] w fun v => v = .tuple #[.agg #[.int .i64 (nodeX f i), .int .i64 (nodeY f i)], .int .i64 (nodeE f i)] := by
  refine CtL.mk 25 Try.func24 rfl Try.ntmps24 (by kernel_rfl) rfl ?_
  show T 25 _ [(0, .agg #[.int .i64 (f.x0), .int .i64 (f.y0), .int .i64 (f.step), .int .i64 (f.nx), .int .i64 (f.ny)]), (1, .int .i64 (i))] _
  refine T_seq ?_
  refine T_reg ?_
  refine T_x (Wx_box rfl rfl rfl (fun g1 => ?_))
  refine T_x (Wx_alloc zer51 rfl (fun g2 => ?_))
  refine T_val (Ev_assign rfl) rfl ?_
  refine T_nil ?_
  refine T_next ?_
  refine T_seq ?_
  refine T_seq ?_
  refine T_reg ?_
  refine T_val (Ev_loadK rfl (i := 1) rfl rfl agg23) rfl ?_
  refine T_x (Wx_call rfl (fun w _ => refValidRaster_ok f  w) rfl ?_)
  rintro _ rfl
  refine T_val (Ev_not rfl) rfl ?_
  refine T_nil ?_
  refine T_next ?_
  refine T_caseNB (s := 8) rfl (fun h3 => ?_) (fun h3 => ?_)
  · refine T_condT rfl ?_
    refine T_seq ?_
    refine T_reg ?_
    refine T_val (Ev_build rfl (bld51_)) rfl ?_
    refine T_h (Wh_store rfl rfl rfl (.here) (.put (.put (.done))) rfl (List.cons_ne_nil _ _) agg51.2 ?_)
    refine T_val (Ev_assign rfl) rfl ?_
    refine T_nil ?_
    refine T_next ?_
    refine T_retc ?_
    refine T_outR ?_
    refine T_retL (rs := [.cell 4 51, .tmp 5]) Try.results24 (.cell rfl (i := 0) rfl rfl agg51 (.tmp rfl (.nil))) (Ln := []) (⟨by simp only [resVal, nodeX, nodeY, nodeE, nodeOk, withinB] at *; congr 3 <;> grind, rfl⟩) (loNil) (.drop (.drop (.refl)))
  · refine T_condF rfl ?_
    refine T_skip ?_
    refine T_next ?_
    refine T_seq ?_
    refine T_seq ?_
    refine T_reg ?_
    have hg := good_of (f := f) (by assumption)
    have hs1 := hg.s1
    have hs2 := hg.s2
    have hn1 := hg.n1
    have hn2 := hg.n2
    have hm1 := hg.m1
    have hm2 := hg.m2
    have hx1 := hg.x1
    have hx2 := hg.x2
    have hy1 := hg.y1
    have hy2 := hg.y2
    have hsz := hg.size
    refine T_val (Ev_move rfl) rfl ?_
    refine T_val (Ev_lss rfl rfl) rfl ?_
    refine T_val (Ev_move rfl) rfl ?_
    refine T_caseP (s := 12) rfl (fun h4 => ?_) (fun h4 => ?_)
    · refine T_skipG rfl rfl rfl rfl rfl ?_
      refine T_skipG rfl rfl rfl rfl rfl ?_
      refine T_skipG rfl rfl rfl rfl rfl ?_
      refine T_skipG rfl rfl rfl rfl rfl ?_
      refine T_skipG rfl rfl rfl rfl rfl ?_
      refine T_skipG rfl rfl rfl rfl rfl ?_
      refine T_skipG rfl rfl rfl rfl rfl ?_
      refine T_val (Ev_pickT rfl rfl) rfl ?_
      refine T_nil ?_
      refine T_next ?_
      refine T_condT rfl ?_
      refine T_seq ?_
      refine T_reg ?_
      refine T_val (Ev_build rfl (bld51_)) rfl ?_
      refine T_h (Wh_store rfl rfl rfl (.here) (.put (.put (.done))) rfl (List.cons_ne_nil _ _) agg51.2 ?_)
      refine T_val (Ev_assign rfl) rfl ?_
      refine T_nil ?_
      refine T_next ?_
      refine T_retc ?_
      refine T_outR ?_
      refine T_retL (rs := [.cell 4 51, .tmp 5]) Try.results24 (.cell rfl (i := 0) rfl rfl agg51 (.tmp rfl (.nil))) (Ln := []) (⟨by simp only [resVal, nodeX, nodeY, nodeE, nodeOk, withinB] at *; congr 3 <;> grind, rfl⟩) (loNil) (.drop (.drop (.refl)))
    · refine T_valG rfl rfl rfl (Ev_move rfl) rfl ?_
      refine T_valG rfl rfl rfl (Ev_field rfl fld23_3 rfl) rfl ?_
      refine T_valG rfl rfl rfl (Ev_load1 rfl (i := 1) rfl rfl one3) rfl ?_
      refine T_valG rfl rfl rfl (Ev_field rfl fld23_4 rfl) rfl ?_
      refine T_valG rfl rfl rfl (Ev_load1 rfl (i := 1) rfl rfl one3) rfl ?_
      refine T_valG rfl rfl rfl (Ev_mul rfl rfl (by omega) (by omega)) rfl ?_
      refine T_valG rfl rfl rfl (Ev_geq rfl rfl) rfl ?_
      refine T_val (Ev_pickF rfl rfl) rfl ?_
      refine T_nil ?_
      refine T_next ?_
      refine T_caseP (s := 20) rfl (fun h5 => ?_) (fun h5 => ?_)
      · refine T_condT rfl ?_
        refine T_seq ?_
        refine T_reg ?_
        refine T_val (Ev_build rfl (bld51_)) rfl ?_
        refine T_h (Wh_store rfl rfl rfl (.here) (.put (.put (.done))) rfl (List.cons_ne_nil _ _) agg51.2 ?_)
        refine T_val (Ev_assign rfl) rfl ?_
        refine T_nil ?_
        refine T_next ?_
        refine T_retc ?_
        refine T_outR ?_
        refine T_retL (rs := [.cell 4 51, .tmp 5]) Try.results24 (.cell rfl (i := 0) rfl rfl agg51 (.tmp rfl (.nil))) (Ln := []) (⟨by simp only [resVal, nodeX, nodeY, nodeE, nodeOk, withinB] at *; congr 3 <;> grind, rfl⟩) (loNil) (.drop (.drop (.refl)))
      · refine T_condF rfl ?_
        refine T_skip ?_
        refine T_next ?_
        refine T_seq ?_
        refine T_reg ?_
        refine T_val (Ev_loadK rfl (i := 1) rfl rfl agg23) rfl ?_
        refine T_val (Ev_move rfl) rfl ?_
        refine T_x (Wx_call rfl (fun w _ => place_ok f _ (by assumption) (by omega) (by omega) w) rfl ?_)
        rintro _ rfl
        refine T_h (Wh_store rfl rfl rfl (.here) (.put (.put (.done))) rfl (List.cons_ne_nil _ _) agg51.2 ?_)
        refine T_val (Ev_assign rfl) rfl ?_
        refine T_nil ?_
        refine T_next ?_
        refine T_retc ?_
        refine T_retL (rs := [.cell 4 51, .tmp 5]) Try.results24 (.cell rfl (i := 0) rfl rfl agg51 (.tmp rfl (.nil))) (Ln := []) (⟨by simp only [resVal, nodeX, nodeY, nodeE, nodeOk, withinB] at *; congr 3 <;> grind, rfl⟩) (loNil) (.drop (.drop (.refl)))
end Go.Proofs.Ytjhknbpiaikblaa
