/- Walks of the program: what lies between bounds. -/
import Derived.Test.YtjhknbpiaikblaaSpec
import Derived.Test.YtjhknbpiaikblaaRows
namespace Go.Proofs.Ytjhknbpiaikblaa
open Go Go.RowKit
theorem mixed : Try.prog.follows .mixedOrders = true := by kernel_rfl
set_option maxRecDepth 100000 in
theorem within_ok (lo m hi : Int) (w : World) : Ct Try.prog 58 [.int .i64 lo, .int .i64 m, .int .i64 hi] w fun v => v = .bool (withinB lo m hi) := by
  refine CtL.mk 15 Try.func58 rfl Try.ntmps58 (by kernel_rfl) rfl ?_
  show T 15 _ [(0, .int .i64 (lo)), (1, .int .i64 (m)), (2, .int .i64 (hi))] _
  refine T_seq ?_
  refine T_reg ?_
  refine T_val (Ev_assign rfl) rfl ?_
  refine T_nil ?_
  refine T_next ?_
  refine T_seq ?_
  refine T_reg ?_
  refine T_val (Ev_move rfl) rfl ?_
  refine T_val (Ev_move rfl) rfl ?_
  refine T_val (Ev_leq rfl rfl) rfl ?_
  refine T_val (Ev_move rfl) rfl ?_
  refine T_caseP (s := 10) rfl (fun h1 => ?_) (fun h1 => ?_)
  · refine T_valG rfl rfl rfl (Ev_move rfl) rfl ?_
    refine T_valG rfl rfl rfl (Ev_move rfl) rfl ?_
    refine T_valG rfl rfl rfl (Ev_leq rfl rfl) rfl ?_
    refine T_val (Ev_pickT rfl rfl) rfl ?_
    refine T_val (Ev_assign rfl) rfl ?_
    refine T_nil ?_
    refine T_next ?_
    refine T_retc ?_
    refine T_retL (rs := [.tmp 6]) Try.results58 (.tmp rfl (.nil)) (Ln := []) (⟨by first | (simp_all [resVal, withinB]; done) | (simp_all [resVal, withinB]; omega), rfl⟩) (loNil) (.refl)
  · refine T_skipG rfl rfl rfl rfl rfl ?_
    refine T_skipG rfl rfl rfl rfl rfl ?_
    refine T_skipG rfl rfl rfl rfl rfl ?_
    refine T_val (Ev_pickF rfl rfl) rfl ?_
    refine T_val (Ev_assign rfl) rfl ?_
    refine T_nil ?_
    refine T_next ?_
    refine T_retc ?_
    refine T_retL (rs := [.tmp 6]) Try.results58 (.tmp rfl (.nil)) (Ln := []) (⟨by first | (simp_all [resVal, withinB]; done) | (simp_all [resVal, withinB]; omega), rfl⟩) (loNil) (.refl)
set_option maxRecDepth 100000 in
theorem validCoord_ok (x : Int) (w : World) : Ct Try.prog 65 [.int .i64 x] w fun v => v = .bool (coordB x) := by
  refine CtL.mk 5 Try.func65 rfl Try.ntmps65 (by kernel_rfl) rfl ?_
  show T 5 _ [(0, .int .i64 (x))] _
  refine T_seq ?_
  refine T_reg ?_
  refine T_val (Ev_assign rfl) rfl ?_
  refine T_nil ?_
  refine T_next ?_
  refine T_seq ?_
  refine T_reg ?_
  refine T_val (Ev_move rfl) rfl ?_
  refine T_x (Wx_call rfl (fun w hw => within_ok _ _ _ w) rfl ?_)
  rintro _ rfl
  refine T_val (Ev_assign rfl) rfl ?_
  refine T_nil ?_
  refine T_next ?_
  refine T_retc ?_
  refine T_retL (rs := [.tmp 2]) Try.results65 (.tmp rfl (.nil)) (Ln := []) (⟨by simp [resVal, withinB, coordB], rfl⟩) (loNil) (.refl)
end Go.Proofs.Ytjhknbpiaikblaa
