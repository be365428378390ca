/- Calls that write what a pointer leads to. -/
import Derived.Test.YtlkgeeppfifeeaaGreatFlow3
import Derived.Laws.BytesArg
import Derived.Laws.Strings
namespace Go.Proofs.YtlkgeeppfifeeaaGreat
open Go Go.RowKit
theorem SubE.appC {K E L : List Ent} (h : SubE K L) (h' : SubE E L) : SubE (K ++ E) L := ⟨fun w hw x hx => by
  rcases List.mem_append.1 hx with hx | hx
  · exact h.ok w hw _ hx
  · exact h'.ok w hw _ hx⟩
/-- A function that may write the entries Lp, and reads those of K, which lie elsewhere. -/
def CtK (P : Program) (f : FuncId) (vs : List Value) (K Lp : List Ent) (R : Value → List Ent → Prop) : Prop :=
  Enters P f ∧ ∀ Lf w, SubE K Lf → Heap (Lp ++ Lf) w → Calls P f vs.toArray w fun e w' => ∃ v Ln, e = .returned v ∧ R v Ln ∧ Heap (Ln ++ Lf) w'
section
variable {P : Program} {n : Nat} {N : Act → World → Prop} {Q : Exit → Act → World → Prop} {fr : List (Nat × Value)} {L : List Ent}
theorem CtK.mk {f : FuncId} {fn : Func} {c : Code} {vs : List Value} {K Lp : List Ent} {R : Value → List Ent → Prop} (m : Nat) (hf : P.funcs[f]? = some fn) (hb : fn.body = some c) (hm : fn.ntmps = m) (hn : (fn.name == "runtime.NumGoroutine") = false)
    (hl : Nat.ble vs.length m = true) (k : ∀ Lf, SubE K Lf → T m (c.wp P (bodyPost P fn fun e w' => ∃ v Ln, e = .returned v ∧ R v Ln ∧ Heap (Ln ++ Lf) w')) (argsFr vs 0) (Lp ++ Lf)) : CtK P f vs K Lp R := by
  refine ⟨⟨fn, hf, hn, by rw [hb]; rfl⟩, fun Lf w hK hw => calls_of_wp hf hb ?_⟩
  rw [hm]
  exact k Lf hK _ w (fr_args vs m (Nat.le_of_ble_eq_true hl)) hw
theorem Wh_callK {d : Nat} {pos : String} {after : Array Edge} {guard : Option (Nat × Bool)} {f : FuncId} {xs : List Operand} {vs : List Value} {ts : Array TypeId} {ty' : TypeId} {K Lp Lf : List Ent} {R : Value → List Ent → Prop} (hx : evos fr xs = some vs) (hp : HPick L (Lp ++ Lf)) (hsub : SubE K Lf) (hc : CtK P f vs K Lp R) (hd : Nat.blt d n = true)
    (k : ∀ v Ln, R v Ln → T n N ((d, v) :: fr) (Ln ++ Lf)) : Wh P Q n ⟨some d, .call ⟨.value (.func f), xs.toArray, ts⟩, ty', pos, after, guard⟩ fr L N := by
  intro a w ha hw
  simp only [Oper.wp, run_call hc.1 ha hx, Oper.upon_enter]
  refine (hc.2 Lf w hsub (hw.pick hp)).mono ?_
  rintro e w' ⟨v, Ln, rfl, hR, hh⟩
  exact k v Ln hR _ _ (ha.put hd) hh
theorem T_retK {fn : Func} {R : Value → List Ent → Prop} {Lf : List Ent} {rs vs} {Ln : List Ent} (hr : fn.results = rs.toArray) (h : Res P fr L rs vs) (hR : R (resVal vs) Ln) (hs : HPick L (Ln ++ Lf)) :
    T n (bodyPost P fn (fun e w' => ∃ v Ln, e = .returned v ∧ R v Ln ∧ Heap (Ln ++ Lf) w') .ret) fr L :=
  T_ret hr h fun _ hw => ⟨_, Ln, rfl, hR, hw.pick hs⟩
theorem T_endK {fn : Func} {R : Value → List Ent → Prop} {Lf : List Ent} {rs vs} {Ln : List Ent} (hr : fn.results = rs.toArray) (h : Res P fr L rs vs) (hR : R (resVal vs) Ln) (hs : HPick L (Ln ++ Lf)) :
    T n (bodyPost P fn (fun e w' => ∃ v Ln, e = .returned v ∧ R v Ln ∧ Heap (Ln ++ Lf) w') .normal) fr L :=
  T_end hr h fun _ hw => ⟨_, Ln, rfl, hR, hw.pick hs⟩
theorem Ev_nilCheck {x a} {dst : Option Tmp} {ty : TypeId} {pos : String} {after : Array Edge} {guard : Option (Nat × Bool)} (hx : evo fr x = some (.pointer (some a))) : Ev P n ⟨dst, .nilCheck x, ty, pos, after, guard⟩ fr L (.pointer (some a)) := fun ac w ha _ => by
  simp [execOp, ha.eval hx]
end
end Go.Proofs.YtlkgeeppfifeeaaGreat
