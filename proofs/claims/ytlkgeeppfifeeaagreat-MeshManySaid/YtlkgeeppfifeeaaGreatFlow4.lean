/- Calls that write what a pointer leads to. -/
import Derived.Test.YtlkgeeppfifeeaaGreatFlow3
import Derived.Laws.BytesArg
import Derived.Laws.Strings
namespace Go.Proofs.YtlkgeeppfifeeaaGreat
open Go Go.RowKit
theorem SubE.appC {K E L : List Ent} (h : SubE K L) (h' : SubE E L) : SubE (K ++ E) L := ⟨fun w hw x hx => by
  rcases List.mem_append.1 hx with hx | hx
  · exact h.ok w hw _ hx
  · exact h'.ok w hw _ hx⟩
/-- A function that may write the entries Lp, and reads those of K, which lie elsewhere. -/
def CtK (P : Program) (f : FuncId) (vs : List Value) (K Lp : List Ent) (R : Value → List Ent → Prop) : Prop :=
  Enters P f ∧ ∀ Lf w, SubE K Lf → Heap (Lp ++ Lf) w → Calls P f vs.toArray w fun e w' => ∃ v Ln, e = .returned v ∧ R v Ln ∧ Heap (Ln ++ Lf) w'
section
variable {P : Program} {n : Nat} {N : Act → World → Prop} {Q : Exit → Act → World → Prop} {fr : List (Nat × Value)} {L : List Ent}
theorem CtK.mk {f : FuncId} {fn : Func} {c : Code} {vs : List Value} {K Lp : List Ent} {R : Value → List Ent → Prop} (m : Nat) (hf : P.funcs[f]? = some fn) (hb : fn.body = some c) (hm : fn.ntmps = m) (hn : (fn.name == "runtime.NumGoroutine") = false)
    (hl : Nat.ble vs.length m = true) (k : ∀ Lf, SubE K Lf → T m (c.wp P (bodyPost P fn fun e w' => ∃ v Ln, e = .returned v ∧ R v Ln ∧ Heap (Ln ++ Lf) w')) (argsFr vs 0) (Lp ++ Lf)) : CtK P f vs K Lp R := by
  refine ⟨⟨fn, hf, hn, by rw [hb]; rfl⟩, fun Lf w hK hw => calls_of_wp hf hb ?_⟩
  rw [hm]
  exact k Lf hK _ w (fr_args vs m (Nat.le_of_ble_eq_true hl)) hw
theorem Wh_callK {d : Nat} {pos : String} {after : Array Edge} {guard : Option (Nat × Bool)} {f : FuncId} {xs : List Operand} {vs : List Value} {ts : Array TypeId} {ty' : TypeId} {K Lp Lf : List Ent} {R : Value → List Ent → Prop} (hx : evos fr xs = some vs) (hp : HPick L (Lp ++ Lf)) (hsub : SubE K Lf) (hc : CtK P f vs K Lp R) (hd : Nat.blt d n = true)
    (k : ∀ v Ln, R v Ln → T n N ((d, v) :: fr) (Ln ++ Lf)) : Wh P Q n ⟨some d, .call ⟨.value (.func f), xs.toArray, ts⟩, ty', pos, after, guard⟩ fr L N := by
  intro a w ha hw
  simp only [Oper.wp, run_call hc.1 ha hx, Oper.upon_enter]
  refine (hc.2 Lf w hsub (hw.pick hp)).mono ?_
  rintro e w' ⟨v, Ln, rfl, hR, hh⟩
  exact k v Ln hR _ _ (ha.put hd) hh
theorem T_retK {fn : Func} {R : Value → List Ent → Prop} {Lf : List Ent} {rs vs} {Ln : List Ent} (hr : fn.results = rs.toArray) (h : Res P fr L rs vs) (hR : R (resVal vs) Ln) (hs : HPick L (Ln ++ Lf)) :
    T n (bodyPost P fn (fun e w' => ∃ v Ln, e = .returned v ∧ R v Ln ∧ Heap (Ln ++ Lf) w') .ret) fr L :=
  T_ret hr h fun _ hw => ⟨_, Ln, rfl, hR, hw.pick hs⟩
theorem T_endK {fn : Func} {R : Value → List Ent → Prop} {Lf : List Ent} {rs vs} {Ln : List Ent} (hr : fn.results = rs.toArray) (h : Res P fr L rs vs) (hR : R (resVal vs) Ln) (hs : HPick L (Ln ++ Lf)) :
    T n (bodyPost P fn (fun e w' => ∃ v Ln, e = .returned v ∧ R v Ln ∧ Heap (Ln ++ Lf) w') .normal) fr L :=
  T_end hr h fun _ hw => ⟨_, Ln, rfl, hR, hw.pick hs⟩
theorem Ev_nilCheck {x a} {dst : Option Tmp} {ty : TypeId} {pos : String} {after : Array Edge} {guard : Option (Nat × Bool)} (hx : evo fr x = some (.pointer (some a))) : Ev P n ⟨dst, .nilCheck x, ty, pos, after, guard⟩ fr L (.pointer (some a)) := fun ac w ha _ => by
  simp [execOp, ha.eval hx]
theorem Ev_bytesStr {α : Type} {K : List Ent} {en : Int → List Value} {src dt e : TypeId} {x A m c l} {dst : Option Tmp} {ty : TypeId} {pos : String} {after : Array Edge} {guard : Option (Nat × Bool)} (hx : evo fr x = some (.slice A m c)) (hr : Has K A m c 1 en l) (hK : SubE K L) (hen : ∀ z, en z = [.int .u8 z])
    (hs : P.underlying src = some (.slice e)) (he : P.underlying e = some (.int .u8)) (hd : P.underlying dt = some .string) : Ev P n ⟨dst, .convert src dt x, ty, pos, after, guard⟩ fr L (.string (strOfNums l)) := fun ac w ha hw => by
  have hl := hr.len
  subst hl
  have key : (convert src dt (.slice A l.length c)).run P w = .ok (.string (strOfNums l)) w := by
    by_cases h0 : 0 < l.length
    · obtain ⟨b, o, hA, hp⟩ := hr.at_ h0
      subst hA
      refine run_convert_bytes_arg w src e hs he b o _ c l rfl (fun i hi => ?_) dt hd
      have := hp i hi w (hK.ok w hw) 0 (.int .u8 l[i]) (by rw [hen]; rfl)
      simpa [hi] using this
    · have h1 : l = [] := List.eq_nil_of_length_eq_zero (by omega)
      subst h1
      cases A with
      | none => exact run_convert_bytes_nil w src e hs he _ c dt hd
      | some a =>
        show (convert src dt (.slice (some a) 0 c)).run P w = _
        rw [run_convert_bytes_string w src dt e _ _ c hs he hd, run_bytesToString w a 0 c [] (by simpa using run_loadCells_list (P := P) w a [] (by simp))]
        rfl
  simp [execOp, ha.eval hx, key]
theorem Ev_eqlStr {t t' x y a b} {dst : Option Tmp} {ty : TypeId} {pos : String} {after : Array Edge} {guard : Option (Nat × Bool)} (hx : evo fr x = some (.string a)) (hy : evo fr y = some (.string b)) : Ev P n ⟨dst, .binOp .eql t x y t', ty, pos, after, guard⟩ fr L (.bool (a.toList == b.toList)) := fun ac w ha _ => by
  simp [execOp, ha.eval hx, ha.eval hy, eqGuard_at_string, binOp_string_eql]
theorem Ev_neqStr {t t' x y a b} {dst : Option Tmp} {ty : TypeId} {pos : String} {after : Array Edge} {guard : Option (Nat × Bool)} (hx : evo fr x = some (.string a)) (hy : evo fr y = some (.string b)) : Ev P n ⟨dst, .binOp .neq t x y t', ty, pos, after, guard⟩ fr L (.bool (!(a.toList == b.toList))) := fun ac w ha _ => by
  simp [execOp, ha.eval hx, ha.eval hy, eqGuard_at_string, binOp_string_neq]
end
end Go.Proofs.YtlkgeeppfifeeaaGreat
