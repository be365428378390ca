/- Ranges over functions: regions that call yield, rounds, the statement. -/
import Derived.Test.YtlkgeeppfifeeaaGreatFlow8
import Derived.RangeFuncRecord
import Derived.TacticsIn
import Derived.RangeFuncSeq
namespace Go.Proofs.YtlkgeeppfifeeaaGreat
open Go Go.RowKit
/-- The fence without bars, in the round of a loop. -/
def FL (ro : Option Nat) : Fence := { Fence.wide with round := ro }
/-- What N says, with these deferred calls. -/
def Dp (ds : List Deferred) (N : Act → World → Prop) (a : Act) (w : World) : Prop := a.defers = [] ∧ N { a with defers := ds } w
section
variable {P : Program} {n m : Nat} {ro : Option Nat} {ds : List Deferred} {ops : Array Oper} {Q : Exit → Act → World → Prop} {fr : List (Nat × Value)} {L : List Ent} {rest : List Oper} {N : Act → World → Prop}
variable {dst : Option Tmp} {d : Nat} {op : Op} {ty : TypeId} {pos : String} {after : Array Edge} {guard : Option (Nat × Bool)}
/-- A round of the loop l, from what e says. -/
def YldOk (P : Program) (l : Nat) (vs : List Value) (e : Ent) (R : Ent → Prop) : Prop :=
  ∀ Lf w, Heap (e :: Lf) w → YieldAt (FL none) 0 P l vs.toArray w fun en w' => en = .returned (.bool true) ∧ ∃ e', R e' ∧ Heap (e' :: Lf) w'
end
/-! ### the caller -/
def loopE (l : Nat) (r : Loop) : Ent := .f [l] fun w => w.heap[l]? = some (.loop r)
/-- Several entries as one that can be laid open again. -/
def bunS (es : List Ent) : Ent := .f (es.flatMap Ent.blks) fun w => (∀ e ∈ es, Ent.ok w e) ∧ es.Pairwise Ent.sep
theorem bunS_open {es L : List Ent} {w : World} (hl : ∀ e ∈ es, e.low = 0) (h : Heap (bunS es :: L) w) : Heap (es ++ L) w := by
  have hs := h.sep
  rw [List.pairwise_cons] at hs
  obtain ⟨_, ⟨h2, h3⟩, _⟩ := h.ok _ List.mem_cons_self
  refine ⟨fun e he => ?_, List.pairwise_append.2 ⟨h3, hs.2, fun e he x hx => ⟨fun g hg => ?_, fun g hg => ⟨by rw [Ent.low_lo (hl e he)]; exact Nat.zero_le _, fun hb => ?_⟩⟩⟩⟩
  · rcases List.mem_append.1 he with he | he
    · exact h2 e he
    · exact h.ok e (List.mem_cons_of_mem _ he)
  · exact (hs.1 x hx).1 g (List.mem_flatMap.2 ⟨e, he, Ent.own_blks.1 hg⟩)
  · exact ((hs.1 x hx).2 g hg).2 (List.mem_flatMap.2 ⟨e, he, Ent.own_blks.1 hb⟩)
section
variable {P : Program} {n m : Nat} {ro : Option Nat} {ds : List Deferred} {Q : Exit → Act → World → Prop} {fr : List (Nat × Value)} {L L' : List Ent} {N : Act → World → Prop}
/-- A round, out of the walks of what it assigns and of its body. -/
theorem YldOk.mk {l : Nat} {r : Loop} {p : Tmp} {v : Value} {a0 : Act} {Hs : List Ent} {R : Ent → Prop} (hfr : Fr n fr a0) (hp : r.params = #[p]) (ht : r.tmps = a0.tmps) (hpn : Nat.blt p n = true) (hl : ∀ e ∈ Hs, e.low = 0)
    (k : ∀ Lf, T n (Dp [] (r.assign.wpIn (FL (some l)) 0 P (Exit.then (fun a1 w1 => ∃ w2, (Instr.beginRound l).run P w1 = .ok () w2 ∧ r.body.wpIn (FL (some l)) 0 P (roundPost P l fun en w' => en = .returned (.bool true) ∧ ∃ e', R e' ∧ Heap (e' :: Lf) w') a1 w2) (fun _ _ _ => False))))
      ((p, v) :: fr) (loopE l r :: (Hs ++ Lf))) : YldOk P l [v] (bunS (loopE l r :: Hs)) R := by
  intro Lf w hw
  have hw' := bunS_open (loCons rfl hl) hw
  obtain ⟨_, h2, _⟩ := hw'.ok (loopE l r) (by simp)
  have hy := run_yield (P := P) (args := #[v]) h2 (by rw [hp]; rfl)
  refine ⟨_, _, _, _, hy, roundIn_of_wpIn trivial ?_⟩
  rw [hp, ht]
  have hf : Fr n ((p, v) :: fr) { tmps := a0.tmps.setIfInBounds p v, defers := [] } := by
    have := hfr.put (v := v) hpn
    refine ⟨rfl, this.size, this.val⟩
  have h5 := (k Lf _ w hf hw').2
  have he : (Array.foldl (fun tmps (x : Tmp × Value) => match x with | (t, a) => tmps.setIfInBounds t a) a0.tmps (#[p].zip #[v])) = a0.tmps.setIfInBounds p v := by simp
  rw [he]
  exact h5
end
theorem Pt.up0 {K : List Ent} {b o : Nat} {ys : List Value} (h : Pt K b o ys) : Pt (K ++ []) b o ys := by rw [List.append_nil]; exact h
/-! ### function values -/
theorem Ev_makeFunc {P : Program} {n : Nat} {fr : List (Nat × Value)} {L : List Ent} {dst : Option Tmp} {ty : TypeId} {pos : String} {after : Array Edge} {guard : Option (Nat × Bool)} {f : Nat} {xs : List Operand} {vs : List Value} (hx : evos fr xs = some vs) :
    Ev P n ⟨dst, .makeFunc (.func f) #[] xs.toArray, ty, pos, after, guard⟩ fr L (.func (.func f) #[] vs.toArray) := fun a w ha _ => by
  have := ha.evals hx
  simp [execOp, this, Instr.makeFunc, Result.andThen]
end Go.Proofs.YtlkgeeppfifeeaaGreat
