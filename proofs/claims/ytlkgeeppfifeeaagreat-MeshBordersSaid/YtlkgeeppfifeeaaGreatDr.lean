/- No run takes back a draw. -/
import Derived.Below
import Derived.Control
namespace Go.Proofs.YtlkgeeppfifeeaaGreat
open Go
def AllOk {ε α : Type} (Φ : α → Prop) : Except ε α → Prop
  | .ok a => Φ a
  | .error _ => True
theorem AllOk.bind {ε α β : Type} {Φ : β → Prop} {e : Except ε α} {f : α → Except ε β} (h : ∀ a, AllOk Φ (f a)) : AllOk Φ (e >>= f) := by
  cases e with
  | ok a => exact h a
  | error e => exact trivial
theorem viewStore_drawn (p : Program) (w : World) (a : Addr) (u : TypeId) (k : Addr) (v : Value) (b : Bool) : AllOk (fun r => r.1.drawn = w.drawn) (w.viewStore p a u k v b) := by
  unfold World.viewStore
  repeat' (first | exact rfl | exact trivial | (refine AllOk.bind fun _ => ?_) | split)
theorem farStore_drawn (p : Program) (w : World) (a : Addr) (v : Value) (b : Bool) : AllOk (fun r => r.1.drawn = w.drawn) (w.farStore p a v b) := by
  unfold World.farStore
  split
  · have := viewStore_drawn p w ‹_› ‹_› a v b
    split
    · rename_i h; rw [h] at this; exact this
    · exact trivial
  · exact trivial
theorem ask_drawn {α : Type} : ∀ (q : Ask α) (w : World), w.drawn ≤ (w.ask q).2.drawn
  | .done _, w => Nat.le_refl _
  | .ask what range k, w => by
    unfold World.ask
    dsimp only
    split
    · exact ask_drawn (k 0) w
    · exact Nat.le_trans (Nat.le_succ _) (ask_drawn (k _) { w with drawn := w.drawn + 1 })
theorem sys_drawn (w : World) (c : Sys) : w.drawn ≤ (w.sys c).2.drawn := by
  unfold World.sys
  have := ask_drawn (Kernel.perform c w.os) w
  split
  · exact Nat.le_refl _
  · rename_i h; rw [h] at this; exact this
def ResLe {α : Type} (n : Nat) : Result α → Prop
  | .ok _ w => n ≤ w.drawn
  | .halt _ w => n ≤ w.drawn
theorem ResLe.mono {α : Type} {n m : Nat} {r : Result α} (h : ResLe m r) (hn : n ≤ m) : ResLe n r := by
  cases r <;> exact Nat.le_trans hn h
theorem run_drawn {α : Type} (P : Program) : ∀ (s : Sem α) (w : World), ResLe w.drawn (s.run P w)
  | .pure a, w => Nat.le_refl _
  | .load m a k, w => by
    unfold Sem.run
    split
    · exact run_drawn P (k _) w
    · split
      · exact run_drawn P (k _) w
      · exact Nat.le_refl _
  | .store m a v k, w => by
    have key : ResLe w.drawn (match w.cell? a with
      | some _ => if w.frozen? a then Result.halt (.unsupported (.unsafePointer "a write to bytes that a string shares")) w else k.run P (w.setCell a v)
      | none => match w.farStore P a v (m == .atomic) with
        | .ok (w, _) => k.run P w
        | .error h => .halt h w) := by
      split
      · split
        · exact Nat.le_refl _
        · exact run_drawn P k (w.setCell a v)
      · have := farStore_drawn P w a v (m == .atomic)
        split
        · rename_i h
          rw [h] at this
          exact (run_drawn P k _).mono (Nat.le_of_eq this.symm)
        · exact Nat.le_refl _
    cases v with
    | agg _ => exact Nat.le_refl _
    | tuple _ => exact Nat.le_refl _
    | _ => exact key
  | .new o k, w => by unfold Sem.run; exact run_drawn P (k _) { w with heap := w.heap.push o }
  | .shape r k, w => by unfold Sem.run; exact run_drawn P (k _) w
  | .freeze a n k, w => by
    unfold Sem.run
    refine (run_drawn P k (w.freeze a n)).mono ?_
    unfold World.freeze; split <;> exact Nat.le_refl _
  | .frozen a k, w => by unfold Sem.run; exact run_drawn P (k _) w
  | .getObj r k, w => by
    unfold Sem.run
    split
    · exact Nat.le_refl _
    · exact run_drawn P (k _) w
    · exact Nat.le_refl _
  | .setObj r o k, w => by
    unfold Sem.run
    split
    · exact Nat.le_refl _
    · exact run_drawn P k { w with heap := w.heap.setIfInBounds r o }
    · exact Nat.le_refl _
  | .choose q k, w => by
    unfold Sem.run
    split
    · exact run_drawn P (k _) w
    · exact (run_drawn P (k _) { w with drawn := w.drawn + 1 }).mono (Nat.le_succ _)
  | .sys c k, w => by unfold Sem.run; exact (run_drawn P (k _) _).mono (sys_drawn w c)
  | .program k, w => by unfold Sem.run; exact run_drawn P (k _) w
  | .mark _ k, w => by unfold Sem.run; exact run_drawn P k w
  | .halt h, w => Nat.le_refl _
theorem run_le {α : Type} {P : Program} {s : Sem α} {w w' : World} {v : α} (h : s.run P w = .ok v w') : w.drawn ≤ w'.drawn := by
  have := run_drawn P s w
  rw [h] at this
  exact this
end Go.Proofs.YtlkgeeppfifeeaaGreat
