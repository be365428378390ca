/- No run takes back a draw. -/
import Derived.Below
import Derived.Control
namespace Go.Proofs.YtbkobeeileemjaaGreat
open Go
def Af1 {ε α:Type} (Φ:α→Prop):Except ε α→Prop
 | .ok a=>Φ a
 | .error _=>True
theorem Af1.bind {ε α β:Type} {Φ:β→Prop} {e:Except ε α} {f:α→Except ε β} (h:∀ a,Af1 Φ (f a)):Af1 Φ (e >>= f):=by
 cases e with
 | ok a=>exact h a
 | error e=>exact trivial
theorem Ac9 (p:Program) (w:World) (a:Addr) (u:TypeId) (k:Addr) (v:Value) (b:Bool):Af1 (fun r=>r.1.drawn=w.drawn) (w.viewStore p a u k v b):=by
 unfold World.viewStore
 repeat' (first | exact rfl | exact trivial | (refine Af1.bind fun _=>?_) | split)
theorem Ad1 (p:Program) (w:World) (a:Addr) (v:Value) (b:Bool):Af1 (fun r=>r.1.drawn=w.drawn) (w.farStore p a v b):=by
 unfold World.farStore
 split
 ·have:=Ac9 p w ‹_› ‹_› a v b
  split
  ·rename_i h;rw [h] at this;exact this
  ·exact trivial
 ·exact trivial
theorem Ab8 {α:Type}:∀ (q:Ask α) (w:World),w.drawn≤(w.ask q).2.drawn
 | .done _,w=>Nat.le_refl _
 | .ask what range k,w=>by
  unfold World.ask
  dsimp only
  split
  ·exact Ab8 (k 0) w
  ·exact Nat.le_trans (Nat.le_succ _) (Ab8 (k _) { w with drawn:=w.drawn+1 })
theorem Amb (w:World) (c:Sys):w.drawn≤(w.sys c).2.drawn:=by
 unfold World.sys
 have:=Ab8 (Kernel.perform c w.os) w
 split
 ·exact Nat.le_refl _
 ·rename_i h;rw [h] at this;exact this
def Ahx {α:Type} (n:Nat):Result α→Prop
 | .ok _ w=>n≤w.drawn
 | .halt _ w=>n≤w.drawn
theorem Ahx.mono {α:Type} {n m:Nat} {r:Result α} (h:Ahx m r) (hn:n≤m):Ahx n r:=by
 cases r <;> exact Nat.le_trans hn h
theorem Fg {α:Type} (P:Program):∀ (s:Sem α) (w:World),Ahx w.drawn (s.run P w)
 | .pure a,w=>Nat.le_refl _
 | .load m a k,w=>by
  unfold Sem.run
  split
  ·exact Fg P (k _) w
  ·split
   ·exact Fg P (k _) w
   ·exact Nat.le_refl _
 | .store m a v k,w=>by
  have key:Ahx w.drawn (match w.cell? a with
   | some _ => if w.frozen? a then Result.halt (.unsupported (.unsafePointer "a write to bytes that a string shares")) w else k.run P (w.setCell a v)
   | none=>match w.farStore P a v (m == .atomic) with
    | .ok (w,_)=>k.run P w
    | .error h=>.halt h w):=by
   split
   ·split
    ·exact Nat.le_refl _
    ·exact Fg P k (w.setCell a v)
   ·have:=Ad1 P w a v (m == .atomic)
    split
    ·rename_i h
     rw [h] at this
     exact (Fg P k _).mono (Nat.le_of_eq this.symm)
    ·exact Nat.le_refl _
  cases v with
  | agg _=>exact Nat.le_refl _
  | tuple _=>exact Nat.le_refl _
  | _=>exact key
 | .new o k,w=>by unfold Sem.run;exact Fg P (k _) { w with heap:=w.heap.push o }
 | .shape r k,w=>by unfold Sem.run;exact Fg P (k _) w
 | .freeze a n k,w=>by
  unfold Sem.run
  refine (Fg P k (w.freeze a n)).mono ?_
  unfold World.freeze;split <;> exact Nat.le_refl _
 | .frozen a k,w=>by unfold Sem.run;exact Fg P (k _) w
 | .getObj r k,w=>by
  unfold Sem.run
  split
  ·exact Nat.le_refl _
  ·exact Fg P (k _) w
  ·exact Nat.le_refl _
 | .setObj r o k,w=>by
  unfold Sem.run
  split
  ·exact Nat.le_refl _
  ·exact Fg P k { w with heap:=w.heap.setIfInBounds r o }
  ·exact Nat.le_refl _
 | .choose q k,w=>by
  unfold Sem.run
  split
  ·exact Fg P (k _) w
  ·exact (Fg P (k _) { w with drawn:=w.drawn+1 }).mono (Nat.le_succ _)
 | .sys c k,w=>by unfold Sem.run;exact (Fg P (k _) _).mono (Amb w c)
 | .program k,w=>by unfold Sem.run;exact Fg P (k _) w
 | .mark _ k,w=>by unfold Sem.run;exact Fg P k w
 | .halt h,w=>Nat.le_refl _
theorem Ajh {α:Type} {P:Program} {s:Sem α} {w w':World} {v:α} (h:s.run P w = .ok v w'):w.drawn≤w'.drawn:=by
 have:=Fg P s w
 rw [h] at this
 exact this
end Go.Proofs.YtbkobeeileemjaaGreat
