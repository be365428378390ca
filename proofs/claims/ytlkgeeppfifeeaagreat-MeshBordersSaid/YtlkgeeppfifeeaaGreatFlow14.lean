/- Calls of which the world behind is told exactly: the world before, with blocks laid and draws made. -/
import Derived.Test.YtlkgeeppfifeeaaGreatFlow13
import Derived.Sort.Grow
import Derived.Deep.Draws
namespace Go.Proofs.YtlkgeeppfifeeaaGreat
open Go Go.RowKit Go.Lib Go.Sort
/-- w is W, grown. -/
def Gw (W w : World) : Prop := ∃ q os', w = grow (W.drewN q) os'
theorem Gw.refl (W : World) : Gw W W := ⟨0, #[], by simp [grow]; rfl⟩
theorem Gw.trans {A B C : World} (h : Gw A B) (k : Gw B C) : Gw A C := by
  obtain ⟨q, os, rfl⟩ := h
  obtain ⟨q', os', rfl⟩ := k
  exact ⟨q + q', os ++ os', by simp [grow, World.drewN, Nat.add_assoc, Array.append_assoc]⟩
theorem Gw.drew (W : World) : Gw W W.drew := ⟨1, #[], by rw [grow_empty]; rfl⟩
theorem Gw.alloc (W : World) (o : Obj) : Gw W (W.alloc o) := ⟨0, #[o], by rw [alloc_eq_grow]; rfl⟩
/-- What is left as it was, with draws made, is grown. -/
theorem Ext.gw {W w : World} (h : Ext W w) : Gw W w := by
  obtain ⟨⟨h1, h2, h3, h4, h5⟩, hd⟩ := h
  refine ⟨w.drawn - W.drawn, w.heap.extract W.heap.size w.heap.size, ?_⟩
  obtain ⟨hp, tp, dr, os, out⟩ := w
  simp only at *
  have e : hp = W.heap ++ hp.extract W.heap.size hp.size := by
    apply Array.ext_getElem?
    intro i
    by_cases hi : i < W.heap.size
    · rw [h5 i hi, Array.getElem?_append_left hi]
    · rw [Array.getElem?_append_right (by omega), Array.getElem?_extract]
      by_cases hi2 : i < hp.size
      · rw [if_pos (by omega)]
        congr 1; omega
      · rw [if_neg (by omega), Array.getElem?_eq_none (by omega)]
  have ed : W.drawn + (dr - W.drawn) = dr := by omega
  simp only [grow, World.drewN, ed, h1, h2, h3, ← e]
/-- A call that leaves the world as it was, but for new blocks and draws. -/
theorem CtL.grows {P : Program} {f : FuncId} {vs : List Value} {w : World} {v : Value} (h : CtL P f vs w fun x Ln => x = v ∧ Ln = [] ∧ True) : Calls P f vs.toArray w fun e w' => e = .returned v ∧ Gw w w' := by
  obtain ⟨_, h⟩ := h
  refine h.mono ?_
  rintro e w' ⟨v', Ln, rfl, ⟨rfl, -, -⟩, -, hh⟩
  exact ⟨rfl, Ext.gw (hh.ok (.old w) (by simp))⟩
end Go.Proofs.YtlkgeeppfifeeaaGreat
