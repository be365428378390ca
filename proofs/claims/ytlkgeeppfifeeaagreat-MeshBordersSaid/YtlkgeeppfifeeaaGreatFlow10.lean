/- Slices with a bound on their capacity, slices held against nil. -/
import Derived.Test.YtlkgeeppfifeeaaGreatFlow9
import Derived.Lib.LazyBuf
namespace Go.Proofs.YtlkgeeppfifeeaaGreat
open Go Go.RowKit
section
variable {P : Program} {n : Nat} {N : Act → World → Prop} {Q : Exit → Act → World → Prop} {fr : List (Nat × Value)} {L : List Ent}
variable {dst : Option Tmp} {ty : TypeId} {pos : String} {after : Array Edge} {guard : Option (Nat × Bool)}
theorem Ev_eqlNil {t e t' : TypeId} {x y : Operand} {A : Option Addr} {m c : Nat} (ht : P.underlying t = some (.slice e)) (hx : evo fr x = some (.slice A m c)) (hy : evo fr y = some (.slice none 0 0)) :
    Ev P n ⟨dst, .binOp .eql t x y t', ty, pos, after, guard⟩ fr L (.bool A.isNone) := fun a w ha _ => by
  simp [execOp, ha.eval hx, ha.eval hy, eqGuard_at_slice, run_eql_slice_nil w t e A m c ht, Result.andThen]
theorem HasN.nc {α : Type} {K : List Ent} {A : Option Addr} {n c sz : Nat} {R : List Ent → α → List Value → Prop} {l : List α} (h : HasN K A n c sz R l) : n ≤ c := by
  obtain ⟨hl, h1, _⟩ := h; exact h1.nc
theorem HasN.sub {α : Type} {K : List Ent} {A : Option Addr} {m c sz : Nat} {R : List Ent → α → List Value → Prop} {l : List α} (h : HasN K A m c sz R l) {i j : Int} (h1 : 0 ≤ i) (h2 : i ≤ j) (h3 : j ≤ (m : Int)) :
    HasN K (slA A c i.toNat sz) (j.toNat - i.toNat) (c - i.toNat) sz R (subl l i j) := by
  have hlen := h.len
  obtain ⟨hl, g1, g2, g3⟩ := h
  refine ⟨subl hl i j, g1.sub h1 h2 h3, by simp [subl]; omega, fun q hq hq' => ?_⟩
  have e1 : (subl l i j)[q] = l[i.toNat + q]'(by simp [subl] at hq; omega) := by simp [subl]
  have e2 : (subl hl i j)[q] = hl[i.toNat + q]'(by simp [subl] at hq'; omega) := by simp [subl]
  rw [e1, e2]; exact g3 _ _ _
theorem HasN.subL {α : Type} {K : List Ent} {A : Option Addr} {m c sz : Nat} {R : List Ent → α → List Value → Prop} {l : List α} (h : HasN K A m c sz R l) {i : Int} (h1 : 0 ≤ i) (h2 : i ≤ (m : Int)) :
    HasN K (slA A c i.toNat sz) (m - i.toNat) (c - i.toNat) sz R (subl l i (m : Int)) := h.sub h1 h2 (Int.le_refl _)
theorem HasN.subH {α : Type} {K : List Ent} {A : Option Addr} {m c sz : Nat} {R : List Ent → α → List Value → Prop} {l : List α} (h : HasN K A m c sz R l) {j : Int} (h1 : 0 ≤ j) (h2 : j ≤ (m : Int)) :
    HasN K A j.toNat c sz R (subl l 0 j) := by
  have hlen := h.len
  obtain ⟨hl, g1, g2, g3⟩ := h
  refine ⟨subl hl 0 j, g1.subH h1 h2, by simp [subl]; omega, fun q hq hq' => ?_⟩
  have e1 : (subl l 0 j)[q] = l[q]'(by simp [subl] at hq; omega) := by simp [subl]
  have e2 : (subl hl 0 j)[q] = hl[q]'(by simp [subl] at hq'; omega) := by simp [subl]
  rw [e1, e2]; exact g3 _ _ _
end
end Go.Proofs.YtlkgeeppfifeeaaGreat
