/- Rows whose elements hold slices. -/
import Derived.Test.YtlkgeeppfifeeaaGreatFlow5
namespace Go.Proofs.YtlkgeeppfifeeaaGreat
open Go Go.RowKit
/-- The cells of an element. -/
abbrev Vec (sz : Nat) : Type := {v : List Value // v.length = sz}
/-- What the elements of a row hold. -/
def RowN {α : Type} {sz : Nat} (K : List Ent) (R : List Ent → α → List Value → Prop) (hs : List (Vec sz)) (l : List α) : Prop :=
  hs.length = l.length ∧ ∀ (i : Nat) (h : i < l.length) (h' : i < hs.length), R K l[i] hs[i].1
theorem RowN.nil {α : Type} {sz : Nat} {K : List Ent} {R : List Ent → α → List Value → Prop} : RowN (sz := sz) K R [] ([] : List α) := ⟨rfl, fun i h => absurd h (by simp)⟩
theorem RowN.len {α : Type} {sz : Nat} {K : List Ent} {R : List Ent → α → List Value → Prop} {hs : List (Vec sz)} {l : List α} (h : RowN K R hs l) : hs.length = l.length := h.1
theorem RowN.up {α : Type} {sz : Nat} {K L : List Ent} {R : List Ent → α → List Value → Prop} {hs : List (Vec sz)} {l : List α} (hm : ∀ {K L : List Ent} {x : α} {ys : List Value}, SubE K L → R K x ys → R L x ys) (h : RowN K R hs l) (hK : SubE K L) : RowN L R hs l :=
  ⟨h.1, fun i a b => hm hK (h.2 i a b)⟩
section
variable {n : Nat} {N : Act → World → Prop} {fr : List (Nat × Value)} {L : List Ent}
end
end Go.Proofs.YtlkgeeppfifeeaaGreat
