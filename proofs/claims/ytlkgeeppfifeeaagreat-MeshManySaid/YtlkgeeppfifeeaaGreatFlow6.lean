/- Rows whose elements hold slices. -/
import Derived.Test.YtlkgeeppfifeeaaGreatFlow5
namespace Go.Proofs.YtlkgeeppfifeeaaGreat
open Go Go.RowKit
/-- The cells of an element. -/
abbrev Vec (sz : Nat) : Type := {v : List Value // v.length = sz}
def cellsV {sz : Nat} (x : Vec sz) : List Value := x.1
theorem cellsV_len {sz : Nat} (x : Vec sz) : (cellsV x).length = sz := x.2
/-- What the elements of a row hold. -/
def RowN {α : Type} {sz : Nat} (K : List Ent) (R : List Ent → α → List Value → Prop) (hs : List (Vec sz)) (l : List α) : Prop :=
  hs.length = l.length ∧ ∀ (i : Nat) (h : i < l.length) (h' : i < hs.length), R K l[i] hs[i].1
theorem RowN.nil {α : Type} {sz : Nat} {K : List Ent} {R : List Ent → α → List Value → Prop} : RowN (sz := sz) K R [] ([] : List α) := ⟨rfl, fun i h => absurd h (by simp)⟩
theorem RowN.len {α : Type} {sz : Nat} {K : List Ent} {R : List Ent → α → List Value → Prop} {hs : List (Vec sz)} {l : List α} (h : RowN K R hs l) : hs.length = l.length := h.1
theorem RowN.up {α : Type} {sz : Nat} {K L : List Ent} {R : List Ent → α → List Value → Prop} {hs : List (Vec sz)} {l : List α} (hm : ∀ {K L : List Ent} {x : α} {ys : List Value}, SubE K L → R K x ys → R L x ys) (h : RowN K R hs l) (hK : SubE K L) : RowN L R hs l :=
  ⟨h.1, fun i a b => hm hK (h.2 i a b)⟩
theorem RowN.snoc {α : Type} {sz : Nat} {K : List Ent} {R : List Ent → α → List Value → Prop} {hs : List (Vec sz)} {l : List α} {y : Vec sz} {x : α} (h : RowN K R hs l) (hx : R K x y.1) : RowN K R (hs ++ [y]) (l ++ [x]) := by
  refine ⟨by simp [h.1], fun i a b => ?_⟩
  by_cases hi : i < l.length
  · have hi' : i < hs.length := by rw [h.1]; exact hi
    rw [List.getElem_append_left hi, List.getElem_append_left hi']
    exact h.2 i hi hi'
  · have e1 : i = l.length := by simp at a; omega
    subst e1
    have e2 := h.1
    simp only [List.getElem_append_right (Nat.le_refl _), Nat.sub_self, List.getElem_singleton]
    rw [List.getElem_append_right (by omega)]
    simp [e2]
    exact hx
theorem HasN.ofRowN {α : Type} {sz : Nat} {K : List Ent} {R : List Ent → α → List Value → Prop} {A : Option Addr} {n c : Nat} {hs : List (Vec sz)} {l : List α} (h1 : Has K A n c sz cellsV hs) (h2 : RowN K R hs l) : HasN K A n c sz R l := by
  refine ⟨hs.map (·.1), ⟨by rw [List.length_map]; exact h1.len, h1.nc, h1.cap, ?_, fun h0 => ?_⟩, by rw [List.length_map]; exact h2.1, fun i a b => ?_⟩
  · intro x hx
    obtain ⟨y, _, rfl⟩ := List.mem_map.1 hx
    exact y.2
  · obtain ⟨b, o, hA, hp⟩ := h1.at_ h0
    refine ⟨b, o, hA, fun i hi => ?_⟩
    have hi' : i < hs.length := by simpa using hi
    have := hp i hi'
    simpa [raw, cellsV] using this
  · simp only [List.getElem_map]
    exact h2.2 i a (by simpa using b)
section
variable {n : Nat} {N : Act → World → Prop} {fr : List (Nat × Value)} {L : List Ent}
theorem T_app7 {a b c d e f g : Ent} (k : T n N fr (a :: b :: c :: d :: e :: f :: g :: L)) : T n N fr ([a, b, c, d, e, f, g] ++ L) := k
theorem T_app8 {a b c d e f g h : Ent} (k : T n N fr (a :: b :: c :: d :: e :: f :: g :: h :: L)) : T n N fr ([a, b, c, d, e, f, g, h] ++ L) := k
theorem T_app9 {a b c d e f g h i : Ent} (k : T n N fr (a :: b :: c :: d :: e :: f :: g :: h :: i :: L)) : T n N fr ([a, b, c, d, e, f, g, h, i] ++ L) := k
end
end Go.Proofs.YtlkgeeppfifeeaaGreat
