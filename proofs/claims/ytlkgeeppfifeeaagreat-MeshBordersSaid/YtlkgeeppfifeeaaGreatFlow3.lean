/- Steps that follow a plain function: rows of structs made, copies. -/
import Derived.Test.YtlkgeeppfifeeaaGreatFlow2
namespace Go.Proofs.YtlkgeeppfifeeaaGreat
open Go Go.RowKit
def cpy {α : Type} (l : List α) (p : Nat) (ys : List α) : List α := l.take p ++ ys.take (l.length - p) ++ l.drop (p + ys.length)
theorem cpy_len {α : Type} {l : List α} {p : Nat} {ys : List α} (h : p ≤ l.length) : (cpy l p ys).length = l.length := by
  simp only [cpy, List.length_append, List.length_take, List.length_drop]; omega
theorem flat_idx {α : Type} {enc : α → List Value} {sz : Nat} (hz : 0 < sz) (he : ∀ x, (enc x).length = sz) (l : List α) (j : Nat) (u : Value) (hj : (l.flatMap enc)[j]? = some u) : ∃ h : j / sz < l.length, (enc l[j / sz])[j % sz]? = some u := by
  have hjl : j < (l.flatMap enc).length := (List.getElem?_eq_some_iff.1 hj).1
  rw [flat_len he l] at hjl
  have hdm : j = j / sz * sz + j % sz := by have := Nat.div_add_mod j sz; rw [Nat.mul_comm] at this; omega
  have hq : j / sz < l.length := (Nat.div_lt_iff_lt_mul hz).2 hjl
  have hmod := Nat.mod_lt j hz
  refine ⟨hq, ?_⟩
  obtain ⟨u', hu'⟩ : ∃ u', (enc l[j / sz])[j % sz]? = some u' := ⟨_, List.getElem?_eq_getElem (by rw [he l[j / sz]]; exact hmod)⟩
  have hf := flat_at l (j / sz) hq (fun x _ => he x) (j % sz) u' hu'
  rw [← hdm, hj] at hf
  injection hf with hf
  subst hf; exact hu'
theorem Sl.flat {α : Type} {w : World} {A n c sz} {enc : α → List Value} {l : List α} (h : Sl w A n c sz enc l) (hz : 0 < sz) (he : ∀ x, (enc x).length = sz) {b o : Nat} (hA : A = some ⟨b, o, none⟩) (hn : 0 < n) :
    ∀ (j : Nat) (u : Value), (l.flatMap enc)[j]? = some u → w.cell? ((⟨b, o, none⟩ : Addr).add j) = some u := by
  intro j u hj
  obtain ⟨hq, hu⟩ := flat_idx hz he l j u hj
  obtain ⟨b', o', hA', hc⟩ := h.at_ hn
  rw [hA] at hA'
  injection hA' with hA'
  injection hA' with e1 e2 _
  subst e1; subst e2
  have := hc (j / sz) hq (j % sz) u hu
  have hdm : j = j / sz * sz + j % sz := by have := Nat.div_add_mod j sz; rw [Nat.mul_comm] at this; omega
  rw [Addr.add_lit, hdm, ← Nat.add_assoc]; exact this
section
variable {P : Program} {n : Nat} {N : Act → World → Prop} {Q : Exit → Act → World → Prop} {fr : List (Nat × Value)} {L : List Ent}
end
end Go.Proofs.YtlkgeeppfifeeaaGreat
