/- Several entries as one. -/
import Derived.Test.YtlkgeeppfifeeaaGreatFlow4
namespace Go.Proofs.YtlkgeeppfifeeaaGreat
open Go Go.RowKit
def Ent.blks : Ent → List Nat
  | .old _ => []
  | .m g _ _ => [g]
  | .r (some a) _ _ _ _ _ => [a.block]
  | .r none _ _ _ _ _ => []
  | .f S _ => S
theorem Ent.own_blks {e : Ent} {g : Nat} : e.own g ↔ g ∈ e.blks := by
  cases e with
  | old w => simp [Ent.own, Ent.blks]
  | m g' t cs => simp [Ent.own, Ent.blks, eq_comm]
  | r A n c t sz xs => cases A <;> simp [Ent.own, Ent.blks, eq_comm]
  | f S φ => simp [Ent.own, Ent.blks]
def bun (es : List Ent) : Ent := .f (es.flatMap Ent.blks) (fun w => ∀ e ∈ es, Ent.ok w e)
/-- What an entry says depends on its blocks alone. -/
theorem Ent.ok_blks {e : Ent} (hl : e.low = 0) {w w' : World} (h : Ent.ok w e) (hb : ∀ g ∈ e.blks, w'.heap[g]? = w.heap[g]?) : Ent.ok w' e := by
  have hsz : ∀ g, g < w.heap.size → g ∈ e.blks → g < w'.heap.size := fun g hg hm => by
    have h1 := hb g hm
    rw [Array.getElem?_eq_getElem hg] at h1
    exact lt_of_heap h1
  cases e with
  | old w0 => simp [Ent.low] at hl
  | m g t cs => exact (hb g (by simp [Ent.blks])).trans h
  | r A n c t sz xs =>
    obtain ⟨h1, h2⟩ := h
    refine ⟨h1, ?_⟩
    rcases h2 with h2 | ⟨g, cap, cur, hv, hb', hh, rest⟩
    · exact .inl h2
    · refine .inr ⟨g, cap, cur, hv, hb', ?_, rest⟩
      refine (hb g ?_).trans hh
      rw [← Ent.own_blks, Ent.own_r, hv]; rfl
  | f S φ =>
    obtain ⟨h1, h2, h3⟩ := h
    exact ⟨fun g hg => hsz g (h1 g hg) hg, h3 w w' h2 hb, h3⟩
theorem bun_ok {es : List Ent} (hl : ∀ e ∈ es, e.low = 0) {w : World} (h : ∀ e ∈ es, Ent.ok w e) : Ent.ok w (bun es) := by
  refine ⟨fun g hg => ?_, h, fun w1 w2 h1 hb e he => Ent.ok_blks (hl e he) (h1 e he) (fun g hg => hb g (List.mem_flatMap.2 ⟨e, he, hg⟩))⟩
  obtain ⟨e, he, hg⟩ := List.mem_flatMap.1 hg
  exact Ent.lt (h e he) (Ent.own_blks.2 hg)
theorem bun_get {es : List Ent} {w : World} (h : Ent.ok w (bun es)) : ∀ e ∈ es, Ent.ok w e := h.2.1
theorem bun_sep {es L : List Ent} {w : World} (hl : ∀ e ∈ es, e.low = 0) (h : Heap (es ++ L) w) : Heap (bun es :: L) w := by
  have hp := List.pairwise_append.1 h.sep
  refine ⟨fun e he => ?_, ?_⟩
  · rcases List.mem_cons.1 he with rfl | he
    · exact bun_ok hl (fun e he => h.ok e (List.mem_append_left _ he))
    · exact h.ok e (List.mem_append_right _ he)
  · rw [List.pairwise_cons]
    refine ⟨fun x hx => ⟨fun g hg => ?_, fun g hg => ⟨Nat.zero_le _, fun hb => ?_⟩⟩, hp.2.1⟩
    · obtain ⟨e, he, hg⟩ := List.mem_flatMap.1 (show g ∈ es.flatMap Ent.blks from hg)
      exact (hp.2.2 e he x hx).1 g (Ent.own_blks.2 hg)
    · obtain ⟨e, he, hb⟩ := List.mem_flatMap.1 (show g ∈ es.flatMap Ent.blks from hb)
      exact ((hp.2.2 e he x hx).2 g hg).2 (Ent.own_blks.2 hb)
theorem SubE.consB {K L es : List Ent} {e : Ent} {i j : Nat} (h : nthE L i = some (bun es)) (hj : nthE es j = some e) (h' : SubE K L) : SubE (e :: K) L := ⟨fun w hw x hx => by
  rcases List.mem_cons.1 hx with rfl | hx
  · exact bun_get (hw _ (nthE_mem h)) _ (nthE_mem hj)
  · exact h'.ok w hw _ hx⟩
theorem T_bundle {n : Nat} {N : Act → World → Prop} {fr : List (Nat × Value)} {L Lr es : List Ent} (hp : HPick L (es ++ Lr)) (hl : ∀ e ∈ es, e.low = 0) (k : T n N fr (bun es :: Lr)) : T n N fr L :=
  fun a w ha hw => k a w ha (bun_sep hl (hw.pick hp))
end Go.Proofs.YtlkgeeppfifeeaaGreat
