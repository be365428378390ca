/- Slices with a bound on their capacity, slices held against nil. -/
import Derived.Test.YtlkgeeppfifeeaaGreatFlow9
import Derived.Lib.LazyBuf
namespace Go.Proofs.YtlkgeeppfifeeaaGreat
open Go Go.RowKit
section
variable {P : Program} {n : Nat} {N : Act → World → Prop} {Q : Exit → Act → World → Prop} {fr : List (Nat × Value)} {L : List Ent}
variable {dst : Option Tmp} {ty : TypeId} {pos : String} {after : Array Edge} {guard : Option (Nat × Bool)}
theorem Ev_eqlNil {t e t' : TypeId} {x y : Operand} {A : Option Addr} {m c : Nat} (ht : P.underlying t = some (.slice e)) (hx : evo fr x = some (.slice A m c)) (hy : evo fr y = some (.slice none 0 0)) :
    Ev P n ⟨dst, .binOp .eql t x y t', ty, pos, after, guard⟩ fr L (.bool A.isNone) := fun a w ha _ => by
  simp [execOp, ha.eval hx, ha.eval hy, eqGuard_at_slice, run_eql_slice_nil w t e A m c ht, Result.andThen]
theorem Ev_subHM {t x hi mx A m c e sz k1 k2} {j : Int} (hx : evo fr x = some (.slice A m c)) (hh : evo fr hi = some (.int k1 j)) (hm : evo fr mx = some (.int k2 j)) (ht : SliceOf P t e sz) (h0 : 0 ≤ j) (h1 : j ≤ (c : Int)) :
    Ev P n ⟨dst, .slice t x none (some hi) (some mx), ty, pos, after, guard⟩ fr L (.slice A j.toNat j.toNat) := fun a w ha _ => by
  obtain ⟨q, rfl⟩ : ∃ q : Nat, j = (q : Int) := ⟨j.toNat, by omega⟩
  have h2 : q ≤ c := by omega
  have : (if q = 0 then A else A.map (·.add (0 * sz))) = A := by
    split
    · rfl
    · cases A <;> simp [Addr.add]
  simp [execOp, ha.eval hx, ha.eval hh, ha.eval hm, Instr.sliceAt, Instr.slice, run_underlying ht.1, Instr.sliceBounds, Instr.sliceBound, asIntOf, h2, ht.2 w, Addr.add]
theorem Has.subHM {α : Type} {K : List Ent} {A m c sz} {enc : α → List Value} {l : List α} (h : Has K A m c sz enc l) {j : Int} (h1 : 0 ≤ j) (h2 : j ≤ (m : Int)) :
    Has K A j.toNat j.toNat sz enc (subl l 0 j) := by
  have h3 := h.subH h1 h2
  exact ⟨h3.len, Nat.le_refl _, by have := h.cap; have := h.nc; omega, h3.esz, h3.at_⟩
theorem HasN.nc {α : Type} {K : List Ent} {A : Option Addr} {n c sz : Nat} {R : List Ent → α → List Value → Prop} {l : List α} (h : HasN K A n c sz R l) : n ≤ c := by
  obtain ⟨hl, h1, _⟩ := h; exact h1.nc
theorem HasN.sub {α : Type} {K : List Ent} {A : Option Addr} {m c sz : Nat} {R : List Ent → α → List Value → Prop} {l : List α} (h : HasN K A m c sz R l) {i j : Int} (h1 : 0 ≤ i) (h2 : i ≤ j) (h3 : j ≤ (m : Int)) :
    HasN K (slA A c i.toNat sz) (j.toNat - i.toNat) (c - i.toNat) sz R (subl l i j) := by
  have hlen := h.len
  obtain ⟨hl, g1, g2, g3⟩ := h
  refine ⟨subl hl i j, g1.sub h1 h2 h3, by simp [subl]; omega, fun q hq hq' => ?_⟩
  have e1 : (subl l i j)[q] = l[i.toNat + q]'(by simp [subl] at hq; omega) := by simp [subl]
  have e2 : (subl hl i j)[q] = hl[i.toNat + q]'(by simp [subl] at hq'; omega) := by simp [subl]
  rw [e1, e2]; exact g3 _ _ _
theorem HasN.subL {α : Type} {K : List Ent} {A : Option Addr} {m c sz : Nat} {R : List Ent → α → List Value → Prop} {l : List α} (h : HasN K A m c sz R l) {i : Int} (h1 : 0 ≤ i) (h2 : i ≤ (m : Int)) :
    HasN K (slA A c i.toNat sz) (m - i.toNat) (c - i.toNat) sz R (subl l i (m : Int)) := h.sub h1 h2 (Int.le_refl _)
theorem HasN.subH {α : Type} {K : List Ent} {A : Option Addr} {m c sz : Nat} {R : List Ent → α → List Value → Prop} {l : List α} (h : HasN K A m c sz R l) {j : Int} (h1 : 0 ≤ j) (h2 : j ≤ (m : Int)) :
    HasN K A j.toNat c sz R (subl l 0 j) := by
  have hlen := h.len
  obtain ⟨hl, g1, g2, g3⟩ := h
  refine ⟨subl hl 0 j, g1.subH h1 h2, by simp [subl]; omega, fun q hq hq' => ?_⟩
  have e1 : (subl l 0 j)[q] = l[q]'(by simp [subl] at hq; omega) := by simp [subl]
  have e2 : (subl hl 0 j)[q] = hl[q]'(by simp [subl] at hq'; omega) := by simp [subl]
  rw [e1, e2]; exact g3 _ _ _
/-- append to a slice that has no room. -/
theorem Wh_appendF {α : Type} (enc : α → List Value) (l ys : List α) {d : Nat} {s x t e sz bytes A m B q q' ty'} {K : List Ent}
    (hs : evo fr s = some (.slice A m m)) (hx : evo fr x = some (.slice B q q')) (ht : ElemOf P t e sz bytes) (he : ∀ x, (enc x).length = sz)
    (hl : Has K A m m sz enc l) (hy : Has K B q q' sz enc ys) (hK : SubE K L) (hne : ys ≠ []) (hb : (l.length + ys.length) * bytes ≤ 140737488355328) (hd : Nat.blt d n = true) (h0 : 0 < bytes)
    (k : ∀ A' c', T n N ((d, .slice A' (l ++ ys).length c') :: fr) (.r A' (l ++ ys).length c' e sz ((l ++ ys).flatMap enc) :: L)) :
    Wh P Q n ⟨some d, .call ⟨.builtin .append, #[s, x], #[t, t]⟩, ty', pos, after, guard⟩ fr L N := by
  intro a w ha hw
  have hm := hl.len
  subst hm
  have hq := hy.len
  subst hq
  have hll := flat_len he l
  have hly := flat_len he ys
  have hn : 0 < ys.length := List.length_pos_iff.2 hne
  have h63 : l.length + ys.length ≤ 9223372036854775807 := by
    have h3 := Nat.mul_le_mul_left (l.length + ys.length) h0
    rw [Nat.mul_succ, Nat.mul_zero, Nat.zero_add] at h3
    omega
  obtain ⟨i0, z, e1, e2, e3, e4, e5⟩ := ht.ex
  subst e3; subst e4
  have cellsOf : ∀ {C : Option Addr} {c0 : Nat} {zs : List α}, Has K C zs.length c0 i0.size enc zs → ∀ b o, C = some ⟨b, o, none⟩ → (∀ i (hi : i < zs.length) j u, (enc zs[i])[j]? = some u → w.cell? ⟨b, o + i * i0.size + j, none⟩ = some u) →
      ∀ (j : Nat) (u : Value), (zs.flatMap enc)[j]? = some u → w.cell? ((⟨b, o, none⟩ : Addr).add j) = some u := by
    intro C c0 zs _ b o _ hcell j u hj
    have hlz := flat_len he zs
    have hjl : j < (zs.flatMap enc).length := (List.getElem?_eq_some_iff.1 hj).1
    rw [hlz] at hjl
    have hdm : j = j / i0.size * i0.size + j % i0.size := by have := Nat.div_add_mod j i0.size; rw [Nat.mul_comm] at this; omega
    have hq : j / i0.size < zs.length := (Nat.div_lt_iff_lt_mul ht.pos).2 hjl
    have hmod := Nat.mod_lt j ht.pos
    obtain ⟨u', hu'⟩ : ∃ u', (enc zs[j / i0.size])[j % i0.size]? = some u' := ⟨_, List.getElem?_eq_getElem (by rw [he zs[j / i0.size]]; exact hmod)⟩
    have hf := flat_at zs (j / i0.size) hq (fun x _ => he x) (j % i0.size) u' hu'
    rw [← hdm, hj] at hf
    injection hf with hf
    subst hf
    have := hcell (j / i0.size) hq (j % i0.size) u hu'
    rw [Addr.add_lit, hdm, ← Nat.add_assoc]; exact this
  have hsl := hy.at hK hw
  obtain ⟨b, o, hB, hcell⟩ := hsl.at_ hn
  subst hB
  have hnew := cellsOf hy b o rfl hcell
  have hlen : (l.flatMap enc ++ ys.flatMap enc).length = (l.length + ys.length) * i0.size := by rw [List.length_append, hll, hly, Nat.add_mul]
  have main : ∃ old, (Builtin.append_ #[t, t] ty' #[.slice A l.length l.length, .slice (some ⟨b, o, none⟩) ys.length q']).run P w = .ok (.slice (some ⟨w.heap.size, 0, none⟩) (l.length + ys.length) (grownCap w (l.length + ys.length) old e))
        (w.drew.alloc (.cells ((l.flatMap enc).toArray ++ (ys.flatMap enc).toArray ++ Builtin.zeroCells z.cells (grownCap w (l.length + ys.length) old e - (l.length + ys.length))) e)) := by
    by_cases hl0 : 0 < l.length
    · obtain ⟨b1, o1, hA, hc1⟩ := (hl.at hK hw).at_ hl0
      subst hA
      have hold := cellsOf hl b1 o1 rfl hc1
      exact ⟨l.length, run_append_grow (P := P) w t ty' e i0 z ht.sl e1 e2 ⟨b1, o1, none⟩ l.length l.length (l.flatMap enc) hll hold ⟨b, o, none⟩ ys.length q' (ys.flatMap enc) hly hnew (by omega) (by omega) (growslice_fits (by omega) hb)⟩
    · have hl1 : l = [] := List.eq_nil_of_length_eq_zero (by omega)
      subst hl1
      cases A with
      | none =>
        refine ⟨0, ?_⟩
        have := run_append_nil (P := P) w t ty' e i0 z ht.sl e1 e2 ⟨b, o, none⟩ ys.length q' (ys.flatMap enc) hly hnew hn (by simp at h63; omega) (by simp only [List.length_nil, Nat.zero_add] at hb; omega)
        simpa using this
      | some a1 =>
        refine ⟨0, ?_⟩
        have := run_append_grow (P := P) w t ty' e i0 z ht.sl e1 e2 a1 0 0 [] (by simp) (fun j u hj => by simp at hj) ⟨b, o, none⟩ ys.length q' (ys.flatMap enc) hly hnew (by omega) (by simp at h63; omega) (growslice_fits (by omega) (by simpa using hb))
        simpa using this
  obtain ⟨old, hr⟩ := main
  have hrun : (execOp a.eval ⟨some d, .call ⟨.builtin .append, #[s, x], #[t, t]⟩, ty', pos, after, guard⟩).run P w = .ok (.value (.slice (some ⟨w.heap.size, 0, none⟩) (l.length + ys.length) (grownCap w (l.length + ys.length) old e)))
      (w.drew.alloc (.cells ((l.flatMap enc).toArray ++ (ys.flatMap enc).toArray ++ Builtin.zeroCells z.cells (grownCap w (l.length + ys.length) old e - (l.length + ys.length))) e)) := by
    simp [execOp, resolve, invoke, builtin, ha.eval hs, ha.eval hx, hr]
  simp only [Oper.wp, hrun, Oper.upon_value]
  have hlq : l.length + ys.length = (l ++ ys).length := by rw [List.length_append]
  have hge := grownCap_ge w (l.length + ys.length) old e
  have hcm : grownCap w (l.length + ys.length) old e ≤ maxLen := grownCap_le_maxLen w (l.length + ys.length) old e (by unfold maxLen; omega)
  have hwd : Heap L w.drew := hw.ext ⟨⟨rfl, rfl, rfl, Nat.le_refl _, fun _ _ => rfl⟩, Nat.le_succ _⟩
  have hh := hwd.allocF (.cells ((l.flatMap enc).toArray ++ (ys.flatMap enc).toArray ++ Builtin.zeroCells z.cells (grownCap w (l.length + ys.length) old e - (l.length + ys.length))) e)
  have hk := k (some ⟨w.heap.size, 0, none⟩) (grownCap w (l.length + ys.length) old e)
  rw [← hlq] at hk
  refine hk _ _ (ha.put hd) ⟨fun x hx => ?_, ?_⟩
  · rcases List.mem_cons.1 hx with rfl | hx
    · refine ⟨by rw [List.flatMap_append]; exact hlen, .inr ⟨w.heap.size, _, _, rfl, Nat.zero_le _, heap_alloc_new w.drew _, hge, hcm, ?_, ?_⟩⟩
      · simp only [Array.size_append, List.size_toArray, size_zeroCells, e5, hll, hly, ← Nat.add_mul]
        congr 1
        omega
      · rw [List.flatMap_append]
        simp only [Array.toList_append, List.append_assoc]
        rw [← List.append_assoc, ← hlen]
        exact List.take_left
    · exact hh.ok x (List.mem_cons_of_mem _ hx)
  · have hp := hh.sep
    rw [List.pairwise_cons] at hp ⊢
    refine ⟨fun x hx => ⟨fun g hg => (hp.1 x hx).1 g (by have hg : w.heap.size = g := hg; subst hg; exact List.mem_singleton.2 rfl), fun g hg => ⟨Nat.zero_le _, fun hb => ((hp.1 x hx).2 g hg).2 (by have hb : w.heap.size = g := hb; subst hb; exact List.mem_singleton.2 rfl)⟩⟩, hp.2⟩
end
end Go.Proofs.YtlkgeeppfifeeaaGreat
