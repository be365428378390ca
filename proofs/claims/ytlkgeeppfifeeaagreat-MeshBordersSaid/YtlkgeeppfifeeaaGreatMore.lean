/- Ghost steps of the judgement T: cases, cuts, elements of slices. -/
import Derived.Test.YtlkgeeppfifeeaaGreatDraw
import Derived.LoopN
namespace Go.Proofs.YtlkgeeppfifeeaaGreat
open Go Go.RowKit

section
variable {P : Program} {n : Nat} {N : Act → World → Prop} {Q : Exit → Act → World → Prop} {fr : List (Nat × Value)} {L : List Ent}

theorem Fr.known {a s v} (h : Fr n fr a) (hs : look fr s = some v) : Fr n ((s, v) :: fr) a := by
  refine ⟨h.nod, h.size, fun t u hu => ?_⟩
  simp only [look] at hu
  cases hb : Nat.beq s t with
  | true =>
    rw [hb] at hu
    have e := Nat.eq_of_beq_eq_true hb
    subst e
    simp only [cond_true, Option.some.injEq] at hu
    subst hu
    exact h.val _ _ hs
  | false => rw [hb] at hu; exact h.val t u hu
theorem T_caseB {s : Nat} {b : Bool} (hs : look fr s = some (.bool b)) (ht : b = true → T n N ((s, .bool true) :: fr) L) (hf : b = false → T n N ((s, .bool false) :: fr) L) : T n N fr L := by
  intro a w ha hw
  cases b with
  | true => exact ht rfl a w (ha.known hs) hw
  | false => exact hf rfl a w (ha.known hs) hw
theorem T_caseP {s : Nat} {p : Prop} [Decidable p] (hs : look fr s = some (.bool (decide p))) (ht : p → T n N ((s, .bool true) :: fr) L) (hf : ¬ p → T n N ((s, .bool false) :: fr) L) : T n N fr L :=
  T_caseB hs (fun h => ht (of_decide_eq_true h)) (fun h => hf (of_decide_eq_false h))
theorem T_caseNB {s : Nat} {b : Bool} (hs : look fr s = some (.bool (!b))) (ht : b = false → T n N ((s, .bool true) :: fr) L) (hf : b = true → T n N ((s, .bool false) :: fr) L) : T n N fr L :=
  T_caseB hs (fun h => ht (by simpa using h)) (fun h => hf (by simpa using h))
theorem T_caseNP {s : Nat} {p : Prop} [Decidable p] (hs : look fr s = some (.bool (!decide p))) (ht : ¬ p → T n N ((s, .bool true) :: fr) L) (hf : p → T n N ((s, .bool false) :: fr) L) : T n N fr L :=
  T_caseNB hs (fun h => ht (of_decide_eq_false h)) (fun h => hf (of_decide_eq_true h))

/-! how exits pass -/
theorem T_outX {K : Act → World → Prop} {id : Nat} (k : T n (Q (.exit id)) fr L) : T n (Exit.then K Q (.exit id)) fr L := k
theorem T_outR {K : Act → World → Prop} (k : T n (Q .ret) fr L) : T n (Exit.then K Q .ret) fr L := k
theorem T_inR {id : Nat} (k : T n (Q .ret) fr L) : T n (Exit.inBlock id Q .ret) fr L := k
theorem T_inN {id : Nat} (k : T n (Q .normal) fr L) : T n (Exit.inBlock id Q .normal) fr L := k

/-- What a slot holds may be written otherwise. -/
theorem T_slot {s : Nat} {v v' : Value} (hs : look fr s = some v) (he : v = v') (k : T n N ((s, v') :: fr) L) : T n N fr L := fun a w ha hw => k a w (ha.known (by rw [hs, he])) hw
/-- So may an entry. -/
theorem SetE.same {i : Nat} {e e' : Ent} {L L'} (hL : SetE L i e e' L') : e = e' → L' = L := by
  induction hL with
  | here => intro h; rw [h]
  | there _ ih => intro h; rw [ih h]
theorem T_ent {i : Nat} {e e' : Ent} {L'} (hL : SetE L i e e' L') (he : e = e') (k : T n N fr L') : T n N fr L := by
  rw [hL.same he] at k; exact k
/-- A row of nothing, of no block. -/
theorem Ent.ok_none (w : World) (t : TypeId) (sz : Nat) : Ent.ok w (.r none 0 0 t sz []) := ⟨by simp, .inl ⟨rfl, rfl⟩⟩
theorem T_none (t : TypeId) (sz : Nat) (k : T n N fr (.r none 0 0 t sz [] :: L)) : T n N fr L := by
  intro a w ha hw
  refine k a w ha ⟨fun e he => ?_, ?_⟩
  · rcases List.mem_cons.1 he with rfl | he
    · exact Ent.ok_none w t sz
    · exact hw.ok e he
  · rw [List.pairwise_cons]
    exact ⟨fun x hx => ⟨fun g hg => (by cases hg), fun g hg => ⟨Nat.zero_le _, fun h => (by cases h)⟩⟩, hw.sep⟩
end
end Go.Proofs.YtlkgeeppfifeeaaGreat
