/- Function values with captures; arrays as slices. -/
import Derived.Test.YtlkgeeppfifeeaaGreatSortH
namespace Go.Proofs.YtlkgeeppfifeeaaGreat
open Go Go.RowKit
theorem SetE.perm {L i e e' L'} (h : SetE L i e e' L') : ∃ Lr, L.Perm (e :: Lr) ∧ L'.Perm (e' :: Lr) := by
  induction h with
  | @here e e' L => exact ⟨L, List.Perm.refl _, List.Perm.refl _⟩
  | @there x L i e e' L' _ ih =>
    obtain ⟨Lr, h1, h2⟩ := ih
    exact ⟨x :: Lr, (h1.cons x).trans (List.Perm.swap _ _ _), (h2.cons x).trans (List.Perm.swap _ _ _)⟩
section
variable {P : Program} {n : Nat} {fr : List (Nat × Value)} {L : List Ent}
variable {dst : Option Tmp} {ty : TypeId} {pos : String} {after : Array Edge} {guard : Option (Nat × Bool)}
theorem Ev_arrS {t m sz} {x : Operand} {g o : Nat} (hx : evo fr x = some (.pointer (some ⟨g, o, none⟩))) (ht : ArrOf P t m sz) (hm : Nat.beq m 0 = false) : Ev P n ⟨dst, .slice t x none none none, ty, pos, after, guard⟩ fr L (.slice (some ⟨g, o, none⟩) m m) := fun a w ha _ => by
  obtain ⟨e, hu, hs⟩ := ht
  have hm' : m ≠ 0 := Nat.ne_of_beq_eq_false hm
  simp [execOp, ha.eval hx, Instr.sliceAt, run_underlying hu, Instr.sureAddr, Instr.sliceBounds, hs, hm', Addr.add_lit]
end
/-- Which operation comes now. -/
theorem P_at {P : Program} {n : Nat} {ops : Array Oper} {Q : Exit → Act → World → Prop} {cls : Cls} {A : List (List Nat)} {RL : List Nat} {R : World → Prop} {p alt : Plan} {fr : List (Nat × Value)} {L : List Ent} (i : Nat) (k : T n (wpPlanR P ops Q cls A RL R (.e i p alt)) fr L) : T n (wpPlanR P ops Q cls A RL R (.e i p alt)) fr L := k
end Go.Proofs.YtlkgeeppfifeeaaGreat
