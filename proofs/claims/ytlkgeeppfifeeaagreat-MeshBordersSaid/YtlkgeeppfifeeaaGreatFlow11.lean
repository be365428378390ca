/- Arrays: places of their elements, their equality, arrays as keys of maps. -/
import Derived.Test.YtlkgeeppfifeeaaGreatFlow10
import Derived.ChangeKeysEq
import Derived.DeepKeys
namespace Go.Proofs.YtlkgeeppfifeeaaGreat
open Go Go.RowKit
section
variable {P : Program} {n : Nat} {N : Act → World → Prop} {Q : Exit → Act → World → Prop} {fr : List (Nat × Value)} {L : List Ent}
variable {dst : Option Tmp} {ty : TypeId} {pos : String} {after : Array Edge} {guard : Option (Nat × Bool)}
theorem AggOf.arr {t k m e i} (hu : P.underlying t = some (.array m e)) (hi : P.info? t = some i) (hk : i.size = k) : AggOf P t k := by
  refine ⟨fun w => ?_, fun w => by simp [sizeOf, typeInfo, hi, hk]⟩
  simp [isAgg, run_underlying hu]
/-- The type is an array of m elements of sz cells. -/
def ArrOf (P : Program) (t : TypeId) (m sz : Nat) : Prop := ∃ e, P.underlying t = some (.array m e) ∧ ∀ w, (sizeOf e).run P w = .ok sz w
theorem ArrOf.mk {t m e sz i} (hu : P.underlying t = some (.array m e)) (hi : P.info? e = some i) (hk : i.size = sz) : ArrOf P t m sz :=
  ⟨e, hu, fun w => by simp [sizeOf, typeInfo, hi, hk]⟩
theorem Ev_indexP {t x ix g o k m sz} {z : Int} (hx : evo fr x = some (.pointer (some ⟨g, o, none⟩))) (hi : evo fr ix = some (.int k z)) (ht : ArrOf P t m sz) (h0 : 0 ≤ z) (h1 : z < (m : Int)) {off : Nat} (ho : z.toNat * sz = off) :
    Ev P n ⟨dst, .indexAddr t x ix, ty, pos, after, guard⟩ fr L (.pointer (some ⟨g, o + off, none⟩)) := fun a w ha _ => by
  obtain ⟨e, hu, hs⟩ := ht
  subst ho
  simp [execOp, ha.eval hx, ha.eval hi, Instr.indexAt, asIntOf, run_underlying hu, Instr.sureAddr, h0, h1, hs, Addr.add_lit]
/-- The value of an array of arrays of cells at an index. -/
def IndexVS (P : Program) (t : TypeId) (xs ys : List Value) : Prop := ∀ (j : Nat) (h : j < ys.length) (k : IntKind) (w : World), (Instr.index t (.agg xs.toArray) (.int k (j : Int))).run P w = .ok ys[j] w
theorem Ev_indexAS {α : Type} {f : α → Value} {t : TypeId} {x i : Operand} {k : IntKind} {xs zs : List Value} {ys : List α} {z : Int} {v : α}
    (hx : evo fr x = some (.agg xs.toArray)) (hzs : zs = ys.map f) (hi : evo fr i = some (.int k z)) (hV : IndexVS P t xs zs) (hz : idx ys z = some v) {v' : Value} (hv : f v = v') : Ev P n ⟨dst, .index t x i, ty, pos, after, guard⟩ fr L v' := fun a w ha _ => by
  subst hzs; subst hv
  unfold idx at hz
  split at hz
  · rename_i h0
    obtain ⟨hlt, he⟩ := List.getElem?_eq_some_iff.1 hz
    have := hV z.toNat (by simpa using hlt) k w
    rw [Int.toNat_of_nonneg h0] at this
    simp only [execOp, ha.eval hx, ha.eval hi, this, Sem.run_bind, Result.andThen, List.getElem_map, he]
    rfl
  · cases hz
/-! ### loads at an index that is computed -/
end
section
variable {P : Program}
/-! ### equality of arrays -/
inductive EqI (P : Program) (d : Nat) (e : TypeId) (c : Nat) (xs ys : Array Value) : List Nat → Bool → Prop
  | nil : EqI P d e c xs ys [] true
  | cons {i is a b r r'} (hx : ∀ w, (part e xs (i * c)).run P w = .ok a w) (hy : ∀ w, (part e ys (i * c)).run P w = .ok b w)
      (he : ∀ w, (Op.equalIn d e a b).run P w = .ok r w) (h : EqI P d e c xs ys is r') : EqI P d e c xs ys (i :: is) (r && r')
theorem EqI.run {d e c xs ys is r} (h : EqI P d e c xs ys is r) : ∀ w, (Op.eqItems d e c xs ys is).run P w = .ok r w := by
  induction h with
  | nil => intro w; simp [Op.eqItems]
  | cons hx hy he _ ih =>
    intro w
    rename_i i is a b r r' _
    simp only [Op.eqItems, Sem.run_bind, hx, hy, he, Result.andThen_ok]
    cases r with
    | true => simp [ih w]
    | false => simp
theorem EqI.array {d t e m c xs ys r i} (hu : P.underlying t = some (.array m e)) (hi : P.info? e = some i) (hc : P.cellsOf e = c) (h : EqI P d e c xs ys (List.range m) r) : ∀ w, (Op.equalIn (d + 1) t (.agg xs) (.agg ys)).run P w = .ok r w := by
  intro w
  subst hc
  rw [run_equalIn_array w d xs ys hu hi]
  exact h.run w
/-! ### an array of integers is a key -/
theorem isk_array {k : TypeId} {m e d : Nat} {q : IntKind} {zs : List Int} (hd : P.types.size = d + 1) (hu : P.underlying k = some (.array m e)) (hk : P.keyType k = true) (hc : zs.length = m) (he : P.underlying e = some (.int q)) (h1 : P.cellsOf e = 1) (hm : P.cellsOf k = m)
    (hf : ∀ z ∈ zs, (Lit.int q z).wf = true) : (keyOf P k (.agg (zs.map (Value.int q)).toArray)).isSome = true := by
  unfold keyOf
  rw [hu]
  have hfm : (Value.agg (zs.map (Value.int q)).toArray).formed P k = true := by simp [Value.formed, hu, hm, hc]
  simp only [hk, hfm, Bool.and_self, if_true, Option.isSome_map]
  have hcl : (Value.agg (zs.map (Value.int q)).toArray).cells.toList = zs.map (Value.int q) := by simp [Value.cells]
  rw [hcl, hd]
  unfold Program.keyLits
  simp only [hu]
  rw [if_pos (by simp [hm, hc]), Option.isSome_map]
  refine mapM_isSome _ fun i hi => ?_
  rw [List.mem_range] at hi
  rw [h1, Nat.mul_one]
  have hlt : i < zs.length := by omega
  have : ((zs.map (Value.int q)).drop i).take 1 = [.int q zs[i]] := by
    rw [List.drop_eq_getElem_cons (by simpa using hlt)]
    simp
  rw [this]
  unfold Program.keyLits
  simp [he, hf zs[i] (List.getElem_mem hlt)]
end
end Go.Proofs.YtlkgeeppfifeeaaGreat
