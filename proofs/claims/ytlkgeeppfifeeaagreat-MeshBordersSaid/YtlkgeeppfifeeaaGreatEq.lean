/- Equality of structs; a row with no element but room. -/
import Derived.Test.YtlkgeeppfifeeaaGreatMem
import Derived.Laws.StructEq
namespace Go.Proofs.YtlkgeeppfifeeaaGreat
open Go Go.RowKit
variable {P : Program} {n : Nat} {fr : List (Nat × Value)} {L : List Ent} {dst : Option Nat} {ty : TypeId} {pos : String} {after : Array Edge} {guard : Option (Nat × Bool)}

inductive EqF (P : Program) (d : Nat) (xs ys : Array Value) : List Field → Bool → Prop
  | nil : EqF P d xs ys [] true
  | cons {f fs a b r r'} (hn : (f.name == "_") = false) (hx : ∀ w, (part f.type xs f.offset).run P w = .ok a w) (hy : ∀ w, (part f.type ys f.offset).run P w = .ok b w)
      (he : ∀ w, (Op.equalIn d f.type a b).run P w = .ok r w) (h : EqF P d xs ys fs r') : EqF P d xs ys (f :: fs) (r && r')
theorem EqF.run {d xs ys fs r} (h : EqF P d xs ys fs r) : ∀ w, (Op.eqFields d xs ys fs).run P w = .ok r w := by
  induction h with
  | nil => intro w; simp [Op.eqFields]
  | cons hn hx hy he _ ih =>
    intro w
    rename_i f fs a b r r' _
    have hn' : f.name ≠ "_" := by simpa using hn
    simp only [Op.eqFields, hn', ne_eq, not_false_eq_true, if_true, Sem.run_bind, hx, hy, he, Result.andThen_ok]
    cases r with
    | true => simp [ih w]
    | false => simp
theorem EqF.struct {d t xs ys r fs} (ht : P.underlying t = some (.struct fs)) (hp : P.stoodInHeld t = false) (h : EqF P d xs ys fs.toList r) : ∀ w, (Op.equalIn (d + 1) t (.agg xs) (.agg ys)).run P w = .ok r w := by
  intro w
  have hf : P.fieldsOf t = fs := by simp [Program.fieldsOf, ht]
  rw [run_equalIn_struct w d t xs ys (by rw [hf]; exact ht) hp, hf]
  exact h.run w
theorem Ev_eqlS {t t' x y xs ys r} (hx : evo fr x = some (.agg xs)) (hy : evo fr y = some (.agg ys)) (hm : P.eqGuardType P.depth t = false) (h : ∀ w, (Op.equalIn 10000 t (.agg xs) (.agg ys)).run P w = .ok r w) :
    Ev P n ⟨dst, .binOp .eql t x y t', ty, pos, after, guard⟩ fr L (.bool r) := fun ac w ha _ => by
  simp [execOp, ha.eval hx, ha.eval hy, run_eqGuard_agg w .eql t x y xs ys hm, run_eql_struct, h]
theorem Ev_neqS {t t' x y xs ys r} (hx : evo fr x = some (.agg xs)) (hy : evo fr y = some (.agg ys)) (hm : P.eqGuardType P.depth t = false) (h : ∀ w, (Op.equalIn 10000 t (.agg xs) (.agg ys)).run P w = .ok r w) :
    Ev P n ⟨dst, .binOp .neq t x y t', ty, pos, after, guard⟩ fr L (.bool (!r)) := fun ac w ha _ => by
  simp [execOp, ha.eval hx, ha.eval hy, run_eqGuard_agg w .neq t x y xs ys hm, run_neq_struct, h]
/-! ### operations behind a test that was not reached itself -/
section
variable {ops : Array Oper} {Q : Exit → Act → World → Prop} {rest : List Oper} {op : Op} {d : Nat} {cls : Cls} {A : List (List Nat)} {RL : List Nat} {R : World → Prop} {p alt : Plan} {i : Nat}
theorem unwanted_of {j s : Nat} {b : Bool} {a : Act} (hj : (ops[j]?).bind (·.dst) = some s) (ha : Fr n fr a) (hs : look fr s = some undef) (hsn : Nat.blt s n = true) :
    Region.wanted ⟨some d, op, ty, pos, after, some (j, b)⟩ (yielded ops a.tmps) = false := by
  have hv := ha.val s _ hs
  have hlt : s < a.tmps.size := by rw [ha.size]; exact (Nat.blt_eq ▸ hsn)
  have hg : a.tmps[s]? = some undef := by
    rw [Array.getD_eq_getD_getElem?, Array.getElem?_eq_getElem hlt] at hv
    rw [Array.getElem?_eq_getElem hlt]
    simpa using hv
  have hy : yielded ops a.tmps j = none := by
    unfold yielded
    rw [hj]
    simp [hg, undef]
  simp [Region.wanted, hy]
theorem T_skipU {j s : Nat} {b : Bool} (hj : (ops[j]?).bind (·.dst) = some s) (hs : look fr s = some undef) (hsn : Nat.blt s n = true)
    (hd : Nat.blt d n = true) (k : T n (wpList P ops Q rest) ((d, undef) :: fr) L) :
    T n (wpList P ops Q (⟨some d, op, ty, pos, after, some (j, b)⟩ :: rest)) fr L := by
  intro a w ha hw
  refine wpList_step (fun K hK => ?_)
  rw [if_neg (by rw [unwanted_of hj ha hs hsn]; simp)]
  exact hK _ _ (k _ _ (ha.put hd) hw)
end
end Go.Proofs.YtlkgeeppfifeeaaGreat
