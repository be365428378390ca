/- Maps of the call's own, as lists of what was put (the latest first); values of arrays at an index. -/
import Derived.Test.YtlkgeeppfifeeaaGreatFlow6
import Derived.Maps.OwnSet
import Derived.Maps.Views
import Derived.DeepKeys4
namespace Go.Proofs.YtlkgeeppfifeeaaGreat
open Go Go.RowKit
open Go.Maps (Keyed)
/-! ### an array's value at an index -/
/-! ### maps -/
/-- A value, read as itself. -/
def RV (v : Value) : Option (DataW Value × List MemPlace) := some (.held v, [])
noncomputable def klOf (P : Program) (k : TypeId) (v : Value) : Lit := (keyOf P k v).getD (.bool true)
theorem klOf_some {P : Program} {k : TypeId} {v : Value} (h : (keyOf P k v).isSome = true) : keyOf P k v = some (klOf P k v) := by
  unfold klOf
  cases hk : keyOf P k v with
  | none => rw [hk] at h; cases h
  | some l => rfl
section
variable {κ υ : Type}
noncomputable def mapD (P : Program) (k : TypeId) (ke : κ → Value) (ve : υ → Value) : List (κ × υ) → DataW Value
  | [] => .map []
  | p :: r => (mapD P k ke ve r).put (klOf P k (ke p.1)) (.held (ve p.2))
open Classical in
/-- What a map holds at a key. -/
noncomputable def mget (m : List (κ × υ)) (x : κ) : Option υ := match m with
  | [] => none
  | p :: r => if p.1 = x then some p.2 else mget r x
open Classical in
theorem mget_cons {p : κ × υ} {r : List (κ × υ)} {x : κ} : mget (p :: r) x = if p.1 = x then some p.2 else mget r x := rfl
def mval (ve : υ → Value) (z : Value) : Option υ → Value
  | some v => ve v
  | none => z
/-- The block b holds a map in which the pairs m have been put. -/
def MapIs (P : Program) (k : TypeId) (ke : κ → Value) (ve : υ → Value) (b : Nat) (m : List (κ × υ)) (w : World) : Prop :=
  (∀ p ∈ m, (keyOf P k (ke p.1)).isSome = true) ∧ w.ownsMap P k RV b m.length (mapD P k ke ve m)
variable {P : Program} {k : TypeId} {ke : κ → Value} {ve : υ → Value} {b : Nat} {m : List (κ × υ)}
theorem MapIs.still {w w' : World} (h : MapIs P k ke ve b m w) (hb : w'.heap[b]? = w.heap[b]?) : MapIs P k ke ve b m w' := by
  obtain ⟨h1, es, clock, h2, h3⟩ := h
  exact ⟨h1, es, clock, by rw [hb]; exact h2, h3⟩
theorem mapD_isMap : ∀ {m : List (κ × υ)}, Maps.IsMap (mapD P k ke ve m)
  | [] => ⟨_, rfl⟩
  | p :: r => by
    obtain ⟨es, h⟩ := mapD_isMap (m := r)
    unfold mapD
    rw [h]
    exact ⟨_, rfl⟩
theorem mapD_look (K : Keyed P k) (hke : ∀ x y, ke x = ke y → x = y) {x : κ} (hx : (keyOf P k (ke x)).isSome = true) (z : Value) :
    ∀ {m : List (κ × υ)}, (∀ p ∈ m, (keyOf P k (ke p.1)).isSome = true) → (mapD P k ke ve m).atKey (klOf P k (ke x)) (.held z) = .held (mval ve z (mget m x)) ∧ Maps.has (mapD P k ke ve m) (klOf P k (ke x)) = (mget m x).isSome
  | [], _ => ⟨rfl, rfl⟩
  | p :: r, h => by
    have ih := mapD_look K hke hx z (m := r) (fun q hq => h q (List.mem_cons_of_mem _ hq))
    have hp := klOf_some (h p List.mem_cons_self)
    have hxs := klOf_some hx
    unfold mapD
    by_cases he : p.1 = x
    · rw [mget_cons, if_pos he, he]
      exact ⟨Maps.atKey_put_same mapD_isMap (K.key hxs) _ _, Maps.has_put_same mapD_isMap (K.key hxs) _⟩
    · have hne : klOf P k (ke x) ≠ klOf P k (ke p.1) := fun e => he (hke _ _ (K.inj hp (by rw [hxs, e])))
      rw [mget_cons, if_neg he, Maps.atKey_put_other hne, Maps.has_put_other hne]
      exact ih
section
variable {n : Nat} {fr : List (Nat × Value)} {L : List Ent} {N : Act → World → Prop} {Q : Exit → Act → World → Prop} {d : Nat} {dst : Option Tmp} {ty : TypeId} {pos : String} {after : Array Edge} {guard : Option (Nat × Bool)}
theorem mem_nthE {L : List Ent} {i : Nat} {e : Ent} (h : nthE L i = some e) : e ∈ L := by
  induction L generalizing i with
  | nil => simp [nthE] at h
  | cons x r ih =>
    cases i with
    | zero => simp [nthE] at h; subst h; exact List.mem_cons_self
    | succ i => exact List.mem_cons_of_mem _ (ih h)
theorem mval_getD {o : Option υ} {z0 u : υ} (h : some (o.getD z0) = some u) : mval ve (ve z0) o = ve u := by
  obtain rfl := Option.some.inj h
  cases o <;> rfl
end
end
theorem wf_i64 {z : Int} (h : -9223372036854775808 ≤ z ∧ z ≤ 9223372036854775807) : (Lit.int .i64 z).wf = true := by
  have h1 : IntKind.i64.min = -9223372036854775808 := rfl
  have h2 : IntKind.i64.max = 9223372036854775807 := rfl
  simp only [Lit.wf, Bool.and_eq_true, decide_eq_true_eq]
  omega
theorem mapM_isSome {α β : Type} {g : α → Option β} : ∀ (l : List α), (∀ x ∈ l, (g x).isSome = true) → (l.mapM g).isSome = true
  | [], _ => rfl
  | x :: r, h => by
    have h1 := h x List.mem_cons_self
    have ih := mapM_isSome r (fun y hy => h y (List.mem_cons_of_mem _ hy))
    rw [List.mapM_cons]
    cases hx : g x with
    | none => rw [hx] at h1; cases h1
    | some y =>
      cases hr : r.mapM g with
      | none => rw [hr] at ih; cases ih
      | some ys => rfl
/-- A struct of integers is a key. -/
theorem isk_struct {P : Program} {k : TypeId} {fs : Array Field} {cs : List Value} {d : Nat} (hd : P.types.size = d + 1) (hu : P.underlying k = some (.struct fs)) (hk : P.keyType k = true) (hc : cs.length = P.cellsOf k) (hn : fs.all (·.name != "_") = true)
    (hf : ∀ f ∈ fs.toList, ∃ q n, P.underlying f.type = some (.int q) ∧ (cs.drop f.offset).take (P.cellsOf f.type) = [.int q n] ∧ (Lit.int q n).wf = true) : (keyOf P k (.agg cs.toArray)).isSome = true := by
  unfold keyOf
  rw [hu]
  have hfm : (Value.agg cs.toArray).formed P k = true := by simp [Value.formed, hu, hc]
  simp only [hk, hfm, Bool.and_self, if_true, Option.isSome_map]
  have hcl : (Value.agg cs.toArray).cells.toList = cs := by simp [Value.cells]
  rw [hcl, hd]
  unfold Program.keyLits
  simp only [hu]
  rw [if_pos ⟨hc, hn⟩, Option.isSome_map]
  refine mapM_isSome _ fun f hfm => ?_
  obtain ⟨q, n, h1, h2, h3⟩ := hf f hfm
  rw [h2]
  unfold Program.keyLits
  simp [h1, h3]
end Go.Proofs.YtlkgeeppfifeeaaGreat
