/- Maps of the call's own, as lists of what was put (the latest first); values of arrays at an index. -/
import Derived.Test.YtlkgeeppfifeeaaGreatFlow6
import Derived.Maps.OwnSet
import Derived.Maps.Views
import Derived.DeepKeys4
namespace Go.Proofs.YtlkgeeppfifeeaaGreat
open Go Go.RowKit
open Go.Maps (Keyed)
/-! ### an array's value at an index -/
def IndexV (P : Program) (t : TypeId) (xs : List Value) : Prop := ∀ (j : Nat) (h : j < xs.length) (k : IntKind) (w : World), (Instr.index t (.agg xs.toArray) (.int k (j : Int))).run P w = .ok xs[j] w
theorem Ev_indexA {P : Program} {n : Nat} {fr : List (Nat × Value)} {L : List Ent} {dst : Option Tmp} {ty : TypeId} {pos : String} {after : Array Edge} {guard : Option (Nat × Bool)} {t : TypeId} {x i : Operand} {kd k : IntKind} {xs : List Value} {ys : List Int} {z v : Int}
    (hx : evo fr x = some (.agg xs.toArray)) (hxs : xs = ys.map (Value.int kd)) (hi : evo fr i = some (.int k z)) (hV : IndexV P t xs) (hz : idx ys z = some v) : Ev P n ⟨dst, .index t x i, ty, pos, after, guard⟩ fr L (.int kd v) := fun a w ha _ => by
  subst hxs
  unfold idx at hz
  split at hz
  · rename_i h0
    obtain ⟨hlt, he⟩ := List.getElem?_eq_some_iff.1 hz
    have := hV z.toNat (by simpa using hlt) k w
    rw [Int.toNat_of_nonneg h0] at this
    simp only [execOp, ha.eval hx, ha.eval hi, this, Sem.run_bind, Result.andThen, List.getElem_map, he]
    rfl
  · cases hz
/-! ### maps -/
/-- A value, read as itself. -/
def RV (v : Value) : Option (DataW Value × List MemPlace) := some (.held v, [])
noncomputable def klOf (P : Program) (k : TypeId) (v : Value) : Lit := (keyOf P k v).getD (.bool true)
theorem klOf_some {P : Program} {k : TypeId} {v : Value} (h : (keyOf P k v).isSome = true) : keyOf P k v = some (klOf P k v) := by
  unfold klOf
  cases hk : keyOf P k v with
  | none => rw [hk] at h; cases h
  | some l => rfl
section
variable {κ υ : Type}
noncomputable def mapD (P : Program) (k : TypeId) (ke : κ → Value) (ve : υ → Value) : List (κ × υ) → DataW Value
  | [] => .map []
  | p :: r => (mapD P k ke ve r).put (klOf P k (ke p.1)) (.held (ve p.2))
open Classical in
/-- What a map holds at a key. -/
noncomputable def mget (m : List (κ × υ)) (x : κ) : Option υ := match m with
  | [] => none
  | p :: r => if p.1 = x then some p.2 else mget r x
theorem mget_nil {x : κ} : mget ([] : List (κ × υ)) x = none := rfl
open Classical in
theorem mget_cons {p : κ × υ} {r : List (κ × υ)} {x : κ} : mget (p :: r) x = if p.1 = x then some p.2 else mget r x := rfl
theorem mget_same {x : κ} {v : υ} {r : List (κ × υ)} : mget ((x, v) :: r) x = some v := if_pos rfl
theorem mget_other {x y : κ} {v : υ} {r : List (κ × υ)} (h : y ≠ x) : mget ((y, v) :: r) x = mget r x := if_neg h
def mval (ve : υ → Value) (z : Value) : Option υ → Value
  | some v => ve v
  | none => z
/-- The block b holds a map in which the pairs m have been put. -/
def MapIs (P : Program) (k : TypeId) (ke : κ → Value) (ve : υ → Value) (b : Nat) (m : List (κ × υ)) (w : World) : Prop :=
  (∀ p ∈ m, (keyOf P k (ke p.1)).isSome = true) ∧ w.ownsMap P k RV b m.length (mapD P k ke ve m)
def mapE (P : Program) (k : TypeId) (ke : κ → Value) (ve : υ → Value) (b : Nat) (m : List (κ × υ)) : Ent := .f [b] (MapIs P k ke ve b m)
variable {P : Program} {k : TypeId} {ke : κ → Value} {ve : υ → Value} {b : Nat} {m : List (κ × υ)}
theorem MapIs.still {w w' : World} (h : MapIs P k ke ve b m w) (hb : w'.heap[b]? = w.heap[b]?) : MapIs P k ke ve b m w' := by
  obtain ⟨h1, es, clock, h2, h3⟩ := h
  exact ⟨h1, es, clock, by rw [hb]; exact h2, h3⟩
theorem mapE_ok {w : World} (h : MapIs P k ke ve b m w) : Ent.ok w (mapE P k ke ve b m) :=
  ⟨fun g hg => by simp at hg; subst hg; exact h.2.lt, h, fun w1 w2 h1 h2 => h1.still (h2 b (by simp))⟩
theorem mapD_isMap : ∀ {m : List (κ × υ)}, Maps.IsMap (mapD P k ke ve m)
  | [] => ⟨_, rfl⟩
  | p :: r => by
    obtain ⟨es, h⟩ := mapD_isMap (m := r)
    unfold mapD
    rw [h]
    exact ⟨_, rfl⟩
theorem mapD_look (K : Keyed P k) (hke : ∀ x y, ke x = ke y → x = y) {x : κ} (hx : (keyOf P k (ke x)).isSome = true) (z : Value) :
    ∀ {m : List (κ × υ)}, (∀ p ∈ m, (keyOf P k (ke p.1)).isSome = true) → (mapD P k ke ve m).atKey (klOf P k (ke x)) (.held z) = .held (mval ve z (mget m x)) ∧ Maps.has (mapD P k ke ve m) (klOf P k (ke x)) = (mget m x).isSome
  | [], _ => ⟨rfl, rfl⟩
  | p :: r, h => by
    have ih := mapD_look K hke hx z (m := r) (fun q hq => h q (List.mem_cons_of_mem _ hq))
    have hp := klOf_some (h p List.mem_cons_self)
    have hxs := klOf_some hx
    unfold mapD
    by_cases he : p.1 = x
    · rw [mget_cons, if_pos he, he]
      exact ⟨Maps.atKey_put_same mapD_isMap (K.key hxs) _ _, Maps.has_put_same mapD_isMap (K.key hxs) _⟩
    · have hne : klOf P k (ke x) ≠ klOf P k (ke p.1) := fun e => he (hke _ _ (K.inj hp (by rw [hxs, e])))
      rw [mget_cons, if_neg he, Maps.atKey_put_other hne, Maps.has_put_other hne]
      exact ih
section
variable {n : Nat} {fr : List (Nat × Value)} {L : List Ent} {N : Act → World → Prop} {Q : Exit → Act → World → Prop} {d : Nat} {dst : Option Tmp} {ty : TypeId} {pos : String} {after : Array Edge} {guard : Option (Nat × Bool)}
theorem Heap.allocMap {w : World} (h : Heap L w) : Heap (mapE P k ke ve w.heap.size [] :: L) (w.alloc (.map #[] 0)) := by
  have hx := ext_alloc w (.map #[] 0)
  refine ⟨fun e he => ?_, ?_⟩
  · rcases List.mem_cons.1 he with rfl | he
    · exact mapE_ok ⟨fun p hp => by simp at hp, World.ownsMap_made w P k RV⟩
    · exact Ent.ext (h.ok e he) hx
  · rw [List.pairwise_cons]
    refine ⟨fun x hx => ⟨fun g hg => ?_, fun g hg => ⟨Nat.zero_le _, fun he => ?_⟩⟩, h.sep⟩
    · have hg : g ∈ [w.heap.size] := hg
      simp at hg
      subst hg
      exact ⟨Ent.lo_le (h.ok x hx), fun he => by have := Ent.lt (h.ok x hx) he; omega⟩
    · have he : g ∈ [w.heap.size] := he
      simp at he
      have := Ent.lt (h.ok x hx) hg; omega
theorem Wx_makeMap (P' : Program) (k : TypeId) (ke : κ → Value) (ve : υ → Value) {t : TypeId} (hd : Nat.blt d n = true) (kk : ∀ g, T n N ((d, .map (some g)) :: fr) (mapE P' k ke ve g [] :: L)) :
    Wx P Q n ⟨some d, .makeMap t none, ty, pos, after, guard⟩ fr L N := by
  intro a w ha hw
  have hrun : (execOp a.eval ⟨some d, .makeMap t none, ty, pos, after, guard⟩).run P w = .ok (.value (.map (some w.heap.size))) (w.alloc (.map #[] 0)) := by
    simp [execOp, run_makeMap]
  simp only [Oper.wp, hrun, Oper.upon_value]
  exact ⟨ext_alloc w _, kk _ _ _ (ha.put hd) hw.allocMap⟩
theorem Wx_makeMapN (P' : Program) (k : TypeId) (ke : κ → Value) (ve : υ → Value) {t kt et : TypeId} {x : Operand} {q : IntKind} {z : Int} (ht : P.underlying t = some (.map kt et)) (hx : evo fr x = some (.int q z)) (hd : Nat.blt d n = true) (kk : ∀ g, T n N ((d, .map (some g)) :: fr) (mapE P' k ke ve g [] :: L)) :
    Wx P Q n ⟨some d, .makeMap t (some x), ty, pos, after, guard⟩ fr L N := by
  intro a w ha hw
  have hrun : (execOp a.eval ⟨some d, .makeMap t (some x), ty, pos, after, guard⟩).run P w = .ok (.value (.map (some w.heap.size))) (w.alloc (.map #[] 0)) := by
    simp [execOp, Instr.makeMap, ha.eval hx, run_underlying ht, asInt, asIntOf, Result.andThen]
  simp only [Oper.wp, hrun, Oper.upon_value]
  exact ⟨ext_alloc w _, kk _ _ _ (ha.put hd) hw.allocMap⟩
theorem mem_nthE {L : List Ent} {i : Nat} {e : Ent} (h : nthE L i = some e) : e ∈ L := by
  induction L generalizing i with
  | nil => simp [nthE] at h
  | cons x r ih =>
    cases i with
    | zero => simp [nthE] at h; subst h; exact List.mem_cons_self
    | succ i => exact List.mem_cons_of_mem _ (ih h)
/-- 'v, ok := m[k]'. -/
theorem Ev_lookOk {t e : TypeId} {g : Nat} {mo ko : Operand} {x : κ} {i : Nat} {z : Value} {kv : Value} (K : Keyed P k) (ht : P.underlying t = some (.map k e)) (hz : ∀ w, (zeroValue e).run P w = .ok z w) (hke : ∀ x y, ke x = ke y → x = y)
    (hm : evo fr mo = some (.map (some g))) (hk : evo fr ko = some kv) (hkv : kv = ke x) (hL : nthE L i = some (mapE P k ke ve g m)) (hx : (keyOf P k (ke x)).isSome = true) :
    Ev P n ⟨dst, .lookup t mo ko true, ty, pos, after, guard⟩ fr L (.tuple #[mval ve z (mget m x), .bool (mget m x).isSome]) := fun a w ha hw => by
  subst hkv
  obtain ⟨_, hM, _⟩ := hw _ (mem_nthE hL)
  have hl := mapD_look (ve := ve) K hke hx z hM.1
  obtain ⟨v, ps, hrun, hv⟩ := hM.2.look_ok K ht (hz w) (zd := .held z) (zp := []) rfl (klOf_some hx)
  rw [hl.1] at hv
  rw [hl.2] at hrun
  have hvv : v = mval ve z (mget m x) := by
    have := congrArg (fun o => o.map Prod.fst) hv
    simpa [RV] using this
  rw [hvv] at hrun
  simp [execOp, ha.eval hm, ha.eval hk, hrun]
/-- 'm[k]'. -/
theorem Ev_look {t e : TypeId} {g : Nat} {mo ko : Operand} {x : κ} {i : Nat} {z : Value} {kv : Value} (K : Keyed P k) (ht : P.underlying t = some (.map k e)) (hz : ∀ w, (zeroValue e).run P w = .ok z w) (hke : ∀ x y, ke x = ke y → x = y)
    (hm : evo fr mo = some (.map (some g))) (hk : evo fr ko = some kv) (hkv : kv = ke x) (hL : nthE L i = some (mapE P k ke ve g m)) (hx : (keyOf P k (ke x)).isSome = true) :
    Ev P n ⟨dst, .lookup t mo ko false, ty, pos, after, guard⟩ fr L (mval ve z (mget m x)) := fun a w ha hw => by
  subst hkv
  obtain ⟨_, hM, _⟩ := hw _ (mem_nthE hL)
  have hl := mapD_look (ve := ve) K hke hx z hM.1
  obtain ⟨es, clock, hb, F, _, hD⟩ := hM.2
  have key : ∃ v ps, (Instr.lookup t (.map (some g)) (ke x) false).run P w = .ok v w ∧ RV v = some ((mapD P k ke ve m).atKey (klOf P k (ke x)) (.held z), ps) := by
    rw [hD]
    rcases Maps.fit_look false K ht (hz w) hb F (klOf_some hx) with ⟨hrun, _, hat⟩ | ⟨e0, y, _, _, hrun, hRv, hat, _⟩
    · exact ⟨z, [], by simpa using hrun, by rw [hat]; rfl⟩
    · exact ⟨e0.val, y.2, by simpa using hrun, by rw [hat]; exact hRv⟩
  obtain ⟨v, ps, hrun, hv⟩ := key
  rw [hl.1] at hv
  have hvv : v = mval ve z (mget m x) := by
    have := congrArg (fun o => o.map Prod.fst) hv
    simpa [RV] using this
  rw [hvv] at hrun
  simp [execOp, ha.eval hm, ha.eval hk, hrun]
theorem mval_getD {o : Option υ} {z0 u : υ} (h : some (o.getD z0) = some u) : mval ve (ve z0) o = ve u := by
  obtain rfl := Option.some.inj h
  cases o <;> rfl
theorem Ev_lookG {t e : TypeId} {g : Nat} {mo ko : Operand} {x : κ} {i : Nat} {z0 u : υ} {kv vv : Value} (K : Keyed P k) (ht : P.underlying t = some (.map k e)) (hz : ∀ w, (zeroValue e).run P w = .ok (ve z0) w) (hke : ∀ x y, ke x = ke y → x = y)
    (hm : evo fr mo = some (.map (some g))) (hk : evo fr ko = some kv) (hkv : kv = ke x) (hL : nthE L i = some (mapE P k ke ve g m)) (hx : (keyOf P k (ke x)).isSome = true) (hu : some ((mget m x).getD z0) = some u) (hvv : vv = ve u) :
    Ev P n ⟨dst, .lookup t mo ko false, ty, pos, after, guard⟩ fr L vv := by
  rw [hvv, ← mval_getD (ve := ve) hu]
  exact Ev_look K ht hz hke hm hk hkv hL hx
theorem Ev_lookGOk {t e : TypeId} {g : Nat} {mo ko : Operand} {x : κ} {i : Nat} {z0 u : υ} {kv vv : Value} (K : Keyed P k) (ht : P.underlying t = some (.map k e)) (hz : ∀ w, (zeroValue e).run P w = .ok (ve z0) w) (hke : ∀ x y, ke x = ke y → x = y)
    (hm : evo fr mo = some (.map (some g))) (hk : evo fr ko = some kv) (hkv : kv = ke x) (hL : nthE L i = some (mapE P k ke ve g m)) (hx : (keyOf P k (ke x)).isSome = true) (hu : some ((mget m x).getD z0) = some u) (hvv : vv = ve u) :
    Ev P n ⟨dst, .lookup t mo ko true, ty, pos, after, guard⟩ fr L (.tuple #[vv, .bool (mget m x).isSome]) := by
  rw [hvv, ← mval_getD (ve := ve) hu]
  exact Ev_lookOk K ht hz hke hm hk hkv hL hx
/-- 'm[k] = v'. -/
theorem Wh_mapPut {t e : TypeId} {g : Nat} {mo ko vo : Operand} {kv vv : Value} {x : κ} {y : υ} {i : Nat} {L' : List Ent} (K : Keyed P k) (ht : P.underlying t = some (.map k e))
    (hm : evo fr mo = some (.map (some g))) (hk : evo fr ko = some kv) (hkv : kv = ke x) (hv : evo fr vo = some vv) (hvv : vv = ve y) (hL : SetE L i (mapE P k ke ve g m) (mapE P k ke ve g ((x, y) :: m)) L') (hx : (keyOf P k (ke x)).isSome = true) (hn : m.length < maxLen)
    (kk : T n N fr L') : Wh P Q n ⟨none, .mapUpdate t mo ko vo, ty, pos, after, guard⟩ fr L N := by
  intro a w ha hw
  subst hkv; subst hvv
  obtain ⟨_, hM, _⟩ := hw.ok _ hL.mem
  obtain ⟨w', hrun, hown, hg⟩ := hM.2.update K ht hn (klOf_some hx) (val := ve y) (d := .held (ve y)) (ps := []) rfl
  have hex : (execOp a.eval ⟨none, .mapUpdate t mo ko vo, ty, pos, after, guard⟩).run P w = .ok .skip w' := by
    simp [execOp, ha.eval hm, ha.eval hk, ha.eval hv, hrun, Result.andThen]
  simp only [Oper.wp, hex, Oper.upon_skip]
  refine kk _ _ ha (Heap.turnO (e := mapE P k ke ve g m) (e' := mapE P k ke ve g ((x, y) :: m)) hg (fun g' hg' => by cases hg'; exact List.mem_singleton.2 rfl) (mapE_ok ⟨fun p hp => ?_, hown⟩) (Nat.le_refl _) (fun g' hg' => .inl hg') hL hw)
  rcases List.mem_cons.1 hp with rfl | hp
  · exact hx
  · exact hM.1 p hp
end
end
theorem intKey {P : Program} {k : TypeId} {q : IntKind} (hk : P.underlying k = some (.int q)) {a : Int} (hw : (Lit.int q a).wf = true) : (keyOf P k (.int q a)).isSome = true := by rw [Maps.keyOf_int_mk hk hw]; rfl
theorem wf_i64 {z : Int} (h : -9223372036854775808 ≤ z ∧ z ≤ 9223372036854775807) : (Lit.int .i64 z).wf = true := by
  have h1 : IntKind.i64.min = -9223372036854775808 := rfl
  have h2 : IntKind.i64.max = 9223372036854775807 := rfl
  simp only [Lit.wf, Bool.and_eq_true, decide_eq_true_eq]
  omega
theorem mapM_isSome {α β : Type} {g : α → Option β} : ∀ (l : List α), (∀ x ∈ l, (g x).isSome = true) → (l.mapM g).isSome = true
  | [], _ => rfl
  | x :: r, h => by
    have h1 := h x List.mem_cons_self
    have ih := mapM_isSome r (fun y hy => h y (List.mem_cons_of_mem _ hy))
    rw [List.mapM_cons]
    cases hx : g x with
    | none => rw [hx] at h1; cases h1
    | some y =>
      cases hr : r.mapM g with
      | none => rw [hr] at ih; cases ih
      | some ys => rfl
/-- A struct of integers is a key. -/
theorem isk_struct {P : Program} {k : TypeId} {fs : Array Field} {cs : List Value} {d : Nat} (hd : P.types.size = d + 1) (hu : P.underlying k = some (.struct fs)) (hk : P.keyType k = true) (hc : cs.length = P.cellsOf k) (hn : fs.all (·.name != "_") = true)
    (hf : ∀ f ∈ fs.toList, ∃ q n, P.underlying f.type = some (.int q) ∧ (cs.drop f.offset).take (P.cellsOf f.type) = [.int q n] ∧ (Lit.int q n).wf = true) : (keyOf P k (.agg cs.toArray)).isSome = true := by
  unfold keyOf
  rw [hu]
  have hfm : (Value.agg cs.toArray).formed P k = true := by simp [Value.formed, hu, hc]
  simp only [hk, hfm, Bool.and_self, if_true, Option.isSome_map]
  have hcl : (Value.agg cs.toArray).cells.toList = cs := by simp [Value.cells]
  rw [hcl, hd]
  unfold Program.keyLits
  simp only [hu]
  rw [if_pos ⟨hc, hn⟩, Option.isSome_map]
  refine mapM_isSome _ fun f hfm => ?_
  obtain ⟨q, n, h1, h2, h3⟩ := hf f hfm
  rw [h2]
  unfold Program.keyLits
  simp [h1, h3]
end Go.Proofs.YtlkgeeppfifeeaaGreat
