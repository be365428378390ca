/- More steps that follow a plain function. -/
import Derived.Test.YtlkgeeppfifeeaaGreatFlow
namespace Go.Proofs.YtlkgeeppfifeeaaGreat
open Go Go.RowKit
theorem none_no {ρ : Type} {r : ρ} {p : Prop} (h : (none : Option ρ) = some r) : p := nomatch h
theorem flat_len {α : Type} {enc : α → List Value} {sz : Nat} (he : ∀ x, (enc x).length = sz) : ∀ m : List α, (m.flatMap enc).length = m.length * sz := by
  intro m
  induction m with
  | nil => simp
  | cons x r ih => rw [List.flatMap_cons, List.length_append, he x, ih, List.length_cons, Nat.succ_mul]; omega
theorem Has.dn0 {α : Type} {K : List Ent} {A : Option Addr} {n c sz : Nat} {enc : α → List Value} {l : List α} (h : Has (K ++ []) A n c sz enc l) : Has K A n c sz enc l := by rw [List.append_nil] at h; exact h

/-! ### slices whose elements hold slices -/
def raw (x : List Value) : List Value := x
def HasN {α : Type} (K : List Ent) (A : Option Addr) (n c sz : Nat) (R : List Ent → α → List Value → Prop) (l : List α) : Prop :=
  ∃ hl : List (List Value), Has K A n c sz raw hl ∧ hl.length = l.length ∧ ∀ (i : Nat) (h : i < l.length) (h' : i < hl.length), R K l[i] hl[i]
theorem HasN.len {α : Type} {K : List Ent} {A : Option Addr} {n c sz : Nat} {R : List Ent → α → List Value → Prop} {l : List α} (h : HasN K A n c sz R l) : l.length = n := by
  obtain ⟨hl, h1, h2, _⟩ := h; rw [← h2]; exact h1.len
theorem HasN.len' {α : Type} {K : List Ent} {A : Option Addr} {n c sz : Nat} {R : List Ent → α → List Value → Prop} {l : List α} (h : HasN K A n c sz R l) : HasN K A l.length c sz R l := by
  have := h.len; subst this; exact h
theorem HasN.up {α : Type} {K L : List Ent} {A : Option Addr} {n c sz : Nat} {R : List Ent → α → List Value → Prop} {l : List α} (hm : ∀ {K L : List Ent} {x : α} {ys : List Value}, SubE K L → R K x ys → R L x ys) (h : HasN K A n c sz R l) (hK : SubE K L) : HasN L A n c sz R l := by
  obtain ⟨hl, h1, h2, h3⟩ := h
  exact ⟨hl, h1.up hK, h2, fun i h h' => hm hK (h3 i h h')⟩
theorem HasN.nil {α : Type} {K : List Ent} {sz : Nat} {R : List Ent → α → List Value → Prop} : HasN K none 0 0 sz R ([] : List α) := ⟨[], Has.nil, rfl, fun i h => absurd h (by simp)⟩
theorem HasN.up0 {α : Type} {K : List Ent} {A : Option Addr} {n c sz : Nat} {R : List Ent → α → List Value → Prop} {l : List α} (h : HasN K A n c sz R l) : HasN (K ++ []) A n c sz R l := by rw [List.append_nil]; exact h
theorem HasN.dn0 {α : Type} {K : List Ent} {A : Option Addr} {n c sz : Nat} {R : List Ent → α → List Value → Prop} {l : List α} (h : HasN (K ++ []) A n c sz R l) : HasN K A n c sz R l := by rw [List.append_nil] at h; exact h
theorem HasN.assoc {α : Type} {K E E' : List Ent} {A : Option Addr} {n c sz : Nat} {R : List Ent → α → List Value → Prop} {l : List α} (h : HasN (K ++ E ++ E') A n c sz R l) : HasN (K ++ (E ++ E')) A n c sz R l := by rw [← List.append_assoc]; exact h
theorem HasN.at_idx {α : Type} {K : List Ent} {A : Option Addr} {m c sz : Nat} {R : List Ent → α → List Value → Prop} {l : List α} {i : Int} {x : α} (h : HasN K A m c sz R l) (hi : idx l i = some x) :
    ∃ (b o j : Nat) (ys : List Value), A = some ⟨b, o, none⟩ ∧ i = (j : Int) ∧ j < m ∧ Pt K b (o + j * sz) ys ∧ R K x ys := by
  obtain ⟨hl, h1, h2, h3⟩ := h
  obtain ⟨j, hj, e1, e2⟩ := idx_some hi
  obtain ⟨b, o, hA, hp⟩ := h1.elem (i := j) (by omega)
  exact ⟨b, o, j, _, hA, e1, by have := h1.len; omega, hp, by rw [← e2]; exact h3 j hj (by omega)⟩
theorem Pt.low {K E : List Ent} {w : World} {b o : Nat} {ys : List Value} (h : Pt (K ++ E) b o ys) (hK : ∀ e ∈ K, Ent.ok w e) : Pt (.old w :: E) b o ys := fun w' hw' => h w' (fun e he => by
  rcases List.mem_append.1 he with he | he
  · exact Ent.ext (hK e he) (hw' (.old w) List.mem_cons_self)
  · exact hw' e (List.mem_cons_of_mem _ he))
section
variable {P : Program} {n : Nat} {N : Act → World → Prop} {Q : Exit → Act → World → Prop} {fr : List (Nat × Value)} {L : List Ent}
/-- A block is an own row. -/
theorem T_mr {α : Type} {enc : α → List Value} (l : List α) {i g t sz cs q L'} (hL : SetE L i (.m g t cs) (.r (some ⟨g, 0, none⟩) q q t sz (l.flatMap enc)) L') (hc : cs = l.flatMap enc) (hq : q = l.length) (he : ∀ x, (enc x).length = sz) (hm : q ≤ maxLen)
    (k : T n N fr L') : T n N fr L := by
  intro a w ha hw
  refine k a w ha (Heap.turn (e := .m g t cs) (e' := .r (some ⟨g, 0, none⟩) q q t sz (l.flatMap enc)) (w := w) (w' := w) ⟨rfl, rfl, rfl, Nat.le_refl _, fun _ _ _ => rfl⟩ ?_ (Nat.le_refl _) (fun g hg => .inl hg) hL hw)
  have hok : w.heap[g]? = some (.cells cs.toArray t (0, 0)) := hw.ok _ hL.mem
  subst hc; subst hq
  have hl := flat_len he l
  exact ⟨hl, .inr ⟨g, l.length, _, rfl, Nat.zero_le _, hok, Nat.le_refl _, hm, by simpa using hl, by show List.take _ (l.flatMap enc) = _; rw [← hl, List.take_length]⟩⟩
/-- The front of an own row that a call has handed back. -/
theorem T_front {α : Type} {enc : α → List Value} {l r : List α} {i A m c t sz L'} (hp : ∃ k, r = l.take k) (hL : SetE L i (.r A m c t sz (l.flatMap enc)) (.r A r.length c t sz (r.flatMap enc)) L') (hz : 0 < sz) (he : ∀ x, (enc x).length = sz)
    (k : T n N fr L') : T n N fr L := by
  obtain ⟨q, rfl⟩ := hp
  rcases Nat.le_total q l.length with h | h
  · rw [List.length_take, Nat.min_eq_left h] at hL
    exact T_trunc hL h hz he k
  · rw [List.take_of_length_le h] at hL
    intro a w ha hw
    have hm : m = l.length := (Has.ofRow hz he (hw.ok _ hL.mem)).len.symm
    subst hm
    rw [hL.same rfl] at k
    exact k a w ha hw
theorem grown_refl (w : World) (r : Option Nat) : w.grownBy w r := ⟨rfl, rfl, rfl, Nat.le_refl _, fun _ _ _ => rfl⟩
theorem run_append_nilsrc (P : Program) (w : World) (base : Nat) (t ty e : TypeId) (i : TypeInfo) (size : Nat) (ht : P.underlying t = some (.slice e)) (hi : P.info? e = some i)
    (v : Value) (n : Nat) (xs : List Value) (hown : w.ownsRow base e size v n xs) (c : Nat) : (Builtin.append_ #[t, t] ty #[v, .slice none 0 c]).run P w = .ok v w := by
  rcases hown.2 with ⟨rfl, rfl⟩ | ⟨g, cap, cur, rfl, _, _, hnc, _⟩
  · simp [Builtin.append_, run_underlying ht, sizeOf, typeInfo, hi, Builtin.lenOf, Builtin.firstCells]
  · simp [Builtin.append_, run_underlying ht, sizeOf, typeInfo, hi, Builtin.lenOf, Builtin.firstCells, hnc, storeCells]
/-- append of a slice that reads as a list. -/
theorem Wh_appendH {α : Type} (enc : α → List Value) (l ys : List α) {d : Nat} {s x t e sz bytes A m c B q q' i ty'} {pos : String} {after : Array Edge} {guard : Option (Nat × Bool)} {L' : Option Addr → Nat → List Ent} {K : List Ent}
    (hs : evo fr s = some (.slice A m c)) (hx : evo fr x = some (.slice B q q')) (ht : ElemOf P t e sz bytes) (he : ∀ x, (enc x).length = sz)
    (hy : Has K B q q' sz enc ys) (hK : SubE K L) (h1 : ∀ x, allOne (enc x) = true) (hb : (l.length + ys.length) * bytes ≤ 140737488355328) (hd : Nat.blt d n = true)
    (hL : ∀ A' c', SetE L i (.r A m c e sz (l.flatMap enc)) (.r A' (l ++ ys).length c' e sz ((l ++ ys).flatMap enc)) (L' A' c'))
    (h0 : 0 < bytes)
    (k : ∀ A' c', T n N ((d, .slice A' (l ++ ys).length c') :: fr) (L' A' c')) :
    Wh P Q n ⟨some d, .call ⟨.builtin .append, #[s, x], #[t, t]⟩, ty', pos, after, guard⟩ fr L N := by
  intro a w ha hw
  have hm : m = l.length := (Has.ofRow ht.pos he (hw.ok _ (hL none 0).mem)).len.symm
  subst hm
  have hq := hy.len
  subst hq
  have hl := flat_len he l
  have hly := flat_len he ys
  have h63 : l.length + ys.length ≤ 9223372036854775807 := by
    have h3 := Nat.mul_le_mul_left (l.length + ys.length) h0
    rw [Nat.mul_succ, Nat.mul_zero, Nat.zero_add] at h3
    omega
  obtain ⟨i0, z, e1, e2, e3, e4, e5⟩ := ht.ex
  have hown : w.ownsRow 0 e sz (.slice A l.length c) l.length (l.flatMap enc) := hw.ok _ (hL none 0).mem
  have hsl := hy.at hK hw
  have hone : ∀ u ∈ ys.flatMap enc, u.oneCell' = true := by
    intro u hu
    obtain ⟨x, _, hu⟩ := List.mem_flatMap.1 hu
    exact allOne_mem (h1 x) u hu
  have main : ∃ v' w', (Builtin.append_ #[t, t] ty' #[.slice A l.length c, .slice B ys.length q']).run P w = .ok v' w' ∧ w'.ownsRow 0 e sz v' (l.length + ys.length) (l.flatMap enc ++ ys.flatMap enc) ∧
      w.grownBy w' (Value.slice A l.length c).ownBlock ∧ (v'.ownBlock = (Value.slice A l.length c).ownBlock ∨ v'.ownBlock = some w.heap.size) := by
    by_cases hn : 0 < ys.length
    · obtain ⟨b, o, hB, hcell⟩ := hsl.at_ hn
      subst hB
      have hnew : ∀ (j : Nat) (u : Value), (ys.flatMap enc)[j]? = some u → w.cell? ((⟨b, o, none⟩ : Addr).add j) = some u := fun j u hj => by
        have hjl : j < (ys.flatMap enc).length := (List.getElem?_eq_some_iff.1 hj).1
        rw [hly] at hjl
        have hdm : j = j / sz * sz + j % sz := by have := Nat.div_add_mod j sz; rw [Nat.mul_comm] at this; omega
        have hq : j / sz < ys.length := (Nat.div_lt_iff_lt_mul ht.pos).2 hjl
        have hmod := Nat.mod_lt j ht.pos
        obtain ⟨u', hu'⟩ : ∃ u', (enc ys[j / sz])[j % sz]? = some u' := ⟨_, List.getElem?_eq_getElem (by rw [he ys[j / sz]]; exact hmod)⟩
        have hf := flat_at ys (j / sz) hq (fun x _ => he x) (j % sz) u' hu'
        rw [← hdm, hj] at hf
        injection hf with hf
        subst hf
        have := hcell (j / sz) hq (j % sz) u hu'
        rw [Addr.add_lit, hdm, ← Nat.add_assoc]; exact this
      obtain ⟨v', w', hr, h2, h3, _, h5⟩ := run_append_own_at (P := P) w 0 t ty' e i0 z sz bytes ht.sl e1 e2 e3 e4 e5 ht.pos _ _ _ hown ⟨b, o, none⟩ ys.length q' (ys.flatMap enc) hly hnew hone (by unfold maxLen; omega) hb (Nat.zero_le _)
      exact ⟨v', w', hr, h2, h3, h5⟩
    · have h0 : ys = [] := List.eq_nil_of_length_eq_zero (by omega)
      subst h0
      cases B with
      | none => exact ⟨_, w, run_append_nilsrc P w 0 t ty' e i0 sz ht.sl e1 _ _ _ hown q', by simpa using hown, grown_refl w _, .inl rfl⟩
      | some b =>
        obtain ⟨v', w', hr, h2, h3, _, h5⟩ := run_append_own_at (P := P) w 0 t ty' e i0 z sz bytes ht.sl e1 e2 e3 e4 e5 ht.pos _ _ _ hown b 0 q' [] (by simp) (fun j u hj => by simp at hj) (fun u hu => by simp at hu) (by unfold maxLen; omega) hb (Nat.zero_le _)
        exact ⟨v', w', hr, h2, h3, h5⟩
  obtain ⟨v', w', hr, h2, h3, h5⟩ := main
  have hlq : l.length + ys.length = (l ++ ys).length := by rw [List.length_append]
  have hv' : ∃ A' c', v' = .slice A' (l.length + ys.length) c' := by
    rcases h2.2 with ⟨hv, h0⟩ | ⟨g', cap, cur, hv, _⟩
    · exact ⟨none, 0, by rw [hv, h0]⟩
    · exact ⟨_, _, hv⟩
  obtain ⟨A', c', rfl⟩ := hv'
  rw [hlq] at hr h2 h5
  rw [← List.flatMap_append] at h2
  have hrun : (execOp a.eval ⟨some d, .call ⟨.builtin .append, #[s, x], #[t, t]⟩, ty', pos, after, guard⟩).run P w = .ok (.value (.slice A' (l ++ ys).length c')) w' := by
    simp [execOp, resolve, invoke, builtin, ha.eval hs, ha.eval hx, hr]
  simp only [Oper.wp, hrun, Oper.upon_value]
  refine k A' c' _ _ (ha.put hd) (Heap.turn (e := .r A l.length c e sz (l.flatMap enc)) (e' := .r A' (l ++ ys).length c' e sz ((l ++ ys).flatMap enc)) h3 h2 (Nat.le_refl _) (fun g' hg' => ?_) (hL A' c') hw)
  simp only [Ent.blk] at hg' ⊢
  rcases h5 with h5 | h5
  · left; rw [← h5]; exact hg'
  · right; rw [h5] at hg'; injection hg' with hg'; omega
/-- make([]T, m, c), T of one cell. -/
theorem Wx_makeC {α : Type} (enc : α → List Value) (x0 : α) {d : Nat} {t e x y k1 k2 i1 i2 i z} {ty : TypeId} {pos : String} {after : Array Edge} {guard : Option (Nat × Bool)} (hx : evo fr x = some (.int k1 i1)) (hy : evo fr y = some (.int k2 i2)) (hp : 0 ≤ i1) (h12 : i1 ≤ i2)
    (ht : P.underlying t = some (.slice e)) (hi : P.info? e = some i) (hz : i.zero = some z) (hzc : z.cells = #[z]) (hze : enc x0 = [z]) (hs : i.size = 1) (hb : i.bytes * i2.toNat ≤ 140737488355328) (hb0 : 0 < i.bytes)
    (hd : Nat.blt d n = true) (k : ∀ A c, T n N ((d, .slice A (List.replicate i1.toNat x0).length c) :: fr) (.r A (List.replicate i1.toNat x0).length c e 1 ((List.replicate i1.toNat x0).flatMap enc) :: L)) :
    Wx P Q n ⟨some d, .makeSlice t x y, ty, pos, after, guard⟩ fr L N := by
  have h2 := Nat.mul_le_mul_right i2.toNat hb0
  rw [Nat.succ_mul, Nat.zero_mul, Nat.zero_add] at h2
  intro a w ha hw
  have hb' : (i.bytes : Int) * i2 ≤ 281474976710656 := by
    have h : ((i.bytes * i2.toNat : Nat) : Int) ≤ 281474976710656 := by omega
    rw [Int.natCast_mul, Int.toNat_of_nonneg (by omega)] at h; exact h
  have hr := run_make (P := P) w t e i z ht hi hz k1 k2 i1 i2 hp h12 hb' (by omega)
  simp only [hs, Nat.mul_one, hzc, madeCells_one] at hr
  have hrun : (execOp a.eval ⟨some d, .makeSlice t x y, ty, pos, after, guard⟩).run P w = .ok (.value (.slice (some ⟨w.heap.size, 0, none⟩) i1.toNat i2.toNat)) (w.alloc (.cells (List.replicate i2.toNat z).toArray e)) := by
    simp [execOp, ha.eval hx, ha.eval hy, hr]
  simp only [Oper.wp, hrun, Oper.upon_value]
  have hk := k (some ⟨w.heap.size, 0, none⟩) i2.toNat
  have hf : ∀ m, (List.replicate m x0).flatMap enc = List.replicate m z := by
    intro m
    induction m with
    | zero => rfl
    | succ m ih => rw [List.replicate_succ, List.flatMap_cons, hze, ih, List.replicate_succ]; rfl
  rw [List.length_replicate, hf] at hk
  refine ⟨ext_alloc w _, hk _ _ (ha.put hd) ?_⟩
  have h' := hw.allocR e 1 i2.toNat (List.replicate i2.toNat z) (by simp) (by unfold maxLen; omega)
  refine ⟨fun x hx => ?_, ?_⟩
  · rcases List.mem_cons.1 hx with rfl | hx
    · exact ⟨by simp, .inr ⟨w.heap.size, i2.toNat, (List.replicate i2.toNat z).toArray, rfl, Nat.zero_le _, heap_alloc_new w _, by omega, by unfold maxLen; omega, by simp, by simp; omega⟩⟩
    · exact h'.ok x (List.mem_cons_of_mem _ hx)
  · have hp := h'.sep
    rw [List.pairwise_cons] at hp ⊢
    exact ⟨fun x hx => hp.1 x hx, hp.2⟩
theorem Ev_xorW {t x k a} {dst : Option Tmp} {ty : TypeId} {pos : String} {after : Array Edge} {guard : Option (Nat × Bool)} (hx : evo fr x = some (.int k a)) : Ev P n ⟨dst, .unOp .xor t x, ty, pos, after, guard⟩ fr L (.int k (bit_xor k (if k.signed then -1 else k.max) a)) := fun ac w ha _ => by
  simp only [execOp, ha.eval hx, Op.unary, Op.intBits]
  rfl
/-- A call of a function value. -/
theorem Wx_callF {d : Nat} {pos : String} {after : Array Edge} {guard : Option (Nat × Bool)} {f : FuncId} {cf : Operand} {xs : List Operand} {vs : List Value} {ts : Array TypeId} {ty' : TypeId} {R : Value → List Ent → Prop} (hcf : evo fr cf = some (.func (.func f) #[] #[])) (hx : evos fr xs = some vs) (hc : ∀ w, Heap L w → CtL P f vs w R) (hd : Nat.blt d n = true)
    (k : ∀ v Ln, (∀ x ∈ Ln, x.low = 0) → R v Ln → T n N ((d, v) :: fr) (Ln ++ L)) : Wx P Q n ⟨some d, .call ⟨.value cf, xs.toArray, ts⟩, ty', pos, after, guard⟩ fr L N := by
  intro a w ha hw
  obtain ⟨hf, hcall⟩ := hc w hw
  have hrun : (execOp a.eval ⟨some d, .call ⟨.value cf, xs.toArray, ts⟩, ty', pos, after, guard⟩).run P w = .ok (.enter f vs.toArray) w := by
    obtain ⟨fn, h1, h2, h3⟩ := hf
    have := ha.evals hx
    have h2' : fn.name ≠ "runtime.NumGoroutine" := by simpa using h2
    have h3' : fn.body ≠ none := by intro h; rw [h] at h3; cases h3
    simp [execOp, resolve, Deferred.ofValue, invoke, callFunc, ha.eval hcf, this, h1, h2', h3']
  simp only [Oper.wp, hrun, Oper.upon_enter]
  refine hcall.mono ?_
  rintro e w' ⟨v, Ln, rfl, hR, hl, hh⟩
  exact ⟨hh.ok (.old w) (by simp), k v Ln hl hR _ _ (ha.put hd) (hw.join hl hh)⟩
end
/-! ### numbers, by kind -/
section
variable {P : Program} {n : Nat} {fr : List (Nat × Value)} {L : List Ent}
variable {dst : Option Tmp} {ty : TypeId} {pos : String} {after : Array Edge} {guard : Option (Nat × Bool)}
theorem Ev_add_w64 {t t' x y a b} (hx : evo fr x = some (.int .i64 a)) (hy : evo fr y = some (.int .i64 b)) : Ev P n ⟨dst, .binOp .add t x y t', ty, pos, after, guard⟩ fr L (.int .i64 (w64 (a + b))) := Ev_addW hx hy
theorem Ev_sub_w64 {t t' x y a b} (hx : evo fr x = some (.int .i64 a)) (hy : evo fr y = some (.int .i64 b)) : Ev P n ⟨dst, .binOp .sub t x y t', ty, pos, after, guard⟩ fr L (.int .i64 (w64 (a - b))) := Ev_subW hx hy
theorem Ev_mul_w64 {t t' x y a b} (hx : evo fr x = some (.int .i64 a)) (hy : evo fr y = some (.int .i64 b)) : Ev P n ⟨dst, .binOp .mul t x y t', ty, pos, after, guard⟩ fr L (.int .i64 (w64 (a * b))) := Ev_mulW hx hy
theorem Ev_quo_w64 {t t' x y a b} (hx : evo fr x = some (.int .i64 a)) (hy : evo fr y = some (.int .i64 b)) (h : b ≠ 0) : Ev P n ⟨dst, .binOp .quo t x y t', ty, pos, after, guard⟩ fr L (.int .i64 (w64 (Int.tdiv a b))) := Ev_quoW hx hy h
theorem Ev_neg_w64 {t x a} (hx : evo fr x = some (.int .i64 a)) : Ev P n ⟨dst, .unOp .neg t x, ty, pos, after, guard⟩ fr L (.int .i64 (w64 (-a))) := Ev_negW hx
theorem Ev_conv_w64 {src dt x k v} (hx : evo fr x = some (.int k v)) (hs : (P.underlying src).isSome = true) (hd : P.underlying dt = some (.int .i64)) : Ev P n ⟨dst, .convert src dt x, ty, pos, after, guard⟩ fr L (.int .i64 (w64 v)) := Ev_conv hx hs hd
theorem Ev_add_wu64 {t t' x y a b} (hx : evo fr x = some (.int .u64 a)) (hy : evo fr y = some (.int .u64 b)) : Ev P n ⟨dst, .binOp .add t x y t', ty, pos, after, guard⟩ fr L (.int .u64 (wu64 (a + b))) := Ev_addW hx hy
theorem Ev_sub_wu64 {t t' x y a b} (hx : evo fr x = some (.int .u64 a)) (hy : evo fr y = some (.int .u64 b)) : Ev P n ⟨dst, .binOp .sub t x y t', ty, pos, after, guard⟩ fr L (.int .u64 (wu64 (a - b))) := Ev_subW hx hy
theorem Ev_mul_wu64 {t t' x y a b} (hx : evo fr x = some (.int .u64 a)) (hy : evo fr y = some (.int .u64 b)) : Ev P n ⟨dst, .binOp .mul t x y t', ty, pos, after, guard⟩ fr L (.int .u64 (wu64 (a * b))) := Ev_mulW hx hy
theorem Ev_quo_wu64 {t t' x y a b} (hx : evo fr x = some (.int .u64 a)) (hy : evo fr y = some (.int .u64 b)) (h : b ≠ 0) : Ev P n ⟨dst, .binOp .quo t x y t', ty, pos, after, guard⟩ fr L (.int .u64 (wu64 (Int.tdiv a b))) := Ev_quoW hx hy h
theorem Ev_neg_wu64 {t x a} (hx : evo fr x = some (.int .u64 a)) : Ev P n ⟨dst, .unOp .neg t x, ty, pos, after, guard⟩ fr L (.int .u64 (wu64 (-a))) := Ev_negW hx
theorem Ev_conv_wu64 {src dt x k v} (hx : evo fr x = some (.int k v)) (hs : (P.underlying src).isSome = true) (hd : P.underlying dt = some (.int .u64)) : Ev P n ⟨dst, .convert src dt x, ty, pos, after, guard⟩ fr L (.int .u64 (wu64 v)) := Ev_conv hx hs hd
theorem Ev_add_wu32 {t t' x y a b} (hx : evo fr x = some (.int .u32 a)) (hy : evo fr y = some (.int .u32 b)) : Ev P n ⟨dst, .binOp .add t x y t', ty, pos, after, guard⟩ fr L (.int .u32 (wu32 (a + b))) := Ev_addW hx hy
theorem Ev_sub_wu32 {t t' x y a b} (hx : evo fr x = some (.int .u32 a)) (hy : evo fr y = some (.int .u32 b)) : Ev P n ⟨dst, .binOp .sub t x y t', ty, pos, after, guard⟩ fr L (.int .u32 (wu32 (a - b))) := Ev_subW hx hy
theorem Ev_mul_wu32 {t t' x y a b} (hx : evo fr x = some (.int .u32 a)) (hy : evo fr y = some (.int .u32 b)) : Ev P n ⟨dst, .binOp .mul t x y t', ty, pos, after, guard⟩ fr L (.int .u32 (wu32 (a * b))) := Ev_mulW hx hy
theorem Ev_quo_wu32 {t t' x y a b} (hx : evo fr x = some (.int .u32 a)) (hy : evo fr y = some (.int .u32 b)) (h : b ≠ 0) : Ev P n ⟨dst, .binOp .quo t x y t', ty, pos, after, guard⟩ fr L (.int .u32 (wu32 (Int.tdiv a b))) := Ev_quoW hx hy h
theorem Ev_neg_wu32 {t x a} (hx : evo fr x = some (.int .u32 a)) : Ev P n ⟨dst, .unOp .neg t x, ty, pos, after, guard⟩ fr L (.int .u32 (wu32 (-a))) := Ev_negW hx
theorem Ev_conv_wu32 {src dt x k v} (hx : evo fr x = some (.int k v)) (hs : (P.underlying src).isSome = true) (hd : P.underlying dt = some (.int .u32)) : Ev P n ⟨dst, .convert src dt x, ty, pos, after, guard⟩ fr L (.int .u32 (wu32 v)) := Ev_conv hx hs hd
theorem Ev_add_wu8 {t t' x y a b} (hx : evo fr x = some (.int .u8 a)) (hy : evo fr y = some (.int .u8 b)) : Ev P n ⟨dst, .binOp .add t x y t', ty, pos, after, guard⟩ fr L (.int .u8 (wu8 (a + b))) := Ev_addW hx hy
theorem Ev_sub_wu8 {t t' x y a b} (hx : evo fr x = some (.int .u8 a)) (hy : evo fr y = some (.int .u8 b)) : Ev P n ⟨dst, .binOp .sub t x y t', ty, pos, after, guard⟩ fr L (.int .u8 (wu8 (a - b))) := Ev_subW hx hy
theorem Ev_mul_wu8 {t t' x y a b} (hx : evo fr x = some (.int .u8 a)) (hy : evo fr y = some (.int .u8 b)) : Ev P n ⟨dst, .binOp .mul t x y t', ty, pos, after, guard⟩ fr L (.int .u8 (wu8 (a * b))) := Ev_mulW hx hy
theorem Ev_quo_wu8 {t t' x y a b} (hx : evo fr x = some (.int .u8 a)) (hy : evo fr y = some (.int .u8 b)) (h : b ≠ 0) : Ev P n ⟨dst, .binOp .quo t x y t', ty, pos, after, guard⟩ fr L (.int .u8 (wu8 (Int.tdiv a b))) := Ev_quoW hx hy h
theorem Ev_neg_wu8 {t x a} (hx : evo fr x = some (.int .u8 a)) : Ev P n ⟨dst, .unOp .neg t x, ty, pos, after, guard⟩ fr L (.int .u8 (wu8 (-a))) := Ev_negW hx
theorem Ev_conv_wu8 {src dt x k v} (hx : evo fr x = some (.int k v)) (hs : (P.underlying src).isSome = true) (hd : P.underlying dt = some (.int .u8)) : Ev P n ⟨dst, .convert src dt x, ty, pos, after, guard⟩ fr L (.int .u8 (wu8 v)) := Ev_conv hx hs hd
theorem Ev_add_wu16 {t t' x y a b} (hx : evo fr x = some (.int .u16 a)) (hy : evo fr y = some (.int .u16 b)) : Ev P n ⟨dst, .binOp .add t x y t', ty, pos, after, guard⟩ fr L (.int .u16 (wu16 (a + b))) := Ev_addW hx hy
theorem Ev_sub_wu16 {t t' x y a b} (hx : evo fr x = some (.int .u16 a)) (hy : evo fr y = some (.int .u16 b)) : Ev P n ⟨dst, .binOp .sub t x y t', ty, pos, after, guard⟩ fr L (.int .u16 (wu16 (a - b))) := Ev_subW hx hy
theorem Ev_mul_wu16 {t t' x y a b} (hx : evo fr x = some (.int .u16 a)) (hy : evo fr y = some (.int .u16 b)) : Ev P n ⟨dst, .binOp .mul t x y t', ty, pos, after, guard⟩ fr L (.int .u16 (wu16 (a * b))) := Ev_mulW hx hy
theorem Ev_quo_wu16 {t t' x y a b} (hx : evo fr x = some (.int .u16 a)) (hy : evo fr y = some (.int .u16 b)) (h : b ≠ 0) : Ev P n ⟨dst, .binOp .quo t x y t', ty, pos, after, guard⟩ fr L (.int .u16 (wu16 (Int.tdiv a b))) := Ev_quoW hx hy h
theorem Ev_neg_wu16 {t x a} (hx : evo fr x = some (.int .u16 a)) : Ev P n ⟨dst, .unOp .neg t x, ty, pos, after, guard⟩ fr L (.int .u16 (wu16 (-a))) := Ev_negW hx
theorem Ev_conv_wu16 {src dt x k v} (hx : evo fr x = some (.int k v)) (hs : (P.underlying src).isSome = true) (hd : P.underlying dt = some (.int .u16)) : Ev P n ⟨dst, .convert src dt x, ty, pos, after, guard⟩ fr L (.int .u16 (wu16 v)) := Ev_conv hx hs hd
theorem Ev_add_wi32 {t t' x y a b} (hx : evo fr x = some (.int .i32 a)) (hy : evo fr y = some (.int .i32 b)) : Ev P n ⟨dst, .binOp .add t x y t', ty, pos, after, guard⟩ fr L (.int .i32 (wi32 (a + b))) := Ev_addW hx hy
theorem Ev_sub_wi32 {t t' x y a b} (hx : evo fr x = some (.int .i32 a)) (hy : evo fr y = some (.int .i32 b)) : Ev P n ⟨dst, .binOp .sub t x y t', ty, pos, after, guard⟩ fr L (.int .i32 (wi32 (a - b))) := Ev_subW hx hy
theorem Ev_mul_wi32 {t t' x y a b} (hx : evo fr x = some (.int .i32 a)) (hy : evo fr y = some (.int .i32 b)) : Ev P n ⟨dst, .binOp .mul t x y t', ty, pos, after, guard⟩ fr L (.int .i32 (wi32 (a * b))) := Ev_mulW hx hy
theorem Ev_quo_wi32 {t t' x y a b} (hx : evo fr x = some (.int .i32 a)) (hy : evo fr y = some (.int .i32 b)) (h : b ≠ 0) : Ev P n ⟨dst, .binOp .quo t x y t', ty, pos, after, guard⟩ fr L (.int .i32 (wi32 (Int.tdiv a b))) := Ev_quoW hx hy h
theorem Ev_neg_wi32 {t x a} (hx : evo fr x = some (.int .i32 a)) : Ev P n ⟨dst, .unOp .neg t x, ty, pos, after, guard⟩ fr L (.int .i32 (wi32 (-a))) := Ev_negW hx
theorem Ev_conv_wi32 {src dt x k v} (hx : evo fr x = some (.int k v)) (hs : (P.underlying src).isSome = true) (hd : P.underlying dt = some (.int .i32)) : Ev P n ⟨dst, .convert src dt x, ty, pos, after, guard⟩ fr L (.int .i32 (wi32 v)) := Ev_conv hx hs hd
end
end Go.Proofs.YtlkgeeppfifeeaaGreat
