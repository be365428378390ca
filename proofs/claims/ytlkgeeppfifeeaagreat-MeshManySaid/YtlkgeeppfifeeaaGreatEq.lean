/- Equality of structs; a row with no element but room. -/
import Derived.Test.YtlkgeeppfifeeaaGreatMem
import Derived.Laws.StructEq
namespace Go.Proofs.YtlkgeeppfifeeaaGreat
open Go Go.RowKit
variable {P : Program} {n : Nat} {fr : List (Nat × Value)} {L : List Ent} {dst : Option Nat} {ty : TypeId} {pos : String} {after : Array Edge} {guard : Option (Nat × Bool)}

inductive EqF (P : Program) (d : Nat) (xs ys : Array Value) : List Field → Bool → Prop
  | nil : EqF P d xs ys [] true
  | cons {f fs a b r r'} (hn : (f.name == "_") = false) (hx : ∀ w, (part f.type xs f.offset).run P w = .ok a w) (hy : ∀ w, (part f.type ys f.offset).run P w = .ok b w)
      (he : ∀ w, (Op.equalIn d f.type a b).run P w = .ok r w) (h : EqF P d xs ys fs r') : EqF P d xs ys (f :: fs) (r && r')
theorem EqF.run {d xs ys fs r} (h : EqF P d xs ys fs r) : ∀ w, (Op.eqFields d xs ys fs).run P w = .ok r w := by
  induction h with
  | nil => intro w; simp [Op.eqFields]
  | cons hn hx hy he _ ih =>
    intro w
    rename_i f fs a b r r' _
    have hn' : f.name ≠ "_" := by simpa using hn
    simp only [Op.eqFields, hn', ne_eq, not_false_eq_true, if_true, Sem.run_bind, hx, hy, he, Result.andThen_ok]
    cases r with
    | true => simp [ih w]
    | false => simp
theorem EqF.struct {d t xs ys r fs} (ht : P.underlying t = some (.struct fs)) (hp : P.stoodInHeld t = false) (h : EqF P d xs ys fs.toList r) : ∀ w, (Op.equalIn (d + 1) t (.agg xs) (.agg ys)).run P w = .ok r w := by
  intro w
  have hf : P.fieldsOf t = fs := by simp [Program.fieldsOf, ht]
  rw [run_equalIn_struct w d t xs ys (by rw [hf]; exact ht) hp, hf]
  exact h.run w
theorem Ev_eqlS {t t' x y xs ys r} (hx : evo fr x = some (.agg xs)) (hy : evo fr y = some (.agg ys)) (hm : P.eqGuardType P.depth t = false) (h : ∀ w, (Op.equalIn 10000 t (.agg xs) (.agg ys)).run P w = .ok r w) :
    Ev P n ⟨dst, .binOp .eql t x y t', ty, pos, after, guard⟩ fr L (.bool r) := fun ac w ha _ => by
  simp [execOp, ha.eval hx, ha.eval hy, run_eqGuard_agg w .eql t x y xs ys hm, run_eql_struct, h]
theorem Ev_neqS {t t' x y xs ys r} (hx : evo fr x = some (.agg xs)) (hy : evo fr y = some (.agg ys)) (hm : P.eqGuardType P.depth t = false) (h : ∀ w, (Op.equalIn 10000 t (.agg xs) (.agg ys)).run P w = .ok r w) :
    Ev P n ⟨dst, .binOp .neq t x y t', ty, pos, after, guard⟩ fr L (.bool (!r)) := fun ac w ha _ => by
  simp [execOp, ha.eval hx, ha.eval hy, run_eqGuard_agg w .neq t x y xs ys hm, run_neq_struct, h]
theorem Ev_remP {t t' x y k a b} (hx : evo fr x = some (.int k a)) (hy : evo fr y = some (.int k b)) (h0 : 0 ≤ a) (h : 0 < b) : Ev P n ⟨dst, .binOp .rem t x y t', ty, pos, after, guard⟩ fr L (.int k (a % b)) := by
  have := Ev_rem (P := P) (n := n) (fr := fr) (L := L) (dst := dst) (ty := ty) (pos := pos) (after := after) (guard := guard) (t := t) (t' := t') hx hy (by omega)
  rwa [Int.tmod_eq_emod_of_nonneg h0] at this
theorem Ev_quoP {t t' x y a b} (hx : evo fr x = some (.int .i64 a)) (hy : evo fr y = some (.int .i64 b)) (h0 : 0 ≤ a) (h : 0 < b) (h1 : a ≤ 9223372036854775807) : Ev P n ⟨dst, .binOp .quo t x y t', ty, pos, after, guard⟩ fr L (.int .i64 (a / b)) := by
  have := Ev_quoW (P := P) (n := n) (fr := fr) (L := L) (dst := dst) (ty := ty) (pos := pos) (after := after) (guard := guard) (t := t) (t' := t') hx hy (by omega)
  rw [Int.tdiv_eq_ediv_of_nonneg h0] at this
  have h2 : 0 ≤ a / b := Int.ediv_nonneg h0 (by omega)
  have h3 : a / b ≤ a := Int.ediv_le_self _ h0
  have h4 : IntKind.i64.wrap (a / b) = a / b := by rw [IntKind.wrap_i64]; omega
  rwa [h4] at this
theorem mul_bd {a b A B : Int} (h0 : 0 ≤ a) (h1 : a ≤ A) (h2 : 0 ≤ b) (h3 : b ≤ B) : 0 ≤ a * b ∧ a * b ≤ A * B :=
  ⟨Int.mul_nonneg h0 h2, Int.mul_le_mul h1 h3 h2 (by omega)⟩

/-- make([]T, 0, m), T of one cell. -/
theorem Wx_make0 {N : Act → World → Prop} {Q : Exit → Act → World → Prop} {d : Nat} {t e x y k1 k2 i1 i2 i z} {m : Nat} (hx : evo fr x = some (.int k1 i1)) (hy : evo fr y = some (.int k2 i2)) (h1 : i1 = 0) (h2 : i2 = (m : Int))
    (ht : P.underlying t = some (.slice e)) (hi : P.info? e = some i) (hz : i.zero = some z) (hzc : z.cells = #[z]) (hs : i.size = 1) (hb : i.bytes * m ≤ 281474976710656) (hm : m ≤ 9223372036854775807)
    (hd : Nat.blt d n = true) (k : ∀ A c, T n N ((d, .slice A 0 c) :: fr) (.r A 0 c e 1 [] :: L)) : Wx P Q n ⟨some d, .makeSlice t x y, ty, pos, after, guard⟩ fr L N := by
  intro a w ha hw
  have hb' : (i.bytes : Int) * ((m : Nat) : Int) ≤ 281474976710656 := by
    have h : ((i.bytes * m : Nat) : Int) ≤ 281474976710656 := by omega
    rwa [Int.natCast_mul] at h
  have hr := run_make (P := P) w t e i z ht hi hz k1 k2 0 m (by omega) (by omega) hb' (by omega)
  subst h1; subst h2
  simp only [Int.toNat_natCast, hs, Nat.mul_one, hzc, madeCells_one, show Int.toNat 0 = 0 from rfl] at hr
  have hrun : (execOp a.eval ⟨some d, .makeSlice t x y, ty, pos, after, guard⟩).run P w = .ok (.value (.slice (some ⟨w.heap.size, 0, none⟩) 0 m)) (w.alloc (.cells (List.replicate m z).toArray e)) := by
    simp [execOp, ha.eval hx, ha.eval hy, hr]
  simp only [Oper.wp, hrun, Oper.upon_value]
  refine ⟨ext_alloc w _, k _ _ _ _ (ha.put hd) ?_⟩
  have h' := hw.allocR e 1 m (List.replicate m z) (by simp) (by unfold maxLen; omega)
  refine ⟨fun x hx => ?_, ?_⟩
  · rcases List.mem_cons.1 hx with rfl | hx
    · exact ⟨by simp, .inr ⟨w.heap.size, m, (List.replicate m z).toArray, rfl, Nat.zero_le _, heap_alloc_new w _, Nat.zero_le _, by unfold maxLen; omega, by simp, by simp⟩⟩
    · exact h'.ok x (List.mem_cons_of_mem _ hx)
  · have hp := h'.sep
    rw [List.pairwise_cons] at hp ⊢
    exact ⟨fun x hx => hp.1 x hx, hp.2⟩

/-! ### operations behind a test that was not reached itself -/
section
variable {ops : Array Oper} {Q : Exit → Act → World → Prop} {rest : List Oper} {op : Op} {d : Nat} {cls : Cls} {A : List (List Nat)} {RL : List Nat} {R : World → Prop} {p alt : Plan} {i : Nat}
theorem unwanted_of {j s : Nat} {b : Bool} {a : Act} (hj : (ops[j]?).bind (·.dst) = some s) (ha : Fr n fr a) (hs : look fr s = some undef) (hsn : Nat.blt s n = true) :
    Region.wanted ⟨some d, op, ty, pos, after, some (j, b)⟩ (yielded ops a.tmps) = false := by
  have hv := ha.val s _ hs
  have hlt : s < a.tmps.size := by rw [ha.size]; exact (Nat.blt_eq ▸ hsn)
  have hg : a.tmps[s]? = some undef := by
    rw [Array.getD_eq_getD_getElem?, Array.getElem?_eq_getElem hlt] at hv
    rw [Array.getElem?_eq_getElem hlt]
    simpa using hv
  have hy : yielded ops a.tmps j = none := by
    unfold yielded
    rw [hj]
    simp [hg, undef]
  simp [Region.wanted, hy]
theorem T_skipU {j s : Nat} {b : Bool} (hj : (ops[j]?).bind (·.dst) = some s) (hs : look fr s = some undef) (hsn : Nat.blt s n = true)
    (hd : Nat.blt d n = true) (k : T n (wpList P ops Q rest) ((d, undef) :: fr) L) :
    T n (wpList P ops Q (⟨some d, op, ty, pos, after, some (j, b)⟩ :: rest)) fr L := by
  intro a w ha hw
  refine wpList_step (fun K hK => ?_)
  rw [if_neg (by rw [unwanted_of hj ha hs hsn]; simp)]
  exact hK _ _ (k _ _ (ha.put hd) hw)
theorem P_skipU {j s : Nat} {b : Bool} (ho : ops[i]? = some ⟨some d, op, ty, pos, after, some (j, b)⟩) (hj : (ops[j]?).bind (·.dst) = some s) (hs : look fr s = some undef) (hsn : Nat.blt s n = true)
    (hd : Nat.blt d n = true) (k : T n (wpPlanR P ops Q cls A RL R p) ((d, undef) :: fr) L) : T n (wpPlanR P ops Q cls A RL R (.q i p)) fr L := by
  intro a w ha hw
  have hwn : Region.wanted ⟨some d, op, ty, pos, after, some (j, b)⟩ (yielded ops a.tmps) = false := unwanted_of hj ha hs hsn
  show if _ then _ else _
  by_cases hc : Nat.beq (cls.getD i 9) 0 = true
  · rw [if_pos hc]
    exact ⟨_, ho, .inr ⟨hwn, k _ _ (ha.put hd) hw⟩⟩
  · rw [if_neg hc]
    split
    · exact ⟨_, ho, .inr ⟨hwn, k _ _ (ha.put hd) hw⟩⟩
    · exact ⟨_, ho, .inr ⟨hwn, k _ _ (ha.put hd) hw⟩⟩
theorem P_skipEU {j s : Nat} {b : Bool} (ho : ops[i]? = some ⟨some d, op, ty, pos, after, some (j, b)⟩) (hj : (ops[j]?).bind (·.dst) = some s) (hs : look fr s = some undef) (hsn : Nat.blt s n = true)
    (hd : Nat.blt d n = true) (k : T n (wpPlanR P ops Q cls A RL R p) ((d, undef) :: fr) L) (k2 : T n (wpPlanR P ops Q cls A RL R alt) fr L) : T n (wpPlanR P ops Q cls A RL R (.e i p alt)) fr L := by
  intro a w ha hw
  have hwn : Region.wanted ⟨some d, op, ty, pos, after, some (j, b)⟩ (yielded ops a.tmps) = false := unwanted_of hj ha hs hsn
  exact ⟨⟨_, ho, .inr ⟨hwn, k _ _ (ha.put hd) hw⟩⟩, k2 a w ha hw⟩
end
end Go.Proofs.YtlkgeeppfifeeaaGreat
