/- Copies of whole slices into own rows. -/
import Derived.Test.YtlkgeeppfifeeaaGreatNum
import Derived.Laws.IdiomCopy
namespace Go.Proofs.YtlkgeeppfifeeaaGreat
open Go Go.RowKit
variable {P : Program} {n : Nat} {N : Act → World → Prop} {Q : Exit → Act → World → Prop} {fr : List (Nat × Value)} {L : List Ent}

theorem flat_one {α : Type} {enc : α → List Value} : ∀ {l : List α}, (∀ x ∈ l, (enc x).length = 1) → (l.flatMap enc).length = l.length
  | [], _ => rfl
  | x :: r, h => by
    rw [List.flatMap_cons, List.length_append, h x List.mem_cons_self, flat_one (fun y hy => h y (List.mem_cons_of_mem _ hy)), List.length_cons]; omega
theorem writeAt_front : ∀ (vs cs : List Value), vs.length ≤ cs.length → (writeAt cs.toArray 0 vs).toList = vs ++ cs.drop vs.length
  | [], cs, _ => by simp [writeAt]
  | v :: r, [], h => by simp at h
  | v :: r, c :: cs, h => by
    simp only [writeAt, List.setIfInBounds_toArray, List.set_cons_zero]
    rw [writeAt_cons, writeAt_front r cs (by simpa using h)]
    simp
theorem Wh_copy {α : Type} {enc : α → List Value} {l : List α} {x y A m c t xs B m' c' K tt t2 e ty i L' d} {pos : String} {after : Array Edge} {guard : Option (Nat × Bool)}
    (hx : evo fr x = some (.slice A m c)) (hy : evo fr y = some (.slice B m' c')) (hr : Has K B m' c' 1 enc l) (hK : SubE K L) (hm : m' = m)
    (hL : SetE L i (.r A m c t 1 xs) (.r A m c t 1 (l.flatMap enc)) L') (ht : P.underlying tt = some (.slice e)) (hs : (P.info? e).map (·.size) = some 1) (h1 : ∀ x, allOne (enc x) = true) (hd : Nat.blt d n = true)
    (k : T n N ((d, .int .i64 (m : Int)) :: fr) L') :
    Wh P Q n ⟨some d, .call ⟨.builtin .copy, #[x, y], #[tt, t2]⟩, ty, pos, after, guard⟩ fr L N := by
  intro a w ha hw
  subst hm
  have hsl := hr.at hK hw
  have hlen := hr.len
  have hflat : (l.flatMap enc).length = m' := by rw [flat_one hr.esz, hlen]
  obtain ⟨hl, h2⟩ := hw.ok _ hL.mem
  rw [Nat.mul_one] at hl
  by_cases h0 : m' = 0
  · subst h0
    have hl0 : l = [] := List.eq_nil_of_length_eq_zero hlen
    have hx0 : xs = [] := List.eq_nil_of_length_eq_zero hl
    subst hl0; subst hx0
    have hrun : (execOp a.eval ⟨some d, .call ⟨.builtin .copy, #[x, y], #[tt, t2]⟩, ty, pos, after, guard⟩).run P w = .ok (.value (.int .i64 ((0 : Nat) : Int))) w := by
      have := run_copy_none (P := P) w tt t2 ty e A B 0 c 0 c' ht hs rfl
      simp [execOp, resolve, invoke, builtin, ha.eval hx, ha.eval hy, this, goInt]
    simp only [Oper.wp, hrun, Oper.upon_value]
    rw [hL.same rfl] at k
    exact k _ _ (ha.put hd) hw
  · rcases h2 with ⟨_, h3⟩ | ⟨g, cap, cur, hv, _, hb, h3, h4, h5, h6⟩
    · exact absurd h3 h0
    · injection hv with hg _ hcap
      subst hg; subst hcap
      obtain ⟨b, o, hB, hcell⟩ := hsl.at_ (by omega)
      subst hB
      have hst := run_storeCells_blk P g t (l.flatMap enc) 0 0 cur w hb (by rw [h5]; omega) (allOne_mem (by
        have : ∀ l : List α, allOne (l.flatMap enc) = true := by
          intro l
          induction l with
          | nil => rfl
          | cons x r ih =>
            rw [List.flatMap_cons]
            have ap : ∀ p q : List Value, allOne p = true → allOne q = true → allOne (p ++ q) = true := by
              intro p q hp hq
              induction p with
              | nil => exact hq
              | cons z p ihp => simp only [List.cons_append, allOne, Bool.and_eq_true] at hp ⊢; exact ⟨hp.1, ihp hp.2⟩
            exact ap _ _ (h1 x) ih
        exact this l))
      have hne : l.flatMap enc ≠ [] := by intro h; rw [h] at hflat; simp at hflat; omega
      rw [if_neg hne] at hst
      have hcs : ∀ (j : Nat) (v : Value), (l.flatMap enc)[j]? = some v → w.cell? ((⟨b, o, none⟩ : Addr).add j) = some v := by
        intro j v hj
        have hjl : j < l.length := by
          have := (List.getElem?_eq_some_iff.1 hj).1
          rw [flat_one hr.esz] at this; exact this
        have hu : ∃ u, enc l[j] = [u] := by
          have := hr.esz l[j] (List.getElem_mem hjl)
          match hh : enc l[j], this with
          | [u], _ => exact ⟨u, rfl⟩
        obtain ⟨u, hu⟩ := hu
        have hf := flat_at l j hjl hr.esz 0 u (by rw [hu]; rfl)
        rw [Nat.mul_one, Nat.add_zero, hj] at hf
        injection hf with hf
        have := hcell j hjl 0 u (by rw [hu]; rfl)
        rw [Addr.add_lit, hf]
        simpa using this
      have hload := run_loadCells_list (P := P) w (⟨b, o, none⟩ : Addr) (l.flatMap enc) hcs
      have hrun : (execOp a.eval ⟨some d, .call ⟨.builtin .copy, #[x, y], #[tt, t2]⟩, ty, pos, after, guard⟩).run P w = .ok (.value (.int .i64 (m' : Int))) (setBlk w g (.cells (writeAt cur (0 + 0) (l.flatMap enc)) t (0, 0))) := by
        cases hq : P.info? e with
        | none => simp [hq] at hs
        | some ii =>
          have hi : ii.size = 1 := by simpa [hq] using hs
          rw [hflat] at hload
          simp [execOp, resolve, invoke, builtin, ha.eval hx, ha.eval hy, Builtin.copy_, run_underlying ht, Builtin.lenOf, Builtin.firstCells, sizeOf, typeInfo, hq, hi, hload, hst, goInt]
      simp only [Oper.wp, hrun, Oper.upon_value]
      refine k _ _ (ha.put hd) (Heap.turn (e := .r (some ⟨g, 0, none⟩) m' c t 1 xs) (e' := .r (some ⟨g, 0, none⟩) m' c t 1 (l.flatMap enc)) (setBlk_grown w g _) ?_ (Nat.le_refl _) (fun _ hg => .inl hg) hL hw)
      refine ⟨by omega, .inr ⟨g, c, _, rfl, Nat.zero_le _, setBlk_at w g _ (lt_of_heap hb), h3, h4, by rw [writeAt_size]; exact h5, ?_⟩⟩
      rw [Nat.mul_one, ← hflat, Nat.add_zero]
      have hcl : cur.toList.length = cur.size := Array.length_toList
      have := writeAt_front (l.flatMap enc) cur.toList (by omega)
      rw [Array.toArray_toList] at this
      rw [this, List.take_left']
      rfl

/-! ### comparison of digits -/
def cmpN (x y : Nat) : Int := if x < y then -1 else if x = y then 0 else 1
theorem val_top {b : Nat} (hb : 0 < b) : ∀ (l r : List Nat) (k : Nat) (hk : k < l.length) (hk' : k < r.length), l.length = r.length → (∀ x ∈ l, x < b) → (∀ (j : Nat) (h : j < l.length) (h' : j < r.length), k < j → l[j] = r[j]) → l[k] < r[k] → val b l < val b r
  | [], _, _, hk, _, _, _, _, _ => by simp at hk
  | _ :: _, [], _, _, hk', _, _, _, _ => by simp at hk'
  | x :: l, y :: r, 0, _, _, hlen, _, heq, hlt => by
    have : l = r := List.ext_getElem (by simpa using hlen) (fun j h1 h2 => heq (j + 1) (by simpa using h1) (by simpa using h2) (by omega))
    subst this
    simp only [val]
    simpa using hlt
  | x :: l, y :: r, k + 1, hk, hk', hlen, hl, heq, hlt => by
    have ih := val_top hb l r k (by simpa using hk) (by simpa using hk') (by simpa using hlen) (fun z hz => hl z (List.mem_cons_of_mem _ hz))
      (fun j h1 h2 hj => heq (j + 1) (by simpa using h1) (by simpa using h2) (by omega)) (by simpa using hlt)
    have hx := hl x List.mem_cons_self
    simp only [val]
    have := Nat.mul_le_mul_left b (Nat.succ_le_of_lt ih)
    rw [Nat.succ_eq_add_one, Nat.mul_add] at this
    omega
theorem dig_len_lt {b x y : Nat} (hb : 2 ≤ b) (h : (dig b x).length < (dig b y).length) : x < y := by
  rcases Nat.lt_or_ge x y with h1 | h1
  · exact h1
  · exfalso
    have mono : ∀ (k x y : Nat), y ≤ k → y ≤ x → (dig b y).length ≤ (dig b x).length := by
      intro k
      induction k with
      | zero => intro x y hy _; have : y = 0 := by omega
                subst this; simp [dig_zero]
      | succ k ih =>
        intro x y hy hxy
        by_cases h0 : y = 0
        · subst h0; simp [dig_zero]
        · rw [dig_pos hb h0, dig_pos hb (show x ≠ 0 by omega)]
          have : y / b < y := Nat.div_lt_self (by omega) hb
          have := ih (x / b) (y / b) (by omega) (Nat.div_le_div_right hxy)
          simpa using this
    have := mono y x y (Nat.le_refl _) h1
    omega
theorem cmp_len {b x y : Nat} (hb : 2 ≤ b) {n m : Nat} (h1 : (dig b x).length = n) (h2 : (dig b y).length = m) : (n < m → cmpN x y = -1) ∧ (m < n → cmpN x y = 1) := by
  subst h1; subst h2
  constructor
  · intro h; have := dig_len_lt hb h; simp [cmpN, this]
  · intro h; have := dig_len_lt hb h; simp only [cmpN]; rw [if_neg (by omega), if_neg (by omega)]
theorem cmp_at {b x y : Nat} (hb : 2 ≤ b) {k : Nat} (hlen : (dig b x).length = (dig b y).length) (hk : k < (dig b x).length) (hk' : k < (dig b y).length)
    (heq : ∀ (j : Nat) (h : j < (dig b x).length) (h' : j < (dig b y).length), k < j → (dig b x)[j] = (dig b y)[j]) :
    ((dig b x)[k] < (dig b y)[k] → cmpN x y = -1) ∧ ((dig b y)[k] < (dig b x)[k] → cmpN x y = 1) := by
  constructor
  · intro h
    have := val_top (b := b) (by omega) _ _ k hk hk' hlen (dig_lt hb x) heq h
    rw [val_dig hb, val_dig hb] at this
    simp [cmpN, this]
  · intro h
    have := val_top (b := b) (by omega) _ _ k hk' hk hlen.symm (dig_lt hb y) (fun j h1 h2 hj => (heq j h2 h1 hj).symm) h
    rw [val_dig hb, val_dig hb] at this
    simp only [cmpN]; rw [if_neg (by omega), if_neg (by omega)]
theorem cmp_eq {b x y : Nat} (hb : 2 ≤ b) (hlen : (dig b x).length = (dig b y).length) (heq : ∀ (j : Nat) (h : j < (dig b x).length) (h' : j < (dig b y).length), (dig b x)[j] = (dig b y)[j]) : cmpN x y = 0 := by
  have : dig b x = dig b y := List.ext_getElem hlen heq
  have h2 := congrArg (val b) this
  rw [val_dig hb, val_dig hb] at h2
  simp [cmpN, h2]
theorem dig_len0 {b x n : Nat} (hb : 2 ≤ b) (h : (dig b x).length = n) : n = 0 ↔ x = 0 := by
  rw [← h, List.length_eq_zero_iff, dig_nil hb]

/-! ### lists of entries that a contract is given -/
theorem okApp {K K2 L : List Ent} {w w1 : World} (hK : ∀ e ∈ K, Ent.ok w e) (h0 : SubE [.old w] L) (h : SubE K2 L) (hw : Heap L w1) : ∀ e ∈ K ++ K2, Ent.ok w1 e := by
  intro e he
  rcases List.mem_append.1 he with he | he
  · exact Ent.ext (hK e he) (h0.ok w1 hw.ok _ List.mem_cons_self)
  · exact h.ok w1 hw.ok e he
theorem SubE.appL {K K2 : List Ent} : SubE K (K ++ K2) := .of fun _ h => List.mem_append_left _ h
theorem SubE.appR {K K1 K2 : List Ent} (h : SubE K1 K2) : SubE K1 (K ++ K2) := ⟨fun w hw => h.ok w fun x hx => hw x (List.mem_append_right _ hx)⟩

/-! ### digits by division -/
theorem dig_get {b : Nat} (hb : 2 ≤ b) : ∀ (i m : Nat) (h : i < (dig b m).length), (dig b m)[i] = m / b ^ i % b := by
  intro i
  induction i with
  | zero =>
    intro m h
    have h0 : m ≠ 0 := by intro h0; subst h0; simp [dig_zero] at h
    simp only [dig_pos hb h0, List.getElem_cons_zero, Nat.pow_zero, Nat.div_one]
  | succ i ih =>
    intro m h
    have h0 : m ≠ 0 := by intro h0; subst h0; simp [dig_zero] at h
    have h' : i < (dig b (m / b)).length := by rw [dig_pos hb h0] at h; simpa using h
    simp only [dig_pos hb h0, List.getElem_cons_succ]
    rw [ih _ h', Nat.div_div_eq_div_mul, Nat.pow_succ, Nat.mul_comm]
theorem dig_end {b : Nat} (hb : 2 ≤ b) : ∀ (i m : Nat), i < (dig b m).length ↔ m / b ^ i ≠ 0 := by
  intro i
  induction i with
  | zero =>
    intro m
    rw [Nat.pow_zero, Nat.div_one, List.length_pos_iff, ne_eq, dig_nil hb]
  | succ i ih =>
    intro m
    by_cases h0 : m = 0
    · subst h0; simp [dig_zero]
    · rw [dig_pos hb h0, List.length_cons, Nat.add_lt_add_iff_right, ih, Nat.div_div_eq_div_mul, Nat.pow_succ, Nat.mul_comm b]
theorem words_step {m i : Nat} (h : i < (dig 65536 m).length) : dig 4294967296 (m / 65536 ^ i) = ((dig 65536 m)[i] + m / 65536 ^ (i + 1) % 65536 * 65536) :: dig 4294967296 (m / 65536 ^ (i + 2)) := by
  have h1 := (dig_end (b := 65536) (by omega) i m).1 h
  rw [dig_pos (by omega) h1, dig_get (by omega) i m h]
  have e1 : m / 65536 ^ (i + 1) = m / 65536 ^ i / 65536 := by rw [Nat.div_div_eq_div_mul, Nat.pow_succ]
  have e2 : m / 65536 ^ (i + 2) = m / 65536 ^ i / 4294967296 := by rw [Nat.div_div_eq_div_mul, Nat.pow_add]
  rw [e1, e2]
  generalize m / 65536 ^ i = M
  congr 1
  omega
theorem words_last {m i : Nat} (h : ¬ i < (dig 65536 m).length) : dig 4294967296 (m / 65536 ^ i) = [] := by
  have h1 : m / 65536 ^ i = 0 := by
    rcases Nat.eq_zero_or_pos (m / 65536 ^ i) with h2 | h2
    · exact h2
    · exact absurd ((dig_end (b := 65536) (by omega) i m).2 (by omega)) h
  rw [h1]; rfl
theorem words_zero {m i : Nat} (h : ¬ i < (dig 65536 m).length) : m / 65536 ^ i = 0 := by
  rcases Nat.eq_zero_or_pos (m / 65536 ^ i) with h2 | h2
  · exact h2
  · exact absurd ((dig_end (b := 65536) (by omega) i m).2 (by omega)) h
theorem Ev_neg64 {P : Program} {n : Nat} {fr : List (Nat × Value)} {L : List Ent} {dst ty pos after guard t x} (z : Int) (h0 : -9223372036854775808 ≤ z) (h1 : z < 0) (hx : evo fr x = some (.int .u64 (((z % 18446744073709551616).toNat : Nat) : Int))) :
    Ev P n ⟨dst, .unOp .neg t x, ty, pos, after, guard⟩ fr L (.int .u64 ((z.natAbs : Nat) : Int)) := fun ac w ha _ => by
  have : IntKind.u64.wrap (0 - (((z % 18446744073709551616).toNat : Nat) : Int)) = ((z.natAbs : Nat) : Int) := by
    simp [IntKind.wrap, IntKind.bits, IntKind.signed]
    omega
  simp only [execOp, ha.eval hx, Op.unary, Op.intArith, this]
  rfl
end Go.Proofs.YtlkgeeppfifeeaaGreat
