/- Plain laws: rings; the laws' own check; LabelWithin, LabelPoints. -/
import Derived.Test.YtdkjcoonmgjpfaaX3
namespace Go.Proofs.Ytdkjcoonmgjpfaa
open Go Go.RowKit
/-- Twice the area of a triangle. -/
def cr (a b c : S_api_XY) : Int := (b.X - a.X) * (c.Y - a.Y) - (b.Y - a.Y) * (c.X - a.X)
theorem okXY_rng {p : S_api_XY} (h : okXY p = true) : -268435456 ≤ p.X ∧ p.X ≤ 268435456 ∧ -268435456 ≤ p.Y ∧ p.Y ≤ 268435456 := by
  simpa only [okXY, decide_eq_true_eq] using h
theorem mulm_bd {a b : Int} {m : Int} (ha : -m ≤ a ∧ a ≤ m) (hb : -m ≤ b ∧ b ≤ m) : -(m * m) ≤ a * b ∧ a * b ≤ m * m := by
  have hm : 0 ≤ m := by omega
  rcases Int.le_total 0 a with h | h <;> rcases Int.le_total 0 b with k | k
  · have h1 := Int.mul_le_mul ha.2 hb.2 k hm
    have h2 := Int.mul_nonneg h k
    omega
  · have h1 := Int.mul_le_mul (a := a) (b := -b) (c := m) (d := m) ha.2 (by omega) (by omega) hm
    have h2 := Int.mul_nonneg (a := a) (b := -b) h (by omega)
    rw [Int.mul_neg] at h1 h2
    omega
  · have h1 := Int.mul_le_mul (a := -a) (b := b) (c := m) (d := m) (by omega) hb.2 k hm
    have h2 := Int.mul_nonneg (a := -a) (b := b) (by omega) k
    rw [Int.neg_mul] at h1 h2
    omega
  · have h1 := Int.mul_le_mul (a := -a) (b := -b) (c := m) (d := m) (by omega) (by omega) (by omega) hm
    have h2 := Int.mul_nonneg (a := -a) (b := -b) (by omega) (by omega)
    rw [Int.neg_mul_neg] at h1 h2
    omega
theorem cr_w {a b c : S_api_XY} (ha : okXY a = true) (hb : okXY b = true) (hc : okXY c = true) :
    w64 ((w64 ((w64 (b.X - a.X)) * (w64 (c.Y - a.Y)))) - (w64 ((w64 (b.Y - a.Y)) * (w64 (c.X - a.X))))) = cr a b c := by
  have h1 := okXY_rng ha
  have h2 := okXY_rng hb
  have h3 := okXY_rng hc
  rw [w64_id (x := b.X - a.X) (by omega) (by omega), w64_id (x := c.Y - a.Y) (by omega) (by omega), w64_id (x := b.Y - a.Y) (by omega) (by omega), w64_id (x := c.X - a.X) (by omega) (by omega)]
  have e1 := mulm_bd (a := b.X - a.X) (b := c.Y - a.Y) (m := 536870912) (by omega) (by omega)
  have e2 := mulm_bd (a := b.Y - a.Y) (b := c.X - a.X) (m := 536870912) (by omega) (by omega)
  rw [w64_id (x := (b.X - a.X) * (c.Y - a.Y)) (by omega) (by omega), w64_id (x := (b.Y - a.Y) * (c.X - a.X)) (by omega) (by omega), w64_id (by omega) (by omega)]
  rfl
theorem cr_swap (a b c : S_api_XY) : cr b a c = -cr a b c := by unfold cr; grind
theorem turn_eq {a b c : S_api_XY} (ha : okXY a = true) (hb : okXY b = true) (hc : okXY c = true) : label_turn a b c = some (Int.sign (cr a b c)) := by
  simp only [label_turn, cr_w ha hb hc]
  rcases Int.lt_trichotomy (cr a b c) 0 with h | h | h
  · rw [if_neg (by omega), if_pos h, Int.sign_eq_neg_one_of_neg h]
  · rw [h]; rfl
  · rw [if_pos h, Int.sign_eq_one_of_pos h]
theorem rturn_eq {a b c : S_api_XY} (ha : okXY a = true) (hb : okXY b = true) (hc : okXY c = true) : lidarref01_Turn a b c = some (Int.sign (cr a b c)) := by
  simp only [lidarref01_Turn, cr_w ha hb hc]
  rcases Int.lt_trichotomy (cr a b c) 0 with h | h | h
  · rw [if_pos h, Int.sign_eq_neg_one_of_neg h]
  · rw [h]; rfl
  · rw [if_neg (by omega), if_pos h, Int.sign_eq_one_of_pos h]
def onB (c : S_api_XY) (s : S_api_XY × S_api_XY) : Bool := decide (cr s.1 s.2 c = 0 ∧ min s.1.X s.2.X ≤ c.X ∧ c.X ≤ max s.1.X s.2.X ∧ min s.1.Y s.2.Y ≤ c.Y ∧ c.Y ≤ max s.1.Y s.2.Y)
def croB (c : S_api_XY) (s : S_api_XY × S_api_XY) : Bool := decide ((s.1.Y ≤ c.Y ∧ c.Y < s.2.Y ∧ 0 < cr s.1 s.2 c) ∨ (c.Y < s.1.Y ∧ s.2.Y ≤ c.Y ∧ cr s.1 s.2 c < 0))
theorem sign_pos {x : Int} : 0 < Int.sign x ↔ 0 < x := by
  rcases Int.lt_trichotomy x 0 with h | h | h
  · rw [Int.sign_eq_neg_one_of_neg h]; omega
  · rw [h]; simp
  · rw [Int.sign_eq_one_of_pos h]; omega
theorem sign_neg {x : Int} : Int.sign x < 0 ↔ x < 0 := by
  rcases Int.lt_trichotomy x 0 with h | h | h
  · rw [Int.sign_eq_neg_one_of_neg h]; omega
  · rw [h]; simp
  · rw [Int.sign_eq_one_of_pos h]; omega
theorem sign_zero {x : Int} : Int.sign x = 0 ↔ x = 0 := Int.sign_eq_zero_iff_zero
theorem on_eq {a b c : S_api_XY} (ha : okXY a = true) (hb : okXY b = true) (hc : okXY c = true) : label_on a b c = some (onB c (a, b)) := by
  simp only [label_on, jn_d, turn_eq ha hb hc, bnd_s, within_eq, sign_zero, onB, decide_eq_true_eq]
  by_cases h : cr a b c = 0 <;> by_cases h2 : (min a.X b.X ≤ c.X ∧ c.X ≤ max a.X b.X) <;> simp [h, h2]
  all_goals (try omega)
theorem cro_eq {a b c : S_api_XY} (ha : okXY a = true) (hb : okXY b = true) (hc : okXY c = true) : label_crosses a b c = some (croB c (a, b)) := by
  simp only [label_crosses, turn_eq ha hb hc, turn_eq hb ha hc, bnd_s, croB, sign_pos, cr_swap a b c]
  by_cases h1 : c.Y < a.Y <;> by_cases h2 : c.Y < b.Y <;> simp [h1, h2]
  all_goals (try omega)
  · rw [if_neg (by omega)]; simp; omega
  · rw [if_pos (by omega)]; simp; omega
/-- The sides from p along l. -/
def pairs (p : S_api_XY) : List S_api_XY → List (S_api_XY × S_api_XY)
  | [] => []
  | q :: r => (p, q) :: pairs q r
def oddB {α : Type} (f : α → Bool) : List α → Bool
  | [] => false
  | x :: r => f x != oddB f r
theorem oddB_app {α : Type} (f : α → Bool) : ∀ l m : List α, oddB f (l ++ m) = (oddB f l != oddB f m)
  | [], m => by simp [oddB]
  | x :: r, m => by simp only [List.cons_append, oddB, oddB_app f r m]; cases f x <;> cases oddB f r <;> cases oddB f m <;> rfl
theorem oddB_perm {α : Type} (f : α → Bool) {l m : List α} (h : l.Perm m) : oddB f l = oddB f m := by
  induction h with
  | nil => rfl
  | cons x _ ih => simp only [oddB, ih]
  | swap x y l => simp only [oddB]; cases f x <;> cases f y <;> cases oddB f l <;> rfl
  | trans _ _ h1 h2 => rw [h1, h2]
/-- Whether a place lies within sides. -/
def insB (c : S_api_XY) (S : List (S_api_XY × S_api_XY)) : Bool := S.any (onB c) || oddB (croB c) S
theorem insB_perm {c : S_api_XY} {S S' : List (S_api_XY × S_api_XY)} (h : S.Perm S') : insB c S = insB c S' := by
  unfold insB
  rw [oddB_perm _ h]
  have : S.any (onB c) = S'.any (onB c) := by
    rw [Bool.eq_iff_iff, List.any_eq_true, List.any_eq_true]
    simp only [h.mem_iff]
  rw [this]
def sides : List S_api_XY → List (S_api_XY × S_api_XY)
  | [] => []
  | a :: r => pairs a (r ++ [a])
theorem pairs_app (p : S_api_XY) : ∀ (l m : List S_api_XY), pairs p (l ++ m) = pairs p l ++ pairs ((p :: l).getLast (List.cons_ne_nil _ _)) m
  | [], m => rfl
  | q :: r, m => by
    have := pairs_app q r m
    simp only [List.cons_append, pairs, this]
    rw [List.getLast_cons (List.cons_ne_nil q r)]
theorem pairs_len (p : S_api_XY) : ∀ l : List S_api_XY, (pairs p l).length = l.length
  | [] => rfl
  | q :: r => by simp [pairs, pairs_len q r]
theorem pairs_get (p : S_api_XY) : ∀ (l : List S_api_XY) (j : Nat) (h : j < (pairs p l).length), (pairs p l)[j] = ((p :: l)[j]'(by rw [pairs_len] at h; simp; omega), l[j]'(by rw [pairs_len] at h; exact h))
  | [], j, h => by simp [pairs] at h
  | q :: r, 0, h => rfl
  | q :: r, j + 1, h => by
    have := pairs_get q r j (by simpa [pairs] using h)
    simp only [pairs, List.getElem_cons_succ, this]
def inF (c : S_api_XY) (s : Bool × S_api_XY) (q : S_api_XY) : Sum (Bool × S_api_XY) (Sum Bool Bool) := if onB c (s.2, q) = true then .inr (.inr true) else .inl (if croB c (s.2, q) = true then !s.1 else s.1, q)
theorem inF_eq (c : S_api_XY) : ∀ (l : List S_api_XY) (s : Bool × S_api_XY), foldE (inF c) (fun s => (.inl s.1 : Sum Bool Bool)) l s = if (pairs s.2 l).any (onB c) = true then .inr true else .inl (s.1 != oddB (croB c) (pairs s.2 l))
  | [], s => by simp [foldE, pairs, oddB]
  | q :: r, s => by
    unfold foldE inF
    by_cases h : onB c (s.2, q) = true
    · rw [if_pos h]; simp [pairs, h]
    · rw [if_neg h]
      dsimp only
      have ih := inF_eq c r (if croB c (s.2, q) = true then !s.1 else s.1, q)
      unfold inF at ih
      rw [ih]
      have h' : onB c (s.2, q) = false := by simpa using h
      simp only [pairs, List.any_cons, h', Bool.false_or, oddB]
      cases croB c (s.2, q) <;> cases s.1 <;> cases oddB (croB c) (pairs q r) <;> rfl
theorem inRing_eq {l : List S_api_XY} (h1 : ∀ p ∈ l, okXY p = true) (h0 : 0 < l.length) (h2 : l.length ≤ 1000) {c : S_api_XY} (hc : okXY c = true) : label_inRing l c = some (insB c (sides l)) := by
  have hlast : l.length - 1 < l.length := by omega
  have hw : w64 ((((l.length : Nat) : Int)) - 1) = ((l.length - 1 : Nat) : Int) := by rw [w64_id (by omega) (by omega)]; omega
  unfold label_inRing
  rw [hw, idx_nat hlast, bnd_s, jn_d]
  have key := lfix_foldE l (fun (s : Bool × S_api_XY) (j : Int) => (s.1, s.2.X, s.2.Y, j)) (inF c) (fun s => (.inl s.1 : Sum Bool Bool)) (label_inRing_l4 l c) (fun _ s => okXY s.2 = true) ?_ ?_ (false, l[l.length - 1]) (h1 _ (List.getElem_mem hlast))
  · have key' : lfix (label_inRing_l4 l c) (false, l[l.length - 1].X, l[l.length - 1].Y, 0) = _ := key
    rw [key', bnd_s, inF_eq]
    have hp : (pairs l[l.length - 1] l).Perm (sides l) := by
      cases l with
      | nil => simp at h0
      | cons a r =>
        show (pairs _ (a :: r)).Perm (pairs a (r ++ [a]))
        rw [pairs_app]
        have : (a :: r)[(a :: r).length - 1] = (a :: r).getLast (List.cons_ne_nil _ _) := by rw [List.getLast_eq_getElem]
        rw [this]
        exact (List.perm_append_singleton _ _).symm
    have e := insB_perm (c := c) hp
    unfold insB at e ⊢
    rw [← e]
    cases (pairs l[l.length - 1] l).any (onB c) <;> simp
  · rintro j hj ⟨b, p⟩ hp
    dsimp only at hp
    have hq := h1 _ (List.getElem_mem hj)
    have hb : (⟨p.X, p.Y⟩ : S_api_XY) = p := rfl
    unfold inF
    simp only [label_inRing_l4, if_pos (show (j : Int) < ((l.length : Nat) : Int) by omega), jn_d, idx_nat hj, bnd_s, hb, on_eq hp hq hc, cro_eq hp hq hc, w64_succ (show j < 9223372036854775807 by omega)]
    by_cases g : onB c (p, l[j]) = true
    · right; exact ⟨_, by rw [if_pos g], by rw [if_pos g]⟩
    · left
      refine ⟨_, by rw [if_neg g], ?_, hq⟩
      rw [if_neg g]
      by_cases g2 : croB c (p, l[j]) = true <;> simp [g2]
  · intro s _
    simp only [label_inRing_l4, Int.lt_irrefl, if_false]
def okRing (l : List S_api_XY) : Bool := decide (3 ≤ l.length ∧ l.length ≤ 64) && l.all okXY
theorem validRing_eq (l : List S_api_XY) : label_validRing l = some (okRing l) := by
  simp only [label_validRing, within_eq, bnd_s, decide_eq_true_eq, jn_d, okRing]
  by_cases h : (3 : Int) ≤ ((l.length : Nat) : Int) ∧ ((l.length : Nat) : Int) ≤ 64
  · rw [if_pos h, decide_eq_true (show 3 ≤ l.length ∧ l.length ≤ 64 by omega), Bool.true_and]
    rw [lfix_all (β := Unit) (γ := Bool) l okXY (label_validRing_l4 l) () false ?_ ?_, bnd_s]
    · by_cases hk : l.all okXY = true <;> simp [hk]
    · intro j hj
      simp only [label_validRing_l4, if_pos (show (j : Int) < ((l.length : Nat) : Int) by omega), idx_nat hj, bnd_s, validPlace_eq, w64_succ (show j < 9223372036854775807 by omega)]
    · simp only [label_validRing_l4, Int.lt_irrefl, if_false]
  · rw [if_neg h, decide_eq_false (show ¬ (3 ≤ l.length ∧ l.length ≤ 64) by omega), Bool.false_and]
theorem ring_eq {l : List S_api_XY} (hl : l.length ≤ 1000) : lidarref07_Ring l = some (okRing l) := by
  simp only [lidarref07_Ring, jn_d, okRing]
  rw [lfix_all (β := Unit) (γ := Bool) l okXY (lidarref07_Ring_l2 l) () false ?_ ?_, bnd_s]
  · by_cases hk : l.all okXY = true
    · simp only [hk, if_true, Bool.and_true]
      by_cases h3 : 3 ≤ l.length
      · rw [if_pos (by omega)]; congr 1; simp only [decide_eq_decide]; omega
      · rw [if_neg (by omega)]; congr 1; symm; rw [decide_eq_false_iff_not]; omega
    · simp [hk]
  · intro j hj
    simp only [lidarref07_Ring_l2, if_pos (show (j : Int) < ((l.length : Nat) : Int) by omega), idx_nat hj, bnd_s, place_eq', w64_succ (show j < 9223372036854775807 by omega)]
  · simp only [lidarref07_Ring_l2, Int.lt_irrefl, if_false]
def withinS (l : List S_api_XY) (c : S_api_XY) : Bool × Int := if okRing l = true then (if okXY c = true then (insB c (sides l), 0) else (false, 11)) else (false, 72)
theorem okRing_spec {l : List S_api_XY} (h : okRing l = true) : 3 ≤ l.length ∧ l.length ≤ 64 ∧ ∀ p ∈ l, okXY p = true := by
  simp only [okRing, Bool.and_eq_true, decide_eq_true_eq, List.all_eq_true] at h
  exact ⟨h.1.1, h.1.2, h.2⟩
theorem Within_eq (l : List S_api_XY) (c : S_api_XY) : label_Within l c = some (withinS l c) := by
  simp only [label_Within, validRing_eq, bnd_s, validPlace_eq, withinS]
  by_cases h : okRing l = true
  · obtain ⟨h1, h2, h3⟩ := okRing_spec h
    by_cases hc : okXY c = true
    · simp only [h, hc, if_true, inRing_eq h3 (by omega) (by omega) hc, bnd_s]
    · simp [h, hc]
  · simp [h]
def outF (c : S_api_XY) (s : Bool) (q : S_api_XY × S_api_XY) : Sum Bool (Sum Bool (Bool × Int)) := if onB c q = true then .inr (.inr (true, 0)) else .inl (if croB c q = true then !s else s)
theorem outF_eq (c : S_api_XY) : ∀ (S : List (S_api_XY × S_api_XY)) (s : Bool), foldE (outF c) (fun s => (.inl s : Sum Bool (Bool × Int))) S s = if S.any (onB c) = true then .inr (true, 0) else .inl (s != oddB (croB c) S)
  | [], s => by simp [foldE, oddB]
  | q :: r, s => by
    unfold foldE outF
    by_cases h : onB c q = true
    · rw [if_pos h]; simp [h]
    · rw [if_neg h]
      dsimp only
      have ih := outF_eq c r (if croB c q = true then !s else s)
      unfold outF at ih
      rw [ih]
      have h' : onB c q = false := by simpa using h
      simp only [List.any_cons, h', Bool.false_or, oddB]
      cases croB c q <;> cases s <;> cases oddB (croB c) r <;> rfl
theorem sides_len (l : List S_api_XY) : (sides l).length = l.length := by
  cases l with
  | nil => rfl
  | cons a r => simp [sides, pairs_len]
theorem sides_get {l : List S_api_XY} {j : Nat} (hj : j < l.length) : (sides l)[j]'(by rw [sides_len]; exact hj) = (l[j], l[(j + 1) % l.length]'(Nat.mod_lt _ (by omega))) := by
  cases l with
  | nil => simp at hj
  | cons a r =>
    simp only [sides]
    rw [pairs_get]
    have e1 : (a :: (r ++ [a]))[j]'(by simp at hj ⊢; omega) = (a :: r)[j] := by
      have : a :: (r ++ [a]) = (a :: r) ++ [a] := rfl
      simp only [this]
      rw [List.getElem_append_left hj]
    rw [e1]
    congr 1
    simp only [List.length_cons] at hj ⊢
    rcases Nat.lt_or_ge (j + 1) (r.length + 1) with h | h
    · simp only [Nat.mod_eq_of_lt h, List.getElem_cons_succ]
      rw [List.getElem_append_left (by omega)]
    · obtain rfl : j = r.length := by omega
      simp
theorem rWithin_eq {l : List S_api_XY} (hl : l.length ≤ 1000) (c : S_api_XY) : lidarref07_Within l c = some (withinS l c) := by
  simp only [lidarref07_Within, ring_eq hl, bnd_s, place_eq', withinS, jn_d]
  by_cases h : okRing l = true
  · obtain ⟨h1, h2, h3⟩ := okRing_spec h
    by_cases hc : okXY c = true
    · simp only [h, hc, if_true]
      have key := lfix_foldE (sides l) (fun (s : Bool) (j : Int) => (s, j)) (outF c) (fun s => (.inl s : Sum Bool (Bool × Int))) (lidarref07_Within_l7 l c) (fun _ _ => True) ?_ ?_ false trivial
      · rw [key, bnd_s, outF_eq]
        unfold insB
        cases (sides l).any (onB c) <;> simp
      · intro j hj s _
        rw [sides_len] at hj
        have hm : (j + 1) % l.length < l.length := Nat.mod_lt _ (by omega)
        have ha := h3 _ (List.getElem_mem hj)
        have hb := h3 _ (List.getElem_mem hm)
        have e1 : Int.tmod ((j + 1 : Nat) : Int) ((l.length : Nat) : Int) = (((j + 1) % l.length : Nat) : Int) := by
          rw [Int.tmod_eq_emod_of_nonneg (by omega)]; rfl
        have hp : (⟨l[j].X, l[j].Y⟩ : S_api_XY) = l[j] := rfl
        have hq : (⟨l[(j + 1) % l.length].X, l[(j + 1) % l.length].Y⟩ : S_api_XY) = l[(j + 1) % l.length] := rfl
        have hs : (sides l)[j]'(by rw [sides_len]; exact hj) = (l[j], l[(j + 1) % l.length]) := sides_get hj
        unfold outF
        rw [hs]
        simp only [lidarref07_Within_l7, if_pos (show (j : Int) < ((l.length : Nat) : Int) by omega), jn_d, idx_nat hj, bnd_s, e1, gd_t (show ((l.length : Nat) : Int) ≠ 0 by omega), idx_nat hm, hp, hq, rturn_eq ha hb hc, rwithin_eq, sign_zero, sign_pos, sign_neg, w64_succ (show j < 9223372036854775807 by omega)]
        generalize l[j] = p at ha ⊢
        generalize l[(j + 1) % l.length] = q at hb ⊢
        have hon : (if cr p q c = 0 then (if decide (min p.X q.X ≤ c.X ∧ c.X ≤ max p.X q.X) = true then decide (min p.Y q.Y ≤ c.Y ∧ c.Y ≤ max p.Y q.Y) else false) else false) = onB c (p, q) := by
          unfold onB
          by_cases g1 : cr p q c = 0 <;> by_cases g2 : (min p.X q.X ≤ c.X ∧ c.X ≤ max p.X q.X) <;> simp [g1, g2]
          all_goals (try omega)
        by_cases g : onB c (p, q) = true
        · right
          refine ⟨_, by rw [if_pos g], ?_⟩
          simp only [onB, decide_eq_true_eq] at g
          simp [g.1, g.2.1, g.2.2.1, g.2.2.2.1, g.2.2.2.2]
        · left
          refine ⟨_, by rw [if_neg g], ?_, trivial⟩
          have main : ∀ (b30 b31 : Bool), b30 = decide (p.Y ≤ c.Y ∧ c.Y < q.Y) → b31 = decide (c.Y < p.Y ∧ q.Y ≤ c.Y) → (if b30 = true then (if 0 < cr p q c then true else (if b31 = true then decide (cr p q c < 0) else false)) else (if b31 = true then decide (cr p q c < 0) else false)) = croB c (p, q) := by
            rintro _ _ rfl rfl
            unfold croB
            by_cases k1 : p.Y ≤ c.Y <;> by_cases k2 : c.Y < q.Y <;> by_cases k3 : 0 < cr p q c <;> by_cases k4 : cr p q c < 0 <;> simp [k1, k2, k3, k4]
            all_goals omega
          have m := main _ _ rfl rfl
          clear main
          simp only [onB, decide_eq_true_eq] at g
          rw [← m]
          by_cases k0 : cr p q c = 0
          · have g' : ¬ ((min p.X q.X ≤ c.X ∧ c.X ≤ max p.X q.X) ∧ (min p.Y q.Y ≤ c.Y ∧ c.Y ≤ max p.Y q.Y)) := fun h => g ⟨k0, h.1.1, h.1.2, h.2.1, h.2.2⟩
            by_cases k5 : (min p.X q.X ≤ c.X ∧ c.X ≤ max p.X q.X)
            · have k6 : ¬ (min p.Y q.Y ≤ c.Y ∧ c.Y ≤ max p.Y q.Y) := fun h => g' ⟨k5, h⟩
              by_cases k1 : p.Y ≤ c.Y <;> by_cases k2 : c.Y < q.Y <;> simp [k0, k5, k6, k1, k2]
              all_goals (try omega)
            · by_cases k1 : p.Y ≤ c.Y <;> by_cases k2 : c.Y < q.Y <;> simp [k0, k5, k1, k2]
              all_goals (try omega)
          · by_cases k1 : p.Y ≤ c.Y <;> by_cases k2 : c.Y < q.Y <;> by_cases k3 : 0 < cr p q c <;> simp [k0, k1, k2, k3]
            all_goals (first | omega | grind)
      · intro s _
        simp only [lidarref07_Within_l7, sides_len, Int.lt_irrefl, if_false]
    · simp [h, hc]
  · simp [h]
end Go.Proofs.Ytdkjcoonmgjpfaa
