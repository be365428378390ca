/- LabelRings in plain Lean. -/
import Derived.Test.YtdkjcoonmgjpfaaX5
import Derived.Test.YtdkjcoonmgjpfaaJ5
namespace Go.Proofs.Ytdkjcoonmgjpfaa
open Go Go.RowKit
theorem sides_rot1 (a : S_api_XY) (r : List S_api_XY) : (sides (r ++ [a])).Perm (sides (a :: r)) := by
  cases r with
  | nil => exact List.Perm.refl _
  | cons b r =>
    show (pairs b (r ++ [a] ++ [b])).Perm ((a, b) :: pairs b (r ++ [a]))
    rw [pairs_app]
    have : (b :: (r ++ [a])).getLast (List.cons_ne_nil _ _) = a := by rw [List.getLast_eq_getElem]; simp
    rw [this]
    exact List.perm_append_singleton _ _
theorem sides_rot (l : List S_api_XY) : ∀ k, k ≤ l.length → (sides (l.drop k ++ l.take k)).Perm (sides l)
  | 0, _ => by simp
  | k + 1, hk => by
    have hlt : k < l.length := by omega
    have ih := sides_rot l k (by omega)
    rw [List.drop_eq_getElem_cons hlt] at ih
    have e : l.take (k + 1) = l.take k ++ [l[k]] := by rw [List.take_add_one, List.getElem?_eq_getElem hlt]; rfl
    rw [e, ← List.append_assoc]
    exact (sides_rot1 _ _).trans ih
def swp (s : S_api_XY × S_api_XY) : S_api_XY × S_api_XY := (s.2, s.1)
theorem pairs_rev (p q : S_api_XY) : ∀ l : List S_api_XY, pairs p (l.reverse ++ [q]) = ((pairs q (l ++ [p])).map swp).reverse := by
  intro l
  induction l generalizing q with
  | nil => rfl
  | cons x r ih =>
    have h := ih x
    simp only [List.reverse_cons, List.cons_append, pairs, List.map_cons, List.reverse_cons]
    rw [← h, pairs_app p (r.reverse ++ [x]) [q]]
    have : (p :: (r.reverse ++ [x])).getLast (List.cons_ne_nil _ _) = x := by rw [List.getLast_eq_getElem]; simp
    rw [this]; rfl
theorem sides_rev (l : List S_api_XY) : (sides l.reverse).Perm ((sides l).map swp) := by
  cases l with
  | nil => exact List.Perm.refl _
  | cons a r =>
    rw [List.reverse_cons]
    refine (sides_rot1 _ _).trans ?_
    show (pairs a (r.reverse ++ [a])).Perm ((pairs a (r ++ [a])).map swp)
    rw [pairs_rev]
    exact List.reverse_perm _
theorem cr_swp (a b c : S_api_XY) : cr b a c = -cr a b c := cr_swap a b c
theorem onB_swp (c : S_api_XY) (s : S_api_XY × S_api_XY) : onB c (swp s) = onB c s := by
  unfold onB swp
  rw [cr_swap s.1 s.2 c]
  simp only [decide_eq_decide]; omega
theorem croB_swp (c : S_api_XY) (s : S_api_XY × S_api_XY) : croB c (swp s) = croB c s := by
  unfold croB swp
  rw [cr_swap s.1 s.2 c]
  simp only [decide_eq_decide]; omega
theorem oddB_map {α β : Type} (f : β → Bool) (g : α → β) : ∀ l : List α, oddB f (l.map g) = oddB (fun x => f (g x)) l
  | [] => rfl
  | x :: r => by simp only [List.map_cons, oddB, oddB_map f g r]
theorem insB_swp (c : S_api_XY) (S : List (S_api_XY × S_api_XY)) : insB c (S.map swp) = insB c S := by
  unfold insB
  rw [oddB_map, List.any_map]
  have e1 : (fun x => croB c (swp x)) = croB c := funext (croB_swp c)
  have e2 : onB c ∘ swp = onB c := funext (onB_swp c)
  rw [e1, e2]
theorem okRing_perm {l m : List S_api_XY} (h : l.Perm m) : okRing l = okRing m := by
  unfold okRing
  rw [h.length_eq]
  congr 1
  rw [Bool.eq_iff_iff, List.all_eq_true, List.all_eq_true]
  simp only [h.mem_iff]
theorem foldl_two {α β : Type} (g h : α → β) : ∀ (l : List α) (s : List β × List β), l.foldl (fun s x => (s.1 ++ [g x], s.2 ++ [h x])) s = (s.1 ++ l.map g, s.2 ++ l.map h)
  | [], s => by simp
  | x :: r, s => by rw [List.foldl_cons, foldl_two g h r]; simp
theorem built_eq {l : List S_api_XY} (h0 : 0 < l.length) (h1 : l.length ≤ 100) {t : Int} (ht0 : 0 ≤ t) (ht : t ≤ 255) :
    lfix (lidarlaw07_LabelRings_l10 l t) ([], [], 0) = some (l.drop (t.toNat % l.length) ++ l.take (t.toNat % l.length), l.reverse) := by
  let z : S_api_XY := ⟨0, 0⟩
  have key := lfix_foldE (List.range l.length) (fun (s : List S_api_XY × List S_api_XY) (j : Int) => (s.1, s.2, j)) (fun s j => .inl (s.1 ++ [l.getD ((j + t.toNat) % l.length) z], s.2 ++ [l.getD (l.length - 1 - j) z])) (id : _ → List S_api_XY × List S_api_XY) (lidarlaw07_LabelRings_l10 l t)
    (fun j s => s.1.length = j ∧ s.2.length = j) ?_ ?_ ([], []) ⟨rfl, rfl⟩
  · have key' : lfix (lidarlaw07_LabelRings_l10 l t) ([], [], 0) = _ := key
    rw [key', foldE_foldl, foldl_two]
    simp only [List.nil_append, id]
    congr 2
    · have hm : t.toNat % l.length < l.length := Nat.mod_lt _ h0
      apply List.ext_getElem
      · simp; omega
      · intro i h2 h3
        have hi : i < l.length := by simpa using h2
        simp only [List.getElem_map, List.getElem_range]
        have hml : (i + t.toNat) % l.length < l.length := Nat.mod_lt _ h0
        rw [List.getD_eq_getElem?_getD, List.getElem?_eq_getElem hml, Option.getD_some]
        have hmod : (i + t.toNat) % l.length = (i + t.toNat % l.length) % l.length := by rw [Nat.add_mod, Nat.mod_eq_of_lt hi]
        rcases Nat.lt_or_ge i (l.length - t.toNat % l.length) with h4 | h4
        · rw [List.getElem_append_left (by simpa using h4), List.getElem_drop]
          have : (i + t.toNat) % l.length = t.toNat % l.length + i := by rw [hmod, Nat.mod_eq_of_lt (by omega)]; omega
          simp only [this]
        · rw [List.getElem_append_right (by simpa using h4), List.getElem_take]
          have : (i + t.toNat) % l.length = i - (l.length - t.toNat % l.length) := by
            rw [hmod, Nat.mod_eq_sub_mod (by omega), Nat.mod_eq_of_lt (by omega)]; omega
          simp only [this, List.length_drop]
    · apply List.ext_getElem
      · simp
      · intro i h2 h3
        have hi : i < l.length := by simpa using h2
        simp only [List.getElem_map, List.getElem_range, List.getElem_reverse]
        rw [List.getD_eq_getElem?_getD, List.getElem?_eq_getElem (by omega), Option.getD_some]
  · intro j hj s hC
    have hj' : j < l.length := by simpa using hj
    left
    refine ⟨_, rfl, ?_, by simp [hC.1, hC.2]⟩
    have hm : (j + t.toNat) % l.length < l.length := Nat.mod_lt _ h0
    have e0 : w64 t = t := w64_id (by omega) (by omega)
    have e1 : Int.tmod (w64 ((j : Int) + t)) ((l.length : Nat) : Int) = (((j + t.toNat) % l.length : Nat) : Int) := by
      rw [w64_id (by omega) (by omega), Int.tmod_eq_emod_of_nonneg (by omega)]
      have : (j : Int) + t = ((j + t.toNat : Nat) : Int) := by omega
      rw [this]; rfl
    have e2 : w64 ((w64 ((((l.length : Nat) : Int)) - 1)) - (j : Int)) = ((l.length - 1 - j : Nat) : Int) := by
      rw [w64_id (x := ((l.length : Nat) : Int) - 1) (by omega) (by omega), w64_id (by omega) (by omega)]; omega
    have hb : l.length - 1 - j < l.length := by omega
    simp only [lidarlaw07_LabelRings_l10, if_pos (show (j : Int) < ((l.length : Nat) : Int) by omega), gd_t (show ((l.length : Nat) : Int) ≠ 0 by omega), e0, e1, e2, idx_nat hm, idx_nat hb, bnd_s,
      gd_t (show (s.1.length + 1) * 16 ≤ 140737488355328 by omega), gd_t (show (s.2.length + 1) * 16 ≤ 140737488355328 by omega), w64_succ (show j < 9223372036854775807 by omega), List.getElem_range,
      List.getD_eq_getElem?_getD, List.getElem?_eq_getElem hm, List.getElem?_eq_getElem hb, Option.getD_some]
  · intro s _
    simp only [lidarlaw07_LabelRings_l10, List.length_range, Int.lt_irrefl, if_false, id]
theorem within_ok {l : List S_api_XY} {c : S_api_XY} (h : okRing l = true) (hc : okXY c = true) : withinS l c = (insB c (sides l), 0) := by
  unfold withinS; rw [if_pos h, if_pos hc]
theorem half_eq {x : Int} (h : -536870912 ≤ x ∧ x ≤ 536870912) (he : Int.tmod x 2 = 0) : 2 * Int.tdiv x 2 = x := by
  have := Int.mul_tdiv_add_tmod x 2
  omega
theorem labelRings_eq (l : List S_api_XY) (c : S_api_XY) (t : Int) (ht0 : 0 ≤ t) (ht : t ≤ 255) : lidarlaw07_LabelRings l c t = some true := by
  unfold lidarlaw07_LabelRings
  by_cases hl : 100 < ((l.length : Nat) : Int)
  · rw [if_pos hl, first_eq]; rfl
  · rw [if_neg hl, Within_eq, bnd_s]
    have hl' : l.length ≤ 100 := by omega
    by_cases h : okRing l = true
    · by_cases hc : okXY c = true
      · obtain ⟨h1, h2, h3⟩ := okRing_spec h
        rw [within_ok h hc]
        have h0 : 0 < l.length := by omega
        have hm : t.toNat % l.length < l.length := Nat.mod_lt _ h0
        have hm2 : (t.toNat % l.length + 1) % l.length < l.length := Nat.mod_lt _ h0
        have hp1 : (l.drop (t.toNat % l.length) ++ l.take (t.toNat % l.length)).Perm l := by
          have := List.perm_append_comm (l₁ := l.drop (t.toNat % l.length)) (l₂ := l.take (t.toNat % l.length))
          rwa [List.take_append_drop] at this
        have w1 : withinS (l.drop (t.toNat % l.length) ++ l.take (t.toNat % l.length)) c = (insB c (sides l), 0) := by
          rw [within_ok (by rw [okRing_perm hp1]; exact h) hc, insB_perm (sides_rot l _ (by omega))]
        have w2 : withinS l.reverse c = (insB c (sides l), 0) := by
          rw [within_ok (by rw [okRing_perm (List.reverse_perm l)]; exact h) hc, insB_perm (sides_rev l), insB_swp]
        have e0 : w64 t = t := w64_id (by omega) (by omega)
        have e1 : Int.tmod t ((l.length : Nat) : Int) = ((t.toNat % l.length : Nat) : Int) := by
          rw [Int.tmod_eq_emod_of_nonneg ht0]
          have : t = ((t.toNat : Nat) : Int) := by omega
          rw [this]; rfl
        have e2 : Int.tmod (w64 (((t.toNat % l.length : Nat) : Int) + 1)) ((l.length : Nat) : Int) = (((t.toNat % l.length + 1) % l.length : Nat) : Int) := by
          rw [w64_succ (by omega), Int.tmod_eq_emod_of_nonneg (by omega)]; rfl
        have hne : ¬ (((l.length : Nat) : Int)) = 0 := by omega
        simp only [if_true, if_neg hne, jn_d, built_eq h0 hl' ht0 ht, bnd_s, Within_eq, w1, w2, beq_self_eq_true, Bool.not_true, Bool.false_eq_true, if_false, gd_t (show ((l.length : Nat) : Int) ≠ 0 from hne), e0, e1, e2, idx_nat hm, idx_nat hm2]
        have ha := h3 _ (List.getElem_mem hm)
        have hb := h3 _ (List.getElem_mem hm2)
        have hs : (l[t.toNat % l.length], l[(t.toNat % l.length + 1) % l.length]) ∈ sides l := by
          rw [← sides_get hm]; exact List.getElem_mem _
        generalize l[t.toNat % l.length] = p at ha hs ⊢
        generalize l[(t.toNat % l.length + 1) % l.length] = q at hb hs ⊢
        have on_in : ∀ d, onB d (p, q) = true → insB d (sides l) = true := fun d hd => by
          unfold insB
          rw [List.any_eq_true.2 ⟨_, hs, hd⟩]; rfl
        have hpp : (⟨p.X, p.Y⟩ : S_api_XY) = p := rfl
        have k1 : insB p (sides l) = true := on_in p (by unfold onB; simp only [decide_eq_true_eq]; refine ⟨by unfold cr; simp, by omega, by omega, by omega, by omega⟩)
        rw [hpp, within_ok h ha, k1]
        have ra := okXY_rng ha
        have rb := okXY_rng hb
        simp only [if_true, Bool.not_true, Bool.false_eq_true, if_false, w64_id (x := p.X + q.X) (by omega) (by omega), w64_id (x := p.Y + q.Y) (by omega) (by omega)]
        by_cases cx : Int.tmod (p.X + q.X) 2 = 0
        · by_cases cy : Int.tmod (p.Y + q.Y) 2 = 0
          · have hx := half_eq (by omega) cx
            have hy := half_eq (by omega) cy
            generalize Int.tdiv (p.X + q.X) 2 = x at hx ⊢
            generalize Int.tdiv (p.Y + q.Y) 2 = y at hy ⊢
            have hd : okXY ⟨w64 x, w64 y⟩ = true := by
              rw [w64_id (x := x) (by omega) (by omega), w64_id (x := y) (by omega) (by omega)]
              simp only [okXY, decide_eq_true_eq]; omega
            have k2 : insB ⟨w64 x, w64 y⟩ (sides l) = true := on_in _ (by
              rw [w64_id (x := x) (by omega) (by omega), w64_id (x := y) (by omega) (by omega)]
              unfold onB; simp only [decide_eq_true_eq]
              refine ⟨?_, by omega, by omega, by omega, by omega⟩
              unfold cr
              have f1 : 2 * (y - p.Y) = q.Y - p.Y := by omega
              have f2 : 2 * (x - p.X) = q.X - p.X := by omega
              have f3 : 2 * ((q.X - p.X) * (y - p.Y) - (q.Y - p.Y) * (x - p.X)) = 0 := by
                have g1 : 2 * ((q.X - p.X) * (y - p.Y)) = (q.X - p.X) * (q.Y - p.Y) := by rw [← f1]; grind
                have g2 : 2 * ((q.Y - p.Y) * (x - p.X)) = (q.X - p.X) * (q.Y - p.Y) := by rw [← f2]; grind
                omega
              dsimp only
              omega)
            simp only [cx, cy, if_true, decide_true, Bool.not_true, Bool.false_eq_true, if_false, within_ok h hd, k2, first_eq, bnd_s]
          · simp [cx, cy, first_eq, bnd_s]
        · simp [cx, first_eq, bnd_s]
      · simp [withinS, h, hc, jn_d, first_eq, bnd_s]
    · simp [withinS, h, jn_d, first_eq, bnd_s]
end Go.Proofs.Ytdkjcoonmgjpfaa
