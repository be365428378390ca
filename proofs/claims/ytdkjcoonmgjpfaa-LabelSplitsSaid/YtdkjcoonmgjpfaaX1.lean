/- Plain laws: loops over lists; valid points, rules. -/
import Derived.Test.YtdkjcoonmgjpfaaJ4b
import Derived.Test.YtdkjcoonmgjpfaaP0
namespace Go.Proofs.Ytdkjcoonmgjpfaa
open Go Go.RowKit
/-- A loop over a list that may be left. -/
def foldE {α σ τ : Type} (f : σ → α → Sum σ τ) (fin : σ → τ) : List α → σ → τ
  | [], s => fin s
  | x :: r, s => match f s x with
    | .inl s' => foldE f fin r s'
    | .inr t => t
theorem lfix_foldE {α σ τ β : Type} (l : List α) (enc : σ → Int → β) (f : σ → α → Sum σ τ) (fin : σ → τ) (B : β → Option (Sum β τ)) (C : Nat → σ → Prop)
    (h1 : ∀ (j : Nat) (h : j < l.length) s, C j s → (∃ s', f s l[j] = .inl s' ∧ B (enc s j) = some (.inl (enc s' ((j + 1 : Nat) : Int))) ∧ C (j + 1) s') ∨ (∃ t, f s l[j] = .inr t ∧ B (enc s j) = some (.inr t)))
    (h2 : ∀ s, C l.length s → B (enc s l.length) = some (.inr (fin s))) (s0 : σ) (h0 : C 0 s0) : lfix B (enc s0 0) = some (foldE f fin l s0) := by
  have key : ∀ (m k : Nat) (s : σ), k ≤ l.length → l.length - k = m → C k s → lfix B (enc s k) = some (foldE f fin (l.drop k) s) := by
    intro m
    induction m with
    | zero =>
      intro k s hk hm hC
      obtain rfl : k = l.length := by omega
      rw [lfix_eq, h2 s hC]
      simp [foldE]
    | succ m ih =>
      intro k s hk hm hC
      have hlt : k < l.length := by omega
      rw [lfix_eq, List.drop_eq_getElem_cons hlt]
      rcases h1 k hlt s hC with ⟨s', e1, e2, e3⟩ | ⟨t, e1, e2⟩
      · rw [e2]; simp only [foldE, e1]
        exact ih (k + 1) s' (by omega) (by omega) e3
      · rw [e2]; simp only [foldE, e1]
  exact key l.length 0 s0 (Nat.zero_le _) rfl h0
/-- A fold without exits, with steps that may fail. -/
theorem foldE_all {α β γ : Type} (p : α → Bool) (u : β) (v : γ) : ∀ (l : List α), foldE (σ := Unit) (τ := Sum β γ) (fun _ x => if p x = true then .inl () else .inr (.inr v)) (fun _ => .inl u) l () = if l.all p = true then .inl u else .inr v
  | [] => by simp [foldE]
  | x :: r => by
    by_cases hp : p x = true
    · simp only [foldE, hp, if_true, List.all_cons, Bool.true_and]; exact foldE_all p u v r
    · simp [foldE, hp]

theorem nodup_rev {α : Type} {l : List α} : l.reverse.Nodup ↔ l.Nodup := (List.reverse_perm l).nodup_iff
/-! ### points -/
def okXY (p : S_api_XY) : Bool := decide (-268435456 ≤ p.X ∧ p.X ≤ 268435456 ∧ -268435456 ≤ p.Y ∧ p.Y ≤ 268435456)
def okPt (p : S_api_Point) : Bool := decide (0 ≤ p.Id ∧ p.Id ≤ 1152921504606846976 ∧ -268435456 ≤ p.X ∧ p.X ≤ 268435456 ∧ -268435456 ≤ p.Y ∧ p.Y ≤ 268435456 ∧ -268435456 ≤ p.Z.Lo ∧ p.Z.Lo ≤ p.Z.Hi ∧ p.Z.Hi ≤ 268435456 ∧ 0 ≤ p.Wide ∧ p.Wide ≤ 268435456 ∧ 1 ≤ p.Num ∧ p.Num ≤ p.Of ∧ p.Of ≤ 15)
theorem within_eq (a b c : Int) : label_within a b c = some (decide (a ≤ b ∧ b ≤ c)) := by
  simp only [label_within, jn_d]; grind
theorem rwithin_eq (a b c : Int) : lidarref07_within a b c = some (decide (b ≤ a ∧ a ≤ c)) := by
  simp only [lidarref07_within, jn_d]; grind
theorem validPlace_eq (p : S_api_XY) : label_validPlace p = some (okXY p) := by
  simp only [label_validPlace, jn_d, within_eq, bnd_s, okXY, decide_eq_true_eq]; grind
theorem place_eq' (p : S_api_XY) : lidarref01_Place p = some (okXY p) := by
  simp only [lidarref01_Place, jn_d, okXY]; grind
theorem validPoint_eq (p : S_api_Point) : label_validPoint p = some (okPt p) := by
  simp only [label_validPoint, jn_d, within_eq, bnd_s, label_place, validPlace_eq, okXY, okPt, decide_eq_true_eq]; grind
theorem one_eq (p : S_api_Point) : lidarref07_One p = some (okPt p) := by
  simp only [lidarref07_One, jn_d, rwithin_eq, bnd_s, place_eq', okXY, okPt, decide_eq_true_eq]; grind
def validL (l : List S_api_Point) : Bool := decide (l.length ≤ 1024) && l.all okPt && decide ((l.map (·.Id)).Nodup)
/-- Ids seen so far. -/
theorem mget_true {m : List (Int × Bool)} (hm : ∀ p ∈ m, p.2 = true) (x : Int) : (mget m x).getD false = decide (x ∈ m.map (·.1)) := by
  induction m with
  | nil => simp [mget]
  | cons p r ih =>
    rw [mget_cons]
    have hp := hm p List.mem_cons_self
    have ih := ih (fun q hq => hm q (List.mem_cons_of_mem _ hq))
    by_cases h : p.1 = x
    · rw [if_pos h]; simp [hp, h]
    · rw [if_neg h, ih]
      have : ¬ x = p.1 := fun e => h e.symm
      simp [this]
def seenF (s : List Int) (x : S_api_Point) : Sum (List Int) (Sum Unit Bool) := if okPt x = true ∧ x.Id ∉ s then .inl (x.Id :: s) else .inr (.inr false)
theorem foldE_seen : ∀ (l : List S_api_Point) (s : List Int), s.Nodup → foldE seenF (fun _ => .inl ()) l s = if l.all okPt = true ∧ ((l.map (·.Id)).reverse ++ s).Nodup then .inl () else .inr false
  | [], s, hs => by simp [foldE, hs]
  | x :: r, s, hs => by
    unfold foldE seenF
    by_cases h : okPt x = true ∧ x.Id ∉ s
    · rw [if_pos h]
      dsimp only
      have := foldE_seen r (x.Id :: s) (List.nodup_cons.2 ⟨h.2, hs⟩)
      unfold seenF at this
      rw [this]
      simp [h.1]
    · rw [if_neg h]
      dsimp only
      rw [if_neg]
      rintro ⟨h1, h2⟩
      refine h ⟨by simp at h1; exact h1.1, fun hx => ?_⟩
      simp only [List.map_cons, List.reverse_cons, List.append_assoc, List.cons_append, List.nil_append] at h2
      have := (List.nodup_append.1 h2).2.1
      exact (List.nodup_cons.1 this).1 hx
theorem valid_eq (l : List S_api_Point) : label_Valid l = some (validL l) := by
  unfold label_Valid validL
  by_cases hn : 1024 < ((l.length : Nat) : Int)
  · rw [if_pos hn]
    have : ¬ l.length ≤ 1024 := by omega
    simp [this]
  · rw [if_neg hn, jn_d]
    have hn' : l.length ≤ 1024 := by omega
    have key := lfix_foldE l (fun (s : List (Int × Bool)) (i : Int) => (s, i)) (fun (s : List (Int × Bool)) x => if okPt x = true ∧ x.Id ∉ s.map (·.1) then .inl ((x.Id, true) :: s) else .inr (.inr false)) (fun _ => (.inl () : Sum Unit Bool)) (label_Valid_l5 l)
      (fun j s => s.length = j ∧ ∀ p ∈ s, p.2 = true) ?_ ?_ [] ⟨rfl, by simp⟩
    · rw [key, bnd_s]
      have conv : ∀ (l : List S_api_Point) (s : List (Int × Bool)), foldE (fun (s : List (Int × Bool)) (x : S_api_Point) => if okPt x = true ∧ x.Id ∉ s.map (·.1) then Sum.inl ((x.Id, true) :: s) else .inr (.inr false)) (fun _ => (.inl () : Sum Unit Bool)) l s = foldE seenF (fun _ => .inl ()) l (s.map (·.1)) := by
        intro l
        induction l with
        | nil => intro s; rfl
        | cons x r ih =>
          intro s
          unfold foldE seenF
          by_cases h : okPt x = true ∧ x.Id ∉ s.map (·.1)
          · rw [if_pos h, if_pos h]; exact ih _
          · rw [if_neg h, if_neg h]
      rw [conv, List.map_nil, foldE_seen l [] (by simp)]
      simp only [List.append_nil, nodup_rev]
      by_cases h : l.all okPt = true ∧ (l.map (·.Id)).Nodup
      · rw [if_pos h]; simp only [hn', h.1, h.2, decide_true, Bool.and_self]
      · rw [if_neg h]
        dsimp only
        replace h := Decidable.not_and_iff_or_not.1 h
        congr 1
        rcases h with h | h <;> simp [h]
    · intro j hj s hC
      have h0 : (j : Int) < ((l.length : Nat) : Int) := by omega
      by_cases hp : okPt l[j] = true
      · have hr : -9223372036854775808 ≤ l[j].Id ∧ l[j].Id ≤ 9223372036854775807 := by simp only [okPt, decide_eq_true_eq] at hp; omega
        by_cases hs : l[j].Id ∈ s.map (·.1)
        · right
          refine ⟨.inr false, by rw [if_neg (fun h => h.2 hs)], ?_⟩
          simp only [label_Valid_l5, if_pos h0, idx_nat hj, bnd_s, jn_d, validPoint_eq, hp, if_true, gd_t hr, mget_true hC.2, decide_eq_true hs]
        · left
          refine ⟨(l[j].Id, true) :: s, by rw [if_pos ⟨hp, hs⟩], ?_, by simp [hC.1], by intro p hm; rcases List.mem_cons.1 hm with rfl | hm; rfl; exact hC.2 p hm⟩
          have hs' : decide (l[j].Id ∈ s.map (·.1)) = false := decide_eq_false hs
          simp only [label_Valid_l5, if_pos h0, idx_nat hj, bnd_s, jn_d, validPoint_eq, hp, if_true, gd_t hr, mget_true hC.2, hs', Bool.false_eq_true, if_false, gd_t (show s.length < 9223372036854775807 by omega), w64_succ (show j < 9223372036854775807 by omega)]
      · right
        refine ⟨.inr false, by rw [if_neg (fun h => hp h.1)], ?_⟩
        have hp' : okPt l[j] = false := by simpa using hp
        simp only [label_Valid_l5, if_pos h0, idx_nat hj, bnd_s, jn_d, validPoint_eq, hp', if_true, Bool.false_eq_true, if_false]
    · intro s hC
      simp only [label_Valid_l5, Int.lt_irrefl, if_false]
theorem rvalid_eq (l : List S_api_Point) : lidarref07_Valid l = some (validL l) := by
  unfold lidarref07_Valid
  by_cases hn : 1024 < ((l.length : Nat) : Int)
  · rw [if_pos hn]
    have : ¬ l.length ≤ 1024 := by omega
    simp [validL, this]
  · rw [if_neg hn, jn_d]
    have hn' : l.length ≤ 1024 := by omega
    have inner : ∀ (j : Nat) (hj : j < l.length), lfix (lidarref07_Valid_l9 j l) 0 = some (if ∀ (k : Nat) (hk : k < j), l[k].Id ≠ l[j].Id then .inl () else .inr false) := by
      intro j hj
      have := lfix_all (β := Unit) (γ := Bool) (l.take j) (fun q => decide (q.Id ≠ l[j].Id)) (lidarref07_Valid_l9 j l) () false ?_ ?_
      · rw [this]
        congr 1
        have e : (l.take j).all (fun q => decide (q.Id ≠ l[j].Id)) = true ↔ ∀ (k : Nat) (hk : k < j), l[k].Id ≠ l[j].Id := by
          rw [List.all_eq_true]
          constructor
          · intro h k hk
            have := h (l[k]) (List.mem_take_iff_getElem.2 ⟨k, by omega, rfl⟩)
            simpa using this
          · intro h q hq
            obtain ⟨k, hk, rfl⟩ := List.mem_take_iff_getElem.1 hq
            simpa using h k (by omega)
        by_cases h : ∀ (k : Nat) (hk : k < j), l[k].Id ≠ l[j].Id
        · rw [if_pos (e.2 h), if_pos h]
        · rw [if_neg (fun h' => h (e.1 h')), if_neg h]
      · intro k hk
        have hk' : k < j := by simp at hk; omega
        have hkl : k < l.length := by omega
        simp only [lidarref07_Valid_l9, if_pos (show (k : Int) < (j : Int) by omega), idx_nat hkl, idx_nat hj, bnd_s, w64_succ (show k < 9223372036854775807 by omega), List.getElem_take]
        by_cases h : l[k].Id = l[j].Id <;> simp [h]
      · have : (l.take j).length = j := by simp; omega
        simp only [lidarref07_Valid_l9, this, Int.lt_irrefl, if_false]
    have key := lfix_foldE (β := Int) l (fun (s : List Int) (i : Int) => i) seenF (fun _ => (.inl () : Sum Unit Bool)) (lidarref07_Valid_l4 l)
      (fun j s => s = ((l.take j).map (·.Id)).reverse) ?_ ?_ [] rfl
    · rw [key, bnd_s, foldE_seen l [] (by simp)]
      simp only [List.append_nil, nodup_rev, validL]
      by_cases h : l.all okPt = true ∧ (l.map (·.Id)).Nodup
      · rw [if_pos h]; simp only [hn', h.1, h.2, decide_true, Bool.and_self]
      · rw [if_neg h]
        dsimp only
        replace h := Decidable.not_and_iff_or_not.1 h
        congr 1
        rcases h with h | h <;> simp [h]
    · rintro j hj s rfl
      have h0 : (j : Int) < ((l.length : Nat) : Int) := by omega
      have hmem : l[j].Id ∉ ((l.take j).map (·.Id)).reverse ↔ ∀ (k : Nat) (hk : k < j), l[k].Id ≠ l[j].Id := by
        rw [List.mem_reverse, List.mem_map]
        constructor
        · intro h k hk e
          exact h ⟨l[k], List.mem_take_iff_getElem.2 ⟨k, by omega, rfl⟩, e⟩
        · rintro h ⟨q, hq, e⟩
          obtain ⟨k, hk, rfl⟩ := List.mem_take_iff_getElem.1 hq
          exact h k (by omega) e
      by_cases hp : okPt l[j] = true
      · by_cases hs : ∀ (k : Nat) (hk : k < j), l[k].Id ≠ l[j].Id
        · left
          refine ⟨_, by unfold seenF; rw [if_pos ⟨hp, hmem.2 hs⟩], ?_, ?_⟩
          · simp only [lidarref07_Valid_l4, if_pos h0, idx_nat hj, bnd_s, jn_d, one_eq, hp, if_true, inner j hj, if_pos hs, w64_succ (show j < 9223372036854775807 by omega)]
          · have e : l.take (j + 1) = l.take j ++ [l[j]] := by rw [List.take_add_one, List.getElem?_eq_getElem hj]; rfl
            show _ = _
            rw [e, List.map_append, List.reverse_append]; rfl
        · right
          refine ⟨.inr false, by unfold seenF; rw [if_neg (fun h => hs (hmem.1 h.2))], ?_⟩
          simp only [lidarref07_Valid_l4, if_pos h0, idx_nat hj, bnd_s, jn_d, one_eq, hp, if_true, inner j hj, if_neg hs]
      · right
        refine ⟨.inr false, by unfold seenF; rw [if_neg (fun h => hp h.1)], ?_⟩
        simp only [lidarref07_Valid_l4, if_pos h0, idx_nat hj, bnd_s, jn_d, one_eq, hp, Bool.false_eq_true, if_false]
    · intro s _
      simp only [lidarref07_Valid_l4, Int.lt_irrefl, if_false]
def okRules (r : S_api_Terrain) : Bool := decide (1 ≤ r.Cell ∧ r.Cell ≤ 10000000 ∧ 0 ≤ r.Reach ∧ r.Reach ≤ 1000000 ∧ 0 ≤ r.Slope ∧ r.Slope ≤ 100000 ∧ 1 ≤ r.Link ∧ r.Link ≤ 1000000 ∧ 0 ≤ r.Flat ∧ r.Flat ≤ 1000000 ∧ 0 ≤ r.Tall ∧ r.Tall ≤ 1000000 ∧ 0 ≤ r.High ∧ r.High ≤ 1000000 ∧ 0 ≤ r.Low ∧ r.Low ≤ 1000000 ∧ 0 ≤ r.Brush ∧ r.Brush ≤ 1000000 ∧ 1 ≤ r.Few ∧ r.Few ≤ 1024)
theorem rrules_eq (r : S_api_Terrain) : lidarref07_ValidRules r = some (okRules r) := by
  simp only [lidarref07_ValidRules, jn_d, rwithin_eq, bnd_s, decide_eq_true_eq]
  unfold okRules
  repeat' split
  all_goals (congr 1; grind)
theorem rules_eq (r : S_api_Terrain) : label_ValidRules r = some (okRules r) := by
  have key := lfix_all (β := Unit) (γ := Bool) [r.Reach, r.Flat, r.Tall, r.High, r.Low, r.Brush] (fun n => decide (0 ≤ n ∧ n ≤ 1000000)) (label_ValidRules_l2 r) () false ?_ ?_
  · unfold label_ValidRules
    rw [jn_d, key, bnd_s]
    by_cases hc : ([r.Reach, r.Flat, r.Tall, r.High, r.Low, r.Brush].all (fun n => decide (0 ≤ n ∧ n ≤ 1000000))) = true
    · rw [if_pos hc]
      simp only [jn_d, within_eq, bnd_s, decide_eq_true_eq]
      simp only [List.all_cons, List.all_nil, Bool.and_true, Bool.and_eq_true, decide_eq_true_eq] at hc
      unfold okRules
      repeat' split
      all_goals (congr 1; grind)
    · rw [if_neg hc]
      simp only [List.all_cons, List.all_nil, Bool.and_true, Bool.and_eq_true, decide_eq_true_eq] at hc
      dsimp only
      unfold okRules
      congr 1; symm; rw [decide_eq_false_iff_not]; omega
  · intro j hj
    have hj' : (j : Int) < 6 := by simp at hj; omega
    simp only [label_ValidRules_l2, if_pos hj', idx_nat hj, bnd_s, within_eq, w64_succ (show j < 9223372036854775807 by simp at hj; omega)]
  · simp only [label_ValidRules_l2]
    rfl
theorem checked_eq (l : List S_api_Point) (r : S_api_Terrain) : label_checked l r = some (if okRules r = true then (if validL l = true then 0 else 70) else 71) := by
  simp only [label_checked, rules_eq, bnd_s, valid_eq]; grind
theorem rchecked_eq (l : List S_api_Point) (r : S_api_Terrain) : lidarref07_checked l r = some (if okRules r = true then (if validL l = true then 0 else 70) else 71) := by
  simp only [lidarref07_checked, rrules_eq, bnd_s, rvalid_eq]; grind
end Go.Proofs.Ytdkjcoonmgjpfaa
