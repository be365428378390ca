/- Plain laws: sunk points, ids, the lowest ones. -/
import Derived.Test.YtdkjcoonmgjpfaaX1
namespace Go.Proofs.Ytdkjcoonmgjpfaa
open Go Go.RowKit
theorem okPt_rng {p : S_api_Point} (h : okPt p = true) : 0 ≤ p.Id ∧ p.Id ≤ 1152921504606846976 ∧ -268435456 ≤ p.X ∧ p.X ≤ 268435456 ∧ -268435456 ≤ p.Y ∧ p.Y ≤ 268435456 ∧ -268435456 ≤ p.Z.Lo ∧ p.Z.Lo ≤ p.Z.Hi ∧ p.Z.Hi ≤ 268435456 := by
  simp only [okPt, decide_eq_true_eq] at h; omega
theorem okRules_rng {r : S_api_Terrain} (h : okRules r = true) : 1 ≤ r.Cell ∧ r.Cell ≤ 10000000 ∧ 0 ≤ r.Reach ∧ r.Reach ≤ 1000000 ∧ 0 ≤ r.Slope ∧ r.Slope ≤ 100000 ∧ 1 ≤ r.Link ∧ r.Link ≤ 1000000 ∧ 0 ≤ r.Low ∧ r.Low ≤ 1000000 := by
  simp only [okRules, decide_eq_true_eq] at h; omega
theorem validL_spec {l : List S_api_Point} (h : validL l = true) : l.length ≤ 1024 ∧ (∀ p ∈ l, okPt p = true) ∧ (l.map (·.Id)).Nodup := by
  simp only [validL, Bool.and_eq_true, decide_eq_true_eq, List.all_eq_true] at h
  exact ⟨h.1.1, h.1.2, h.2⟩
/-- The square of the distance of two places. -/
def sq (p q : S_api_Point) : Int := (p.X - q.X) * (p.X - q.X) + (p.Y - q.Y) * (p.Y - q.Y)
theorem sq_bd {a : Int} {m : Int} (h1 : -m ≤ a) (h2 : a ≤ m) : 0 ≤ a * a ∧ a * a ≤ m * m := by
  refine ⟨?_, ?_⟩
  · rcases Int.le_total 0 a with h | h
    · exact Int.mul_nonneg h h
    · exact Int.mul_nonneg_of_nonpos_of_nonpos h h
  · rcases Int.le_total 0 a with h | h
    · exact Int.mul_le_mul h2 h2 h (by omega)
    · have : (-a) * (-a) ≤ m * m := Int.mul_le_mul (by omega) (by omega) (by omega) (by omega)
      rwa [Int.neg_mul_neg] at this
theorem sq_w {a b : Int} (ha : -268435456 ≤ a ∧ a ≤ 268435456) (hb : -268435456 ≤ b ∧ b ≤ 268435456) : w64 (a - b) = a - b ∧ w64 ((a - b) * (a - b)) = (a - b) * (a - b) ∧ 0 ≤ (a - b) * (a - b) ∧ (a - b) * (a - b) ≤ 288230376151711744 := by
  have h := sq_bd (a := a - b) (m := 536870912) (by omega) (by omega)
  refine ⟨w64_id (by omega) (by omega), w64_id (by omega) (by omega), h.1, by omega⟩
theorem sq_eq {p q : S_api_Point} (hp : okPt p = true) (hq : okPt q = true) : w64 ((w64 ((w64 (p.X - q.X)) * (w64 (p.X - q.X)))) + (w64 ((w64 (p.Y - q.Y)) * (w64 (p.Y - q.Y))))) = sq p q := by
  have h1 := okPt_rng hp
  have h2 := okPt_rng hq
  obtain ⟨a1, a2, a3, a4⟩ := sq_w (a := p.X) (b := q.X) (by omega) (by omega)
  obtain ⟨b1, b2, b3, b4⟩ := sq_w (a := p.Y) (b := q.Y) (by omega) (by omega)
  rw [a1, b1, a2, b2]
  exact w64_id (by omega) (by omega)
theorem sq_comm (p q : S_api_Point) : sq p q = sq q p := by
  have h : ∀ a b : Int, (a - b) * (a - b) = (b - a) * (b - a) := fun a b => by rw [← Int.neg_mul_neg, Int.neg_sub]
  unfold sq; rw [h p.X, h p.Y]
theorem sq_zero {p q : S_api_Point} : sq p q ≤ 0 ↔ p.X = q.X ∧ p.Y = q.Y := by
  have h1 : ∀ a : Int, 0 ≤ a * a := fun a => by
    rcases Int.le_total 0 a with h | h
    · exact Int.mul_nonneg h h
    · exact Int.mul_nonneg_of_nonpos_of_nonpos h h
  constructor
  · intro h
    unfold sq at h
    have e1 := h1 (p.X - q.X)
    have e2 := h1 (p.Y - q.Y)
    have f1 : (p.X - q.X) * (p.X - q.X) = 0 := by omega
    have f2 : (p.Y - q.Y) * (p.Y - q.Y) = 0 := by omega
    rcases Int.mul_eq_zero.1 f1 with g | g <;> rcases Int.mul_eq_zero.1 f2 with k | k <;> omega
  · rintro ⟨h, k⟩
    unfold sq; rw [h, k]; simp
theorem near_eq {p q : S_api_Point} (hp : okPt p = true) (hq : okPt q = true) {m : Int} (h1 : 0 ≤ m) (h2 : m ≤ 1000000) : label_near p q m = some (decide (sq p q ≤ m * m)) := by
  have hm : w64 (m * m) = m * m := by have := sq_bd (a := m) (m := 1000000) (by omega) h2; exact w64_id (by omega) (by omega)
  simp only [label_near, label_place, bnd_s, surface_Square, sq_eq hp hq, hm]
theorem apart_eq {p q : S_api_Point} (hp : okPt p = true) (hq : okPt q = true) : lidarref07_apart p q = some (sq p q) := by
  simp only [lidarref07_apart, sq_eq hp hq]
/-! ### sunk points -/
def sunkF (p : S_api_Point) (r : S_api_Terrain) (s : Bool) (q : S_api_Point) : Sum Bool (Sum Bool Bool) :=
  if q.Id = p.Id ∨ r.Link * r.Link < sq q p then .inl s else if q.Z.Lo - p.Z.Hi ≤ r.Low then .inr (.inr false) else .inl true
def sunkB (l : List S_api_Point) (r : S_api_Terrain) (p : S_api_Point) : Bool := match foldE (sunkF p r) .inl l false with
  | .inl b => b
  | .inr b => b
theorem sunk_eq {l : List S_api_Point} (hl : validL l = true) {r : S_api_Terrain} (hr : okRules r = true) {i : Nat} (hi : i < l.length) : label_isSunk l i r = some (sunkB l r l[i]) := by
  obtain ⟨g1, g2, g3⟩ := validL_spec hl
  have hR := okRules_rng hr
  have hp := g2 _ (List.getElem_mem hi)
  have key := lfix_foldE l (fun (s : Bool) (j : Int) => (s, j)) (sunkF l[i] r) (Sum.inl : Bool → Sum Bool Bool) (label_isSunk_l3 l i r) (fun _ _ => True) ?_ ?_ false trivial
  · unfold label_isSunk sunkB
    rw [jn_d, key, bnd_s]
    cases foldE (sunkF l[i] r) (Sum.inl : Bool → Sum Bool Bool) l false <;> rfl
  · intro j hj s _
    have h0 : (j : Int) < ((l.length : Nat) : Int) := by omega
    have hq := g2 _ (List.getElem_mem hj)
    have hne : (j : Int) = (i : Int) ↔ l[j].Id = l[i].Id := by
      constructor
      · intro h
        obtain rfl : j = i := by omega
        rfl
      · intro h
        have := List.getElem_inj (xs := l.map (·.Id)) (i := j) (j := i) (h₀ := by simpa using hj) (h₁ := by simpa using hi) g3
        simp only [List.getElem_map] at this
        have := this.1 h
        omega
    have h1 := okPt_rng hp
    have h2 := okPt_rng hq
    have hw : w64 (l[j].Z.Lo - l[i].Z.Hi) = l[j].Z.Lo - l[i].Z.Hi := w64_id (by omega) (by omega)
    have hs : w64 ((j : Int) + 1) = ((j + 1 : Nat) : Int) := w64_succ (by omega)
    unfold sunkF
    simp only [label_isSunk_l3, if_pos h0, idx_nat hj, idx_nat hi, bnd_s, jn_d, near_eq hp hq (show 0 ≤ r.Link by omega) (show r.Link ≤ 1000000 by omega), hw, hs, hne, sq_comm l[j] l[i]]
    by_cases c1 : l[j].Id = l[i].Id
    · left; exact ⟨s, by rw [if_pos (.inl c1)], by rw [if_pos c1]; simp, trivial⟩
    · rw [if_neg c1]
      by_cases c2 : sq l[i] l[j] ≤ r.Link * r.Link
      · have c3 : ¬ (l[j].Id = l[i].Id ∨ r.Link * r.Link < sq l[i] l[j]) := by rintro (h | h); exact c1 h; omega
        rw [if_neg c3]
        by_cases c4 : l[j].Z.Lo - l[i].Z.Hi ≤ r.Low
        · right; exact ⟨_, by rw [if_pos c4], by simp [c2, c4]⟩
        · left; exact ⟨true, by rw [if_neg c4], by simp [c2, c4], trivial⟩
      · left; exact ⟨s, by rw [if_pos (.inr (by omega))], by simp [c2], trivial⟩
  · intro s _
    simp only [label_isSunk_l3, Int.lt_irrefl, if_false]
theorem rsunk_eq {l : List S_api_Point} (hl : validL l = true) {r : S_api_Terrain} (hr : okRules r = true) {p : S_api_Point} (hp : okPt p = true) : lidarref07_sunk l p r = some (sunkB l r p) := by
  obtain ⟨g1, g2, g3⟩ := validL_spec hl
  have hR := okRules_rng hr
  have key := lfix_foldE l (fun (s : Bool) (j : Int) => (s, j)) (sunkF p r) (Sum.inl : Bool → Sum Bool Bool) (lidarref07_sunk_l3 l p r) (fun _ _ => True) ?_ ?_ false trivial
  · unfold lidarref07_sunk sunkB
    rw [jn_d, key, bnd_s]
    cases foldE (sunkF p r) (Sum.inl : Bool → Sum Bool Bool) l false <;> rfl
  · intro j hj s _
    have h0 : (j : Int) < ((l.length : Nat) : Int) := by omega
    have hq := g2 _ (List.getElem_mem hj)
    have h1 := okPt_rng hp
    have h2 := okPt_rng hq
    have hw : w64 (l[j].Z.Lo - p.Z.Hi) = l[j].Z.Lo - p.Z.Hi := w64_id (by omega) (by omega)
    have hs : w64 ((j : Int) + 1) = ((j + 1 : Nat) : Int) := w64_succ (by omega)
    have hm : w64 (r.Link * r.Link) = r.Link * r.Link := by have := sq_bd (a := r.Link) (m := 1000000) (by omega) (by omega); exact w64_id (by omega) (by omega)
    unfold sunkF
    simp only [lidarref07_sunk_l3, if_pos h0, idx_nat hj, bnd_s, jn_d, apart_eq hq hp, hw, hs, hm]
    by_cases c1 : l[j].Id = p.Id
    · left; exact ⟨s, by rw [if_pos (.inl c1)], by simp [c1], trivial⟩
    · by_cases c2 : r.Link * r.Link < sq l[j] p
      · left; exact ⟨s, by rw [if_pos (.inr c2)], by simp [c1, c2], trivial⟩
      · rw [if_neg (by rintro (h | h); exact c1 h; exact c2 h)]
        by_cases c4 : l[j].Z.Lo - p.Z.Hi ≤ r.Low
        · right; exact ⟨_, by rw [if_pos c4], by simp [c1, c2, c4]⟩
        · left; exact ⟨true, by rw [if_neg c4], by simp [c1, c2, c4], trivial⟩
  · intro s _
    simp only [lidarref07_sunk_l3, Int.lt_irrefl, if_false]
/-! ### filters -/
theorem foldE_foldl {α σ τ : Type} (g : σ → α → σ) (fin : σ → τ) : ∀ (l : List α) (s : σ), foldE (fun s x => .inl (g s x)) fin l s = fin (l.foldl g s)
  | [], s => rfl
  | x :: r, s => by simp only [foldE, List.foldl_cons]; exact foldE_foldl g fin r (g s x)
theorem foldl_filter {α : Type} (p : α → Bool) : ∀ (l acc : List α), l.foldl (fun s x => if p x = true then s ++ [x] else s) acc = acc ++ l.filter p
  | [], acc => by simp
  | x :: r, acc => by
    rw [List.foldl_cons, foldl_filter p r]
    by_cases h : p x = true
    · rw [if_pos h, List.filter_cons_of_pos h]; simp
    · rw [if_neg h, List.filter_cons_of_neg h]
/-- A loop that keeps some elements. -/
theorem lfix_filter {α : Type} (l : List α) (p : α → Bool) (B : List α × Int → Option (Sum (List α × Int) (List α)))
    (h1 : ∀ (j : Nat) (h : j < l.length) (s : List α), s.length ≤ j → B (s, j) = some (.inl (if p l[j] = true then s ++ [l[j]] else s, ((j + 1 : Nat) : Int)))) (h2 : ∀ s, B (s, l.length) = some (.inr s)) :
    lfix B ([], 0) = some (l.filter p) := by
  have := lfix_foldE l (fun (s : List α) (j : Int) => (s, j)) (fun s x => .inl (if p x = true then s ++ [x] else s)) (id : List α → List α) B (fun j s => s.length ≤ j)
    (fun j hj s hC => .inl ⟨_, rfl, h1 j hj s hC, by split <;> (first | omega | (simp; omega))⟩) (fun s _ => h2 s) [] (Nat.le_refl _)
  rw [this, foldE_foldl, foldl_filter]; rfl
def dryL (l : List S_api_Point) (r : S_api_Terrain) : List S_api_Point := l.filter fun p => !sunkB l r p
def sunkL (l : List S_api_Point) (r : S_api_Terrain) : List S_api_Point := l.filter (sunkB l r)
theorem parted_eq {l : List S_api_Point} (hl : validL l = true) {r : S_api_Terrain} (hr : okRules r = true) : label_parted l r = some (dryL l r, sunkL l r) := by
  obtain ⟨g1, g2, g3⟩ := validL_spec hl
  have key := lfix_foldE l (fun (s : List S_api_Point × List S_api_Point) (j : Int) => (s.1, s.2, j)) (fun s x => .inl (if sunkB l r x = true then (s.1, s.2 ++ [x]) else (s.1 ++ [x], s.2))) (id : _ → List S_api_Point × List S_api_Point) (label_parted_l2 l r)
    (fun j s => s.1.length ≤ j ∧ s.2.length ≤ j) ?_ ?_ ([], []) ⟨Nat.le_refl _, Nat.le_refl _⟩
  · unfold label_parted
    rw [jn_d]
    have key' : lfix (label_parted_l2 l r) ([], [], 0) = _ := key
    rw [key', bnd_s, foldE_foldl]
    have : ∀ (m a b : List S_api_Point), m.foldl (fun (s : List S_api_Point × List S_api_Point) x => if sunkB l r x = true then (s.1, s.2 ++ [x]) else (s.1 ++ [x], s.2)) (a, b) = (a ++ m.filter (fun p => !sunkB l r p), b ++ m.filter (sunkB l r)) := by
      intro m
      induction m with
      | nil => intro a b; simp
      | cons x m ih =>
        intro a b
        rw [List.foldl_cons]
        by_cases h : sunkB l r x = true
        · rw [if_pos h, ih]; simp [h]
        · rw [if_neg h, ih]; simp [h]
    rw [this]
    simp [dryL, sunkL]
  · intro j hj s hC
    left
    have h0 : (j : Int) < ((l.length : Nat) : Int) := by omega
    refine ⟨_, rfl, ?_, by split <;> simp <;> omega⟩
    simp only [label_parted_l2, if_pos h0, idx_nat hj, bnd_s, jn_d, sunk_eq hl hr hj, w64_succ (show j < 9223372036854775807 by omega)]
    by_cases h : sunkB l r l[j] = true
    · simp only [h, if_true, gd_t (show (s.2.length + 1) * 72 ≤ 140737488355328 by omega)]
    · simp only [h, if_false, Bool.false_eq_true, gd_t (show (s.1.length + 1) * 72 ≤ 140737488355328 by omega)]
  · intro s _
    simp only [label_parted_l2, Int.lt_irrefl, if_false, id]
/-! ### Ids in order -/
theorem sorted_sortI (l : List Int) : (sortI l).Pairwise (· ≤ ·) := by
  have := List.pairwise_mergeSort (le := fun x y : Int => decide (x ≤ y)) (fun a b c h1 h2 => by simp at *; omega) (fun a b => by simp; omega) l
  exact this.imp fun h => by simpa using h
theorem perm_sortI (l : List Int) : (sortI l).Perm l := List.mergeSort_perm _ _
theorem sort_unique {l m : List Int} (h : l.Pairwise (· ≤ ·)) (hp : l.Perm m) : l = sortI m :=
  List.Perm.eq_of_pairwise (fun a b _ _ h h' => by omega) h (sorted_sortI m) (hp.trans (perm_sortI m).symm)
theorem sortI_perm {l m : List Int} (h : l.Perm m) : sortI l = sortI m := sort_unique (sorted_sortI l) ((perm_sortI l).trans h)
theorem ids_eq {l : List S_api_Point} (h : l.length ≤ 1024) : label_ids l = some (sortI (l.map (·.Id))) := by
  unfold label_ids
  rw [gd_t (by omega), jn_d]
  have key := lfix_foldE l (fun (s : List Int) (j : Int) => (s, j)) (fun s x => .inl (s ++ [x.Id])) (id : List Int → List Int) (label_ids_l3 l) (fun j s => s.length = j) ?_ ?_ [] rfl
  · rw [key, bnd_s, foldE_foldl]
    have : ∀ (m : List S_api_Point) (a : List Int), m.foldl (fun s x => s ++ [x.Id]) a = a ++ m.map (·.Id) := by
      intro m
      induction m with
      | nil => intro a; simp
      | cons x m ih => intro a; rw [List.foldl_cons, ih]; simp
    rw [this]
    simp only [List.nil_append, id]
    rw [gd_t (by simp; omega)]
  · intro j hj s hC
    left
    have h0 : (j : Int) < ((l.length : Nat) : Int) := by omega
    refine ⟨_, rfl, ?_, by simp [hC]⟩
    simp only [label_ids_l3, if_pos h0, idx_nat hj, bnd_s, gd_t (show (s.length + 1) * 8 ≤ 140737488355328 by omega), w64_succ (show j < 9223372036854775807 by omega)]
  · intro s _
    simp only [label_ids_l3, Int.lt_irrefl, if_false, id]
theorem rids_eq {l : List S_api_Point} (h : l.length ≤ 1024) : lidarref07_ids l = some (sortI (l.map (·.Id))) := by
  unfold lidarref07_ids
  rw [jn_d]
  have inner : ∀ (s : List Int) (j : Nat) (hj : j < l.length), s.length ≤ 1024 → ∃ k : Nat, k ≤ s.length ∧ lfix (lidarref07_ids_l6 (s, (j : Int)) l) ((s.length : Nat) : Int) = some (k : Int) ∧ (∀ (i : Nat) (hi : i < s.length), k ≤ i → l[j].Id < s[i]) ∧ (∀ (hk : 0 < k) (hk' : k - 1 < s.length), s[k - 1] ≤ l[j].Id) := by
    intro s j hj hs
    refine Exists.elim (lfix_ind (B := lidarref07_ids_l6 (s, (j : Int)) l) (fun z => z.toNat) (fun z => ∃ k : Nat, z = (k : Int) ∧ k ≤ s.length ∧ ∀ (i : Nat) (hi : i < s.length), k ≤ i → l[j].Id < s[i])
      (fun z => ∃ k : Nat, z = (k : Int) ∧ k ≤ s.length ∧ (∀ (i : Nat) (hi : i < s.length), k ≤ i → l[j].Id < s[i]) ∧ (∀ (hk : 0 < k) (hk' : k - 1 < s.length), s[k - 1] ≤ l[j].Id)) ?_ _ ⟨s.length, rfl, Nat.le_refl _, fun i hi hk => by omega⟩) (fun t ht => ?_)
    · rintro z ⟨k, rfl, hk, hall⟩
      simp only [lidarref07_ids_l6, jn_d]
      by_cases h0 : 0 < k
      · have e1 : w64 ((k : Int) - 1) = ((k - 1 : Nat) : Int) := by rw [w64_id (by omega) (by omega)]; omega
        have hk1 : k - 1 < s.length := by omega
        simp only [if_pos (show (0 : Int) < (k : Int) by omega), e1, idx_nat hk1, idx_nat hj, bnd_s, decide_eq_true_eq]
        by_cases hc : l[j].Id < s[k - 1]
        · left
          refine ⟨((k - 1 : Nat) : Int), by rw [if_pos hc], ⟨k - 1, rfl, by omega, fun i hi hki => ?_⟩, by omega⟩
          rcases Nat.lt_or_ge i k with h | h
          · obtain rfl : i = k - 1 := by omega
            exact hc
          · exact hall i hi h
        · right
          exact ⟨_, by rw [if_neg hc], k, rfl, hk, hall, fun _ _ => by omega⟩
      · right
        exact ⟨_, by rw [if_neg (show ¬ (0 : Int) < (k : Int) by omega)]; simp, k, rfl, hk, hall, fun h => absurd h h0⟩
    · obtain ⟨h1, k, rfl, h3, h4, h5⟩ := ht
      exact ⟨k, h3, h1, h4, h5⟩
  refine Exists.elim (lfix_ind (B := lidarref07_ids_l3 l) (fun z => l.length - z.2.toNat) (fun z => ∃ j : Nat, z.2 = (j : Int) ∧ j ≤ l.length ∧ z.1.length = j ∧ z.1.Perm ((l.take j).map (·.Id)) ∧ z.1.Pairwise (· ≤ ·))
    (fun t => t = sortI (l.map (·.Id))) ?_ ([], 0) ⟨0, rfl, Nat.zero_le _, rfl, by simp, by simp⟩) (fun t ht => ?_)
  · rintro ⟨s, z⟩ ⟨j, rfl, hj, hlen, hp, hs⟩
    dsimp only at hlen hp hs
    rcases Nat.lt_or_ge j l.length with hlt | hge
    · left
      obtain ⟨k, hk, hf, hgt, hle⟩ := inner s j hlt (by omega)
      have e1 : subl s (k : Int) ((s.length : Nat) : Int) = s.drop k := by simp [subl]
      have e2 : subl s 0 (k : Int) = s.take k := by simp [subl]
      refine ⟨(s.take k ++ (l[j].Id :: s.drop k), ((j + 1 : Nat) : Int)), ?_, ⟨j + 1, rfl, hlt, ?_, ?_, ?_⟩, by simp; omega⟩
      · simp only [lidarref07_ids_l3, if_pos (show (j : Int) < ((l.length : Nat) : Int) by omega), jn_d, hf, bnd_s, idx_nat hlt, e1, e2, w64_succ (show j < 9223372036854775807 by omega)]
        rw [gd_t ⟨by omega, by omega⟩, gd_t ⟨by omega, by omega⟩, gd_t (by simp; omega), gd_t (by simp; omega), gd_t (by simp)]
        rfl
      · simp; omega
      · have : (l.take (j + 1)).map (·.Id) = (l.take j).map (·.Id) ++ [l[j].Id] := by rw [List.take_add_one, List.getElem?_eq_getElem hlt, List.map_append]; rfl
        rw [this]
        refine List.perm_middle.trans ((List.Perm.cons _ ?_).trans (List.perm_append_singleton _ _).symm)
        rw [List.take_append_drop]; exact hp
      · have hs1 : (s.take k).Pairwise (· ≤ ·) := hs.sublist (List.take_sublist _ _)
        have hs2 : (s.drop k).Pairwise (· ≤ ·) := hs.sublist (List.drop_sublist _ _)
        have hs12 : ∀ a ∈ s.take k, ∀ b ∈ s.drop k, a ≤ b := by
          have := hs
          rw [← List.take_append_drop k s, List.pairwise_append] at this
          exact this.2.2
        have hx1 : ∀ a ∈ s.take k, a ≤ l[j].Id := by
          intro a ha
          obtain ⟨i, hi, rfl⟩ := List.mem_take_iff_getElem.1 ha
          have hi' : i < k := by omega
          have h5 := hle (by omega) (by omega)
          rcases Nat.lt_or_ge i (k - 1) with h6 | h6
          · have := List.pairwise_iff_getElem.1 hs i (k - 1) (by omega) (by omega) h6
            omega
          · have : i = k - 1 := by omega
            subst this; exact h5
        have hx2 : ∀ b ∈ s.drop k, l[j].Id ≤ b := by
          intro b hb
          obtain ⟨i, hi, rfl⟩ := List.mem_drop_iff_getElem.1 hb
          have := hgt (k + i) (by omega) (by omega)
          omega
        rw [List.pairwise_append]
        refine ⟨hs1, List.pairwise_cons.2 ⟨hx2, hs2⟩, fun a ha b hb => ?_⟩
        rcases List.mem_cons.1 hb with rfl | hb
        · exact hx1 a ha
        · exact hs12 a ha b hb
    · right
      obtain rfl : j = l.length := by omega
      refine ⟨s, by simp only [lidarref07_ids_l3, Int.lt_irrefl, if_false], ?_⟩
      rw [List.take_length] at hp
      exact sort_unique hs hp
  · rw [ht.1, bnd_s, ht.2]
end Go.Proofs.Ytdkjcoonmgjpfaa
