/- Plain laws: neighbours, what hangs together. -/
import Derived.Test.YtdcdabkoajhllaaP0
namespace Go.Proofs.Ytdcdabkoajhllaa
open Go Go.RowKit
def nbr (X Y i : Nat) : List Nat := (if 0 < i / X then [i - X] else []) ++ (if 0 < i % X then [i - 1] else []) ++ (if i % X + 1 < X then [i + 1] else []) ++ (if i / X + 1 < Y then [i + X] else [])
theorem co_div {X r c : Nat} (h : c < X) : (X * r + c) / X = r ∧ (X * r + c) % X = c := by
  constructor
  · rw [Nat.mul_add_div (by omega), Nat.div_eq_of_lt h, Nat.add_zero]
  · rw [Nat.mul_add_mod, Nat.mod_eq_of_lt h]
theorem mem_nbr {X Y r c k : Nat} (h : c < X) : k ∈ nbr X Y (X * r + c) ↔ (0 < r ∧ k + X = X * r + c) ∨ (0 < c ∧ k + 1 = X * r + c) ∨ (c + 1 < X ∧ k = X * r + c + 1) ∨ (r + 1 < Y ∧ k = X * r + c + X) := by
  obtain ⟨h1, h2⟩ := co_div (r := r) h
  unfold nbr
  rw [h1, h2]
  have h3 : 0 < r → X ≤ X * r := fun h0 => Nat.le_mul_of_pos_right _ h0
  by_cases a : 0 < r <;> by_cases b : 0 < c <;> by_cases d : c + 1 < X <;> by_cases e : r + 1 < Y <;> simp [a, b, d, e] <;> (try have := h3 a) <;> omega
theorem co_lt {X Y r c : Nat} (h : c < X) (hr : r < Y) : X * r + c < X * Y := by
  have : X * (r + 1) ≤ X * Y := Nat.mul_le_mul_left _ hr
  rw [Nat.mul_succ] at this; omega
theorem co_of {X Y i : Nat} (hi : i < X * Y) : ∃ r c, r < Y ∧ c < X ∧ i = X * r + c := by
  have hX : 0 < X := by rcases Nat.eq_zero_or_pos X with h | h; subst h; simp at hi; exact h
  refine ⟨i / X, i % X, Nat.div_lt_of_lt_mul hi, Nat.mod_lt _ hX, (Nat.div_add_mod i X).symm⟩
theorem nbr_co {X Y r c k : Nat} (h : c < X) (hr : r < Y) (hk : k ∈ nbr X Y (X * r + c)) : ∃ r' c', c' < X ∧ r' < Y ∧ k = X * r' + c' ∧ ((r = r' + 1 ∧ c' = c) ∨ (r' = r ∧ c = c' + 1) ∨ (r' = r ∧ c' = c + 1) ∨ (r' = r + 1 ∧ c' = c)) := by
  rcases (mem_nbr h).1 hk with ⟨h0, e⟩ | ⟨h0, e⟩ | ⟨h0, e⟩ | ⟨h0, e⟩
  · obtain ⟨q, rfl⟩ : ∃ q, r = q + 1 := ⟨r - 1, by omega⟩
    rw [Nat.mul_succ] at e
    exact ⟨q, c, h, by omega, by omega, .inl ⟨rfl, rfl⟩⟩
  · exact ⟨r, c - 1, by omega, hr, by omega, .inr (.inl ⟨rfl, by omega⟩)⟩
  · exact ⟨r, c + 1, h0, hr, by omega, .inr (.inr (.inl ⟨rfl, rfl⟩))⟩
  · exact ⟨r + 1, c, h, h0, by rw [Nat.mul_succ]; omega, .inr (.inr (.inr ⟨rfl, rfl⟩))⟩
theorem nbr_lt {X Y i k : Nat} (hi : i < X * Y) (hk : k ∈ nbr X Y i) : k < X * Y := by
  obtain ⟨r, c, hr, hc, rfl⟩ := co_of hi
  obtain ⟨r', c', h1, h2, rfl, _⟩ := nbr_co hc hr hk
  exact co_lt h1 h2
theorem nbr_symm {X Y i k : Nat} (hi : i < X * Y) (hk : k ∈ nbr X Y i) : i ∈ nbr X Y k := by
  obtain ⟨r, c, hr, hc, rfl⟩ := co_of hi
  obtain ⟨r', c', h1, h2, rfl, h3⟩ := nbr_co hc hr hk
  rw [mem_nbr h1]
  rcases h3 with ⟨rfl, rfl⟩ | ⟨rfl, rfl⟩ | ⟨rfl, rfl⟩ | ⟨rfl, rfl⟩
  · exact .inr (.inr (.inr ⟨hr, by rw [Nat.mul_succ]; omega⟩))
  · exact .inr (.inr (.inl ⟨hc, by omega⟩))
  · exact .inr (.inl ⟨by omega, by omega⟩)
  · exact .inl ⟨by omega, by rw [Nat.mul_succ]; omega⟩
/-- From node to node through neighbours with one mark. -/
inductive Reach (X Y : Nat) (m : Nat → Int) (i : Nat) : Nat → Prop
  | refl : Reach X Y m i i
  | step {j k : Nat} : Reach X Y m i j → k ∈ nbr X Y j → m k = m j → Reach X Y m i k
section
variable {X Y : Nat} {m : Nat → Int}
theorem Reach.mark {i j : Nat} (h : Reach X Y m i j) : m j = m i := by
  induction h with
  | refl => rfl
  | step _ _ h ih => rw [h, ih]
theorem Reach.lt {i j : Nat} (hi : i < X * Y) (h : Reach X Y m i j) : j < X * Y := by
  induction h with
  | refl => exact hi
  | step _ h _ ih => exact nbr_lt ih h
theorem Reach.trans {i j k : Nat} (h : Reach X Y m i j) (h' : Reach X Y m j k) : Reach X Y m i k := by
  induction h' with
  | refl => exact h
  | step _ h1 h2 ih => exact .step ih h1 h2
theorem Reach.symm {i j : Nat} (hi : i < X * Y) (h : Reach X Y m i j) : Reach X Y m j i := by
  induction h with
  | refl => exact .refl
  | step h0 h1 h2 ih =>
    have hj := h0.lt hi
    exact (Reach.step .refl (nbr_symm hj h1) h2.symm).trans ih
end
open Classical in
/-- The group of a node. -/
noncomputable def compOf (X Y : Nat) (m : Nat → Int) (i : Nat) : List Nat := (List.range (X * Y)).filter fun j => decide (Reach X Y m i j)
open Classical in
noncomputable def isFirst (X Y : Nat) (m : Nat → Int) (i : Nat) : Bool := decide (m i ≠ 0 ∧ ∀ j, j < i → ¬ Reach X Y m i j)
def nInts (l : List Nat) : List Int := l.map fun x : Nat => (x : Int)
/-- The groups whose first nodes lie before n. -/
noncomputable def compsTo (X Y : Nat) (m : Nat → Int) (n : Nat) : List (List Int) := ((List.range n).filter (isFirst X Y m)).map fun i => nInts (compOf X Y m i)
noncomputable def comps (X Y : Nat) (m : Nat → Int) : List (List Int) := compsTo X Y m (X * Y)
section
variable {X Y : Nat} {m : Nat → Int}
theorem mem_compOf {i j : Nat} (hi : i < X * Y) : j ∈ compOf X Y m i ↔ Reach X Y m i j := by
  simp only [compOf, List.mem_filter, List.mem_range, decide_eq_true_eq]
  exact ⟨fun h => h.2, fun h => ⟨h.lt hi, h⟩⟩
theorem isFirst_iff {i : Nat} : isFirst X Y m i = true ↔ m i ≠ 0 ∧ ∀ j, j < i → ¬ Reach X Y m i j := by simp [isFirst]
theorem compsTo_succ {n : Nat} : compsTo X Y m (n + 1) = compsTo X Y m n ++ (if isFirst X Y m n = true then [nInts (compOf X Y m n)] else []) := by
  unfold compsTo
  rw [List.range_succ, List.filter_append, List.map_append]
  congr 1
  by_cases h : isFirst X Y m n = true <;> simp [h]
theorem compOf_sorted {i : Nat} : (compOf X Y m i).Pairwise (· < ·) := List.Pairwise.filter _ List.pairwise_lt_range
end

end Go.Proofs.Ytdcdabkoajhllaa
