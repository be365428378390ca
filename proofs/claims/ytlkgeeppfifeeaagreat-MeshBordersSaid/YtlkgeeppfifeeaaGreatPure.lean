/- Plain functions with guards, and how a walk follows one: the pure side of each function of the program is printed as such a function. -/
import Derived.Test.YtlkgeeppfifeeaaGreatMem
import Derived.Test.YtlkgeeppfifeeaaGreatEq
namespace Go.Proofs.YtlkgeeppfifeeaaGreat
open Go Go.RowKit

/-! ### plain functions -/
def gd {ρ : Type} (p : Prop) [Decidable p] (k : Option ρ) : Option ρ := if p then k else none
def bnd {α ρ : Type} (o : Option α) (k : α → Option ρ) : Option ρ := match o with
  | some x => k x
  | none => none
def jn {τ ρ : Type} (k : τ → Option ρ) (x : (τ → Option ρ) → Option ρ) : Option ρ := x k
theorem gd_some {ρ : Type} {p : Prop} [Decidable p] {k : Option ρ} {r : ρ} (h : gd p k = some r) : p ∧ k = some r := by
  unfold gd at h; split at h
  · exact ⟨‹_›, h⟩
  · cases h
theorem bnd_some {α ρ : Type} {o : Option α} {k : α → Option ρ} {r : ρ} (h : bnd o k = some r) : ∃ x, o = some x ∧ k x = some r := by
  cases o with
  | none => cases h
  | some x => exact ⟨x, rfl, h⟩
theorem jn_some {τ ρ : Type} {k : τ → Option ρ} {x : (τ → Option ρ) → Option ρ} {r : ρ} (h : jn k x = some r) : ∃ j, j = k ∧ x j = some r := ⟨k, rfl, h⟩
theorem ite_t {ρ : Type} {p : Prop} [Decidable p] {a b o : Option ρ} (hp : p) (h : (if p then a else b) = o) : a = o := by rw [if_pos hp] at h; exact h
theorem ite_f {ρ : Type} {p : Prop} [Decidable p] {a b o : Option ρ} (hp : ¬ p) (h : (if p then a else b) = o) : b = o := by rw [if_neg hp] at h; exact h
theorem ite_bf {ρ : Type} {p : Bool} {a b o : Option ρ} (hp : p = false) (h : (if p = true then a else b) = o) : b = o := by subst hp; exact h

def lrun {σ τ : Type} (B : σ → Option (Sum σ τ)) : Nat → σ → Option τ
  | 0, _ => none
  | n + 1, s => match B s with
    | some (.inl s') => lrun B n s'
    | some (.inr t) => some t
    | none => none
noncomputable def lfix {σ τ : Type} (B : σ → Option (Sum σ τ)) (s : σ) : Option τ :=
  @dite (Option τ) (∃ n t, lrun B n s = some t) (Classical.propDecidable _) (fun h => some (Classical.choose (Classical.choose_spec h))) (fun _ => none)
theorem lrun_mono {σ τ : Type} {B : σ → Option (Sum σ τ)} : ∀ {n m : Nat} {s : σ} {t : τ}, lrun B n s = some t → n ≤ m → lrun B m s = some t
  | 0, _, _, _, h, _ => by simp [lrun] at h
  | n + 1, 0, _, _, _, h => by omega
  | n + 1, m + 1, s, t, h, hm => by
    simp only [lrun] at h ⊢
    split at h
    · exact lrun_mono h (by omega)
    · exact h
    · cases h
theorem lrun_det {σ τ : Type} {B : σ → Option (Sum σ τ)} {n m : Nat} {s : σ} {t u : τ} (h : lrun B n s = some t) (h' : lrun B m s = some u) : t = u := by
  have h1 := lrun_mono h (Nat.le_max_left n m)
  have h2 := lrun_mono h' (Nat.le_max_right n m)
  rw [h1] at h2; injection h2
theorem lfix_iff {σ τ : Type} {B : σ → Option (Sum σ τ)} {s : σ} {t : τ} : lfix B s = some t ↔ ∃ n, lrun B n s = some t := by
  unfold lfix
  constructor
  · intro h
    split at h
    · rename_i hx
      injection h with h
      obtain hs := Classical.choose_spec (Classical.choose_spec hx)
      rw [h] at hs
      exact ⟨_, hs⟩
    · cases h
  · rintro ⟨n, h⟩
    have hx : ∃ n t, lrun B n s = some t := ⟨n, t, h⟩
    rw [dif_pos hx]
    exact congrArg some (lrun_det (Classical.choose_spec (Classical.choose_spec hx)) h)
theorem lfix_eq {σ τ : Type} (B : σ → Option (Sum σ τ)) (s : σ) : lfix B s = match B s with
    | some (.inl s') => lfix B s'
    | some (.inr t) => some t
    | none => none := by
  apply Option.ext
  intro t
  rw [lfix_iff]
  constructor
  · rintro ⟨n, h⟩
    cases n with
    | zero => simp [lrun] at h
    | succ n =>
      simp only [lrun] at h
      split at h
      · rename_i s' hb; exact lfix_iff.2 ⟨n, h⟩
      · exact h
      · cases h
  · intro h
    cases hb : B s with
    | none => rw [hb] at h; cases h
    | some x =>
      rw [hb] at h
      cases x with
      | inl s' =>
        obtain ⟨n, hn⟩ := lfix_iff.1 h
        exact ⟨n + 1, by simp only [lrun, hb]; exact hn⟩
      | inr u => exact ⟨1, by simp only [lrun, hb]; exact h⟩
noncomputable def lrank {σ τ : Type} (B : σ → Option (Sum σ τ)) (s : σ) : Nat := @dite Nat (∃ n t, lrun B n s = some t) (Classical.propDecidable _) (fun h => go (Classical.choose h)) (fun _ => 0)
where go (n : Nat) : Nat := match n with
  | 0 => 0
  | k + 1 => if (lrun B k s).isSome = true then go k else k + 1
theorem lrank_go {σ τ : Type} (B : σ → Option (Sum σ τ)) (s : σ) : ∀ (n : Nat) (t : τ), lrun B n s = some t → lrun B (lrank.go B s n) s = some t ∧ ∀ m u, lrun B m s = some u → lrank.go B s n ≤ m
  | 0, t, h => by simp [lrun] at h
  | n + 1, t, h => by
    unfold lrank.go
    by_cases hx : (lrun B n s).isSome = true
    · rw [if_pos hx]
      obtain ⟨u, hu⟩ := Option.isSome_iff_exists.1 hx
      rw [lrun_det h hu]
      exact lrank_go B s n u hu
    · rw [if_neg hx]
      refine ⟨h, fun m u hm => ?_⟩
      rcases Nat.lt_or_ge m (n + 1) with hlt | hge
      · exact absurd (by rw [lrun_mono hm (show m ≤ n by omega)]; rfl) hx
      · exact hge
theorem lrank_spec {σ τ : Type} {B : σ → Option (Sum σ τ)} {s : σ} {t : τ} (h : lfix B s = some t) : lrun B (lrank B s) s = some t ∧ ∀ m u, lrun B m s = some u → lrank B s ≤ m := by
  obtain ⟨n, hn⟩ := lfix_iff.1 h
  have hx : ∃ n t, lrun B n s = some t := ⟨n, t, hn⟩
  unfold lrank
  rw [dif_pos hx]
  obtain ⟨u, hu⟩ := Classical.choose_spec hx
  have := lrun_det hu hn
  subst this
  exact lrank_go B s _ u hu
theorem lrank_lt {σ τ : Type} {B : σ → Option (Sum σ τ)} {s s' : σ} {t : τ} (h : lfix B s = some t) (hb : B s = some (.inl s')) : lfix B s' = some t ∧ lrank B s' < lrank B s := by
  obtain ⟨h1, _⟩ := lrank_spec h
  cases hn : lrank B s with
  | zero => rw [hn] at h1; simp [lrun] at h1
  | succ n =>
    rw [hn] at h1
    simp only [lrun, hb] at h1
    exact ⟨lfix_iff.2 ⟨n, h1⟩, Nat.lt_succ_of_le ((lrank_spec (lfix_iff.2 ⟨n, h1⟩)).2 n t h1)⟩
/-- How a loop is shown to end: by an invariant and a measure. -/
theorem lfix_ind {σ τ : Type} {B : σ → Option (Sum σ τ)} (μ : σ → Nat) (C : σ → Prop) (R : τ → Prop) (h : ∀ s, C s → (∃ s', B s = some (.inl s') ∧ C s' ∧ μ s' < μ s) ∨ ∃ t, B s = some (.inr t) ∧ R t) :
    ∀ s, C s → ∃ t, lfix B s = some t ∧ R t := by
  have key : ∀ (n : Nat) (s : σ), μ s = n → C s → ∃ t, lfix B s = some t ∧ R t := by
    intro n
    induction n using Nat.strongRecOn with
    | ind n ih =>
      intro s hn hs
      rw [lfix_eq]
      rcases h s hs with ⟨s', hb, hC, hm⟩ | ⟨t, hb, hR⟩
      · rw [hb]; exact ih (μ s') (by omega) s' rfl hC
      · rw [hb]; exact ⟨t, rfl, hR⟩
  exact fun s hs => key _ s rfl hs

/-! ### lists -/
def idx {α : Type} (l : List α) (i : Int) : Option α := if 0 ≤ i then l[i.toNat]? else none
def setI {α : Type} (l : List α) (i : Int) (x : α) : List α := l.set i.toNat x
theorem idx_some {α : Type} {l : List α} {i : Int} {x : α} (h : idx l i = some x) : ∃ (j : Nat) (hj : j < l.length), i = (j : Int) ∧ l[j] = x := by
  unfold idx at h
  split at h
  · obtain ⟨hj, hx⟩ := List.getElem?_eq_some_iff.1 h
    exact ⟨i.toNat, hj, by omega, hx⟩
  · cases h
theorem idx_nat {α : Type} {l : List α} {j : Nat} (hj : j < l.length) : idx l (j : Int) = some l[j] := by
  unfold idx; rw [if_pos (by omega)]; simp [hj]
theorem setI_len {α : Type} {l : List α} {i : Int} {x : α} : (setI l i x).length = l.length := by simp [setI]
theorem setI_nat {α : Type} {l : List α} {j : Nat} {x : α} : setI l (j : Int) x = l.set j x := by simp [setI]
def subl {α : Type} (l : List α) (i j : Int) : List α := (l.take j.toNat).drop i.toNat

def w64 (x : Int) : Int := IntKind.wrap .i64 x
def wu64 (x : Int) : Int := IntKind.wrap .u64 x
def wu32 (x : Int) : Int := IntKind.wrap .u32 x
theorem w64_eq (x : Int) : w64 x = (x + 9223372036854775808) % 18446744073709551616 - 9223372036854775808 := by
  unfold w64; rw [IntKind.wrap_i64]
theorem w64_id {x : Int} (h : -9223372036854775808 ≤ x) (h' : x ≤ 9223372036854775807) : w64 x = x := by rw [w64_eq]; omega
end Go.Proofs.YtlkgeeppfifeeaaGreat
