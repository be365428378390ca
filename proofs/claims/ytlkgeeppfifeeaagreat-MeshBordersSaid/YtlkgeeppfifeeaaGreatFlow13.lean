/- Loops over a map. -/
import Derived.Test.YtlkgeeppfifeeaaGreatFlow12
namespace Go.Proofs.YtlkgeeppfifeeaaGreat
open Go Go.RowKit
open Go.Maps (Keyed)
theorem Pt.m0 {g : Nat} {t : TypeId} {cs : List Value} {K : List Ent} (h : Ent.m g t cs ∈ K) : Pt K g 0 cs := fun w hw j u hu => by
  have := hw _ h
  rw [cells_m this]; simpa using hu
section
variable {κ υ : Type}
/-- From the state s, with the pairs l still to come, the loop comes to t, in whatever order they come (BN: when none is left). -/
inductive MR {σ τ : Type} (BN : σ → Option (Sum σ τ)) (BS : σ → κ × υ → Option (Sum σ τ)) : List (κ × υ) → σ → τ → Prop
  | nil {s t} (h : BN s = some (.inr t)) : MR BN BS [] s t
  | cons {l s t} (h0 : l ≠ []) (h1 : ∀ p ∈ l, (BS s p).isSome = true) (h2 : ∀ p ∈ l, ∀ t', BS s p = some (.inr t') → t' = t) (h3 : ∀ p ∈ l, ∀ s', BS s p = some (.inl s') → MR BN BS (mdel l p.1) s' t) : MR BN BS l s t
variable {σ τ γ : Type} {BN : σ → Option (Sum σ τ)} {BS : σ → κ × υ → Option (Sum σ τ)} {l m : List (κ × υ)} {s : σ} {t : τ} {p : κ × υ}
theorem MR.none' (h : MR BN BS l s t) (hl : l = []) : ∃ x, BN s = some x ∧ ∀ t', x = .inr t' → t' = t := by
  cases h with
  | nil h => exact ⟨_, h, fun t' e => (Sum.inr.inj e).symm⟩
  | cons h0 _ _ _ => exact absurd hl h0
theorem MR.some' (h : MR BN BS l s t) (hp : p ∈ l) : ∃ x, BS s p = some x ∧ (∀ t', x = .inr t' → t' = t) ∧ ∀ s', x = .inl s' → MR BN BS (mdel l p.1) s' t := by
  cases h with
  | nil h => cases hp
  | cons _ h1 h2 h3 =>
    obtain ⟨x, hx⟩ := Option.isSome_iff_exists.1 (h1 p hp)
    exact ⟨x, hx, fun t' e => h2 p hp t' (by rw [hx, e]), fun s' e => h3 p hp s' (by rw [hx, e])⟩
open Classical in
/-- What the loop over the map m comes to, if that does not depend on the order. -/
noncomputable def mfix (BN : σ → Option (Sum σ τ)) (BS : σ → κ × υ → Option (Sum σ τ)) (m : List (κ × υ)) (s : σ) : Option τ := if h : ∃ t, MR BN BS m s t then some h.choose else none
theorem mfix_some (h : mfix BN BS m s = some t) : MR BN BS m s t := by
  unfold mfix at h
  split at h
  · rename_i hh
    cases h
    exact hh.choose_spec
  · cases h
theorem MR.unique (h : MR BN BS m s t) {t' : τ} (h' : MR BN BS m s t') : t = t' := by
  induction h with
  | nil h =>
    obtain ⟨x, hx, ht⟩ := h'.none' rfl
    rw [h] at hx
    exact ht _ (Option.some.inj hx).symm
  | @cons l s t h0 h1 h2 h3 ih =>
    obtain ⟨p, hp⟩ := List.exists_mem_of_ne_nil l h0
    obtain ⟨x, hx, ht, hn⟩ := h'.some' hp
    cases x with
    | inr t2 => rw [← h2 p hp t2 hx, ht t2 rfl]
    | inl s2 => exact ih p hp s2 hx (hn s2 rfl)
theorem mfix_of (h : MR BN BS m s t) : mfix BN BS m s = some t := by
  unfold mfix
  rw [dif_pos ⟨t, h⟩]
  exact congrArg some (MR.unique (Exists.choose_spec (p := fun t => MR BN BS m s t) ⟨t, h⟩) h)
theorem mdel_lt (hp : p ∈ l) : (mdel l p.1).length < l.length := by
  unfold mdel
  refine Nat.lt_of_le_of_ne (List.length_filter_le _ _) fun e => ?_
  have := List.length_filter_eq_length_iff.1 e p hp
  simp at this
/-! ### what follows the loop, whatever the order -/
section
variable {ρ : Type}
def mkN (BN : σ → Option (Sum σ τ)) (k : τ → Option ρ) : σ → Option (Sum σ ρ) := fun s => match BN s with
  | some (.inl s') => some (.inl s')
  | some (.inr t) => (match k t with
    | some r => some (.inr r)
    | none => none)
  | none => none
def mkS (BS : σ → κ × υ → Option (Sum σ τ)) (k : τ → Option ρ) : σ → κ × υ → Option (Sum σ ρ) := fun s p => mkN (fun s => BS s p) k s
/-- The loop over m from s, and what follows it, if that does not depend on the order. -/
noncomputable abbrev mfixK (BN : σ → Option (Sum σ τ)) (BS : σ → κ × υ → Option (Sum σ τ)) (m : List (κ × υ)) (s : σ) (k : τ → Option ρ) : Option ρ := mfix (mkN BN k) (mkS BS k) m s
theorem mkN_some {BN : σ → Option (Sum σ τ)} {k : τ → Option ρ} {s : σ} {y : Sum σ ρ} (h : mkN BN k s = some y) : ∃ x, BN s = some x ∧ (∀ t, x = .inr t → ∃ r, k t = some r ∧ y = .inr r) ∧ ∀ s', x = .inl s' → y = .inl s' := by
  unfold mkN at h
  split at h
  · rename_i s' e
    cases h
    exact ⟨_, e, fun t ht => (by cases ht), fun s2 h2 => (by cases h2; rfl)⟩
  · rename_i t e
    split at h
    · rename_i r er
      cases h
      exact ⟨_, e, fun t ht => (by cases ht; exact ⟨r, er, rfl⟩), fun s2 h2 => (by cases h2)⟩
    · cases h
  · cases h
theorem MR.noneK {k : τ → Option ρ} {r : ρ} (h : MR (mkN BN k) (mkS BS k) l s r) (hl : l = []) : ∃ x, BN s = some x ∧ ∀ t', x = .inr t' → k t' = some r := by
  obtain ⟨y, hy, hr⟩ := h.none' hl
  obtain ⟨x, hx, h1, _⟩ := mkN_some hy
  refine ⟨x, hx, fun t' e => ?_⟩
  obtain ⟨r', h2, h3⟩ := h1 t' e
  rw [h2, hr r' h3]
theorem MR.someK {k : τ → Option ρ} {r : ρ} (h : MR (mkN BN k) (mkS BS k) l s r) (hp : p ∈ l) : ∃ x, BS s p = some x ∧ (∀ t', x = .inr t' → k t' = some r) ∧ ∀ s', x = .inl s' → MR (mkN BN k) (mkS BS k) (mdel l p.1) s' r := by
  obtain ⟨y, hy, hr, hn⟩ := h.some' hp
  obtain ⟨x, hx, h1, h4⟩ := mkN_some hy
  refine ⟨x, hx, fun t' e => ?_, fun s' e => hn s' (h4 s' e)⟩
  obtain ⟨r', h2, h3⟩ := h1 t' e
  rw [h2, hr r' h3]
theorem exit_k {σ τ ρ : Type} {k : τ → Option ρ} {r : ρ} {x : Sum σ τ} {t' : τ} (ht : ∀ t', x = .inr t' → k t' = some r) (hx : some (.inr t') = some x) : k t' = some r := ht t' (Option.some.inj hx).symm
end
section
variable {P : Program} {n : Nat} {fr : List (Nat × Value)} {L : List Ent} {Q : Exit → Act → World → Prop}
/-- What is known at the head of a round. -/
def RndM (n : Nat) (BN : σ → Option (Sum σ τ)) (BS : σ → κ × υ → Option (Sum σ τ)) (t : τ) (left : γ → List (κ × υ)) (k : Nat) (I : σ → γ → List (Nat × Value)) (H : σ → γ → List Ent) (G : σ → γ → Prop) (a : Act) (w : World) : Prop :=
  ∃ s g, MR BN BS (left g) s t ∧ (left g).length < k ∧ G s g ∧ Fr n (I s g) a ∧ Heap (H s g) w
theorem T_loopM {s0 : σ} (hl : mfix BN BS m s0 = some t) (left : γ → List (κ × υ)) (I : σ → γ → List (Nat × Value)) (H : σ → γ → List Ent) (G : σ → γ → Prop) (g0 : γ) (hm : left g0 = m) (hG : G s0 g0) (hF : SubF (I s0 g0) fr) (hH : HPick L (H s0 g0)) {c : Code}
    (body : ∀ s g, G s g → MR BN BS (left g) s t → T n (c.wp P (Exit.then (RndM n BN BS t left (left g).length I H G) Q)) (I s g) (H s g)) :
    T n ((Code.loop c).wp P Q) fr L := by
  refine fun a w ha hw => ?_
  refine T_loop (fr := fr) (L := H s0 g0) (σ := σ × γ) (fun s => I s.1 s.2) (fun s => H s.1 s.2) (fun s => G s.1 s.2 ∧ MR BN BS (left s.2) s.1 t) (fun s => (left s.2).length) (s0, g0) ⟨hG, by rw [hm]; exact mfix_some hl⟩ hF .refl ?_ a w ha (hw.pick hH)
  clear ha hw a w
  rintro ⟨s, g⟩ ⟨hG, hs⟩
  intro a w ha hw
  refine wp_mono (body s g hG hs a w ha hw) ?_
  intro e a' w' hq
  cases e with
  | normal =>
    obtain ⟨s', g', h4, h5, h1, h2, h3⟩ := hq
    exact ⟨(s', g'), ⟨h1, h4⟩, h5, h2, h3⟩
  | _ => exact hq
theorem T_roundM {left : γ → List (κ × υ)} {τ' : Type} {x : Sum σ τ'} {I : σ → γ → List (Nat × Value)} {H : σ → γ → List Ent} {G : σ → γ → Prop} (s : σ) (g : γ) (hx : some (.inl s) = some x) (hnx : ∀ s', x = .inl s' → MR BN BS (mdel l p.1) s' t) (hp : p ∈ l) (hg : left g = mdel l p.1)
    (hG : G s g) (hF : SubF (I s g) fr) (hH : HPick L (H s g)) : T n (Exit.then (RndM n BN BS t left l.length I H G) Q .normal) fr L := fun _ _ ha hw =>
  ⟨s, g, by rw [hg]; exact hnx s (Option.some.inj hx).symm, by rw [hg]; exact mdel_lt hp, hG, ha.sub hF, hw.pick hH⟩
end
end
end Go.Proofs.YtlkgeeppfifeeaaGreat
