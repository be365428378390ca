/- L9b M1 M2 M3 M4 M5 M6 M7b in one. -/
import Derived.Test.YtlkgeeppfifeeaaGreatLL
import Derived.Test.YtlkgeeppfifeeaaGreatFb
/- Which vertices are valid: the reference. -/
namespace Go.Proofs.YtlkgeeppfifeeaaGreat
open Go Go.RowKit
theorem valid_vertex_eq (x : S_api_Vertex) : lidarref06_validVertex x = some (decide (goodP x)) := by
  unfold lidarref06_validVertex lidarref06_Place
  rw [jn_d, bnd_s, valid_P, bnd_s]
  by_cases h : okP (⟨x.X, x.Y⟩ : S_api_XY)
  · rw [decide_eq_true h, if_pos rfl]
    by_cases h1 : -268435456 ≤ x.Z.Lo
    · rw [if_pos h1]
      by_cases h2 : x.Z.Lo ≤ x.Z.Hi
      · rw [if_pos h2]
        congr 1
        rw [Bool.eq_iff_iff, decide_eq_true_eq, decide_eq_true_eq]
        exact ⟨fun g => ⟨h, h1, h2, g⟩, fun g => g.2.2.2⟩
      · rw [if_neg h2, decide_eq_false (fun g : goodP x => h2 g.2.2.1)]
    · rw [if_neg h1, decide_eq_false (fun g : goodP x => h1 g.2.1)]
  · rw [decide_eq_false h, if_neg (by simp), decide_eq_false (fun g : goodP x => h g.1)]
theorem rbad_l4 {v : List S_api_Vertex} (c : v.length ≤ 1024) : lfix (lidarref06_vertices_l4 v) 0 = some (if ((List.range v.length).any fun k => !decide (goodP (v.getD k ⟨0, 0, ⟨0, 0⟩⟩))) = true then .inr 60 else .inl ()) := by
  refine loop_any v.length (by omega) (fun k => !decide (goodP (v.getD k ⟨0, 0, ⟨0, 0⟩⟩))) (lidarref06_vertices_l4 v) () 60 (fun k hk => ?_) ?_
  · unfold lidarref06_vertices_l4
    rw [if_pos (by omega), idx_nat hk, bnd_s, valid_vertex_eq, bnd_s, w64_succ (by omega)]
    have e : v.getD k ⟨0, 0, ⟨0, 0⟩⟩ = v[k] := by simp [hk]
    rw [e]
    by_cases g : goodP v[k]
    · simp [g]
    · simp [g]
  · unfold lidarref06_vertices_l4
    rw [if_neg (by omega)]
theorem ref_vertices_eq (v : List S_api_Vertex) : lidarref06_vertices v = some (vertsE v) := by
  unfold lidarref06_vertices vertsE
  by_cases c : 1024 < v.length
  · rw [if_pos (by omega), if_pos c]
  · rw [if_neg (by omega), if_neg c, jn_d]
    rw [rbad_l4 (by omega), bnd_s]
    · by_cases h : ∀ x ∈ v, goodP x
      · rw [if_neg (fun g => any_bad.1 g h), if_neg (not_not_intro h)]
        dsimp only
        rw [jn_d]
        have hin : ∀ i (hi : i < v.length), lfix (lidarref06_vertices_l13 (i : Int) v) 0 = some (if (List.range i).any (fun j => decide (sameV v[i] (v.getD j ⟨0, 0, ⟨0, 0⟩⟩))) then .inr 61 else .inl ()) := fun i hi => by
          refine loop_any i (by omega) _ _ () 61 (fun k hk => ?_) ?_
          · unfold lidarref06_vertices_l13
            have e : v.getD k ⟨0, 0, ⟨0, 0⟩⟩ = v[k]'(by omega) := by simp [show k < v.length by omega]
            rw [if_pos (by omega), jn_d, idx_nat hi, bnd_s, idx_nat (show k < v.length by omega), bnd_s, w64_succ (by omega), e]
            unfold sameV
            by_cases g1 : v[i].X = v[k].X
            · rw [if_pos g1, bnd_s, bnd_s]
              by_cases g2 : v[i].Y = v[k].Y
              · simp [g1, g2]
              · simp [g2]
            · rw [if_neg g1]
              simp [g1]
          · unfold lidarref06_vertices_l13
            rw [if_neg (by omega)]
        have hout : lfix (lidarref06_vertices_l10 v) 0 = some (if ((List.range v.length).any fun i => (List.range i).any fun j => decide (sameV (v.getD i ⟨0, 0, ⟨0, 0⟩⟩) (v.getD j ⟨0, 0, ⟨0, 0⟩⟩))) = true then .inr 61 else .inl ()) := by
          refine loop_any v.length (by omega) (fun i => (List.range i).any fun j => decide (sameV (v.getD i ⟨0, 0, ⟨0, 0⟩⟩) (v.getD j ⟨0, 0, ⟨0, 0⟩⟩))) (lidarref06_vertices_l10 v) () 61 (fun i hi => ?_) ?_
          · unfold lidarref06_vertices_l10
            have e : v.getD i ⟨0, 0, ⟨0, 0⟩⟩ = v[i] := by simp [hi]
            rw [if_pos (by omega), jn_d, hin i hi, bnd_s, w64_succ (by omega), e]
            by_cases g : ((List.range i).any fun j => decide (sameV v[i] (v.getD j ⟨0, 0, ⟨0, 0⟩⟩))) = true
            · rw [if_pos g, if_pos g]
            · rw [if_neg g, if_neg g]
          · unfold lidarref06_vertices_l10
            rw [if_neg (by omega)]
        rw [hout, bnd_s]
        · have hd : ((List.range v.length).any fun i => (List.range i).any fun j => decide (sameV (v.getD i ⟨0, 0, ⟨0, 0⟩⟩) (v.getD j ⟨0, 0, ⟨0, 0⟩⟩))) = true ↔ ¬ distinctV v := by
            rw [← dup_iff, List.any_eq_true]
            constructor
            · rintro ⟨i, hi, hj⟩
              rw [List.any_eq_true] at hj
              obtain ⟨j, hj, hs⟩ := hj
              rw [List.mem_range] at hi hj
              rw [decide_eq_true_eq] at hs
              refine ⟨i, j, hi, by omega, hj, ?_⟩
              simpa [hi, show j < v.length by omega] using hs
            · rintro ⟨i, j, hi, hj, hji, hs⟩
              refine ⟨i, List.mem_range.2 hi, ?_⟩
              rw [List.any_eq_true]
              exact ⟨j, List.mem_range.2 hji, by simpa [hi, hj] using hs⟩
          by_cases g : distinctV v
          · rw [if_neg (fun q => hd.1 q g), if_neg (not_not_intro g)]
          · rw [if_pos (hd.2 g), if_pos g]
      · rw [if_pos (any_bad.2 h), if_pos h]
end Go.Proofs.YtlkgeeppfifeeaaGreat
/- Convex chains along a direction. -/
namespace Go.Proofs.YtlkgeeppfifeeaaGreat
open Go Go.RowKit
def ph (α β : Int) (p : S_api_XY) : Int := α * p.X + β * p.Y
theorem ph_id (α β : Int) (a b c d : S_api_XY) : (ph α β b - ph α β a) * crs a c d + (ph α β c - ph α β a) * crs a d b + (ph α β d - ph α β a) * crs a b c = 0 := by unfold ph crs; grind
section
variable {α β : Int}
theorem pos_of_mul {x y : Int} (hx : 0 < x) (h : 0 < x * y) : 0 < y := by
  rcases Int.lt_trichotomy y 0 with g | g | g
  · have := Int.mul_neg_of_pos_of_neg hx g; omega
  · subst g; simp at h
  · exact g
theorem nonneg_of_mul {x y : Int} (hx : 0 < x) (h : 0 ≤ x * y) : 0 ≤ y := by
  rcases Int.lt_or_le y 0 with g | g
  · have := Int.mul_neg_of_pos_of_neg hx g; omega
  · exact g
/-- Under the chord: a place before the top. -/
theorem chord1 {t s i k : S_api_XY} (h1 : ph α β t < ph α β s) (h2 : ph α β t < ph α β i) (h3 : ph α β t < ph α β k) (h4 : 0 ≤ crs t s k) (h5 : crs t s i ≤ 0) : 0 ≤ crs t i k := by
  have e := ph_id α β t s i k
  have c1 : crs t k s = -crs t s k := by unfold crs; grind
  rw [c1] at e
  have p1 := Int.mul_nonneg (show 0 ≤ ph α β i - ph α β t by omega) h4
  have p2 := Int.mul_nonneg (show 0 ≤ ph α β k - ph α β t by omega) (show 0 ≤ -crs t s i by omega)
  refine nonneg_of_mul (x := ph α β s - ph α β t) (by omega) ?_
  rw [Int.mul_neg] at e p2
  omega
/-- Under the chord: a place behind the top. -/
theorem chord2 {t s i k : S_api_XY} (h1 : ph α β t < ph α β s) (h2 : ph α β s < ph α β i) (h3 : ph α β k ≤ ph α β i) (h4 : 0 ≤ crs s i k) (h5 : crs t s i ≤ 0) : 0 ≤ crs t i k := by
  have e := ph_id α β i s t k
  have c1 : crs i t k = -crs t i k := by unfold crs; grind
  have c2 : crs i k s = crs s i k := by unfold crs; grind
  have c3 : crs i s t = -crs t s i := by unfold crs; grind
  rw [c1, c2, c3] at e
  have p1 := Int.mul_nonneg (show 0 ≤ ph α β i - ph α β t by omega) h4
  have p2 := Int.mul_nonneg (show 0 ≤ ph α β i - ph α β k by omega) (show 0 ≤ -crs t s i by omega)
  refine nonneg_of_mul (x := ph α β i - ph α β s) (by omega) ?_
  simp only [Int.sub_mul, Int.mul_neg] at e p1 p2 ⊢
  omega
/-- Before the top, behind a left turn. -/
theorem turn1 {a t i k : S_api_XY} (h1 : ph α β a < ph α β t) (h2 : ph α β t < ph α β i) (h3 : ph α β k < ph α β t) (h4 : 0 ≤ crs a t k) (h5 : 0 < crs a t i) : 0 < crs t i k := by
  have e := ph_id α β t a i k
  have c1 : crs t k a = crs a t k := by unfold crs; grind
  have c2 : crs t a i = -crs a t i := by unfold crs; grind
  rw [c1, c2] at e
  have p1 := Int.mul_nonneg (show 0 ≤ ph α β i - ph α β t by omega) h4
  have p2 := Int.mul_pos (show 0 < ph α β t - ph α β k by omega) h5
  refine pos_of_mul (x := ph α β t - ph α β a) (by omega) ?_
  simp only [Int.sub_mul, Int.mul_neg] at e p1 p2 ⊢
  omega
/-- Two left turns. -/
theorem turn2 {a b t i : S_api_XY} (h1 : ph α β a < ph α β b) (h2 : ph α β b < ph α β t) (h3 : ph α β b < ph α β i) (h4 : 0 < crs a b t) (h5 : 0 < crs b t i) : 0 < crs a b i := by
  have e := ph_id α β b a t i
  have c1 : crs b i a = crs a b i := by unfold crs; grind
  have c2 : crs b a t = -crs a b t := by unfold crs; grind
  rw [c1, c2] at e
  have p1 := Int.mul_pos (show 0 < ph α β b - ph α β a by omega) h5
  have p2 := Int.mul_pos (show 0 < ph α β i - ph α β b by omega) h4
  refine pos_of_mul (x := ph α β t - ph α β b) (by omega) ?_
  simp only [Int.sub_mul, Int.mul_neg] at e p1 p2 ⊢
  omega
end
section
variable (P : Int → S_api_XY) (α β : Int)
/-- All places of the list lie left of the edge or on it. -/
def Sup (D : List Int) (a b : Int) : Prop := ph α β (P a) < ph α β (P b) ∧ ∀ k ∈ D, 0 < crs (P a) (P b) (P k) ∨ (crs (P a) (P b) (P k) = 0 ∧ ph α β (P a) ≤ ph α β (P k) ∧ ph α β (P k) ≤ ph α β (P b))
/-- The chain (the top first) has edges of that kind alone. -/
def Edges (Q : Int → Int → Prop) : List Int → Prop
  | b :: a :: r => Q a b ∧ Edges Q (a :: r)
  | _ => True
def popC (i : Int) : List Int → List Int
  | t :: a :: r => if crs (P a) (P t) (P i) ≤ 0 then popC i (a :: r) else t :: a :: r
  | s => s
/-- A chain over the places that came so far. -/
structure ChainC (f : Int) (D s : List Int) : Prop where
  sub : ∀ x ∈ s, x ∈ D
  edge : Edges (Sup P α β D) s
  bot : ∃ r, s = r ++ [f]
  low : ∀ k ∈ D, k = f ∨ ph α β (P f) < ph α β (P k)
variable {P α β}
theorem popC_ok {f i : Int} {D : List Int} : ∀ {s : List Int}, ChainC P α β f D s → (∀ k ∈ D, ph α β (P k) < ph α β (P i)) → (∀ t r, s = t :: r → ∀ k ∈ D, ph α β (P t) < ph α β (P k) → 0 ≤ crs (P t) (P i) (P k)) →
    ∃ t r, popC P i s = t :: r ∧ ChainC P α β f D (t :: r) ∧ (∀ k ∈ D, ph α β (P t) < ph α β (P k) → 0 ≤ crs (P t) (P i) (P k)) ∧ (∀ a r', r = a :: r' → 0 < crs (P a) (P t) (P i)) ∧ ∃ q, s = q ++ t :: r := by
  intro s
  induction s with
  | nil => intro h; obtain ⟨r, hr⟩ := h.bot; simp at hr
  | cons t s ih =>
    intro h hi hk
    cases s with
    | nil => exact ⟨t, [], rfl, h, hk t [] rfl, fun a r' e => (by cases e), [], rfl⟩
    | cons a r =>
      obtain ⟨he, hr⟩ := h.edge
      unfold popC
      by_cases c : crs (P a) (P t) (P i) ≤ 0
      · rw [if_pos c]
        have hb : ChainC P α β f D (a :: r) := ⟨fun x hx => h.sub x (List.mem_cons_of_mem _ hx), hr, by
          obtain ⟨q, hq⟩ := h.bot
          cases q with
          | nil => simp at hq
          | cons y q => exact ⟨q, by simp at hq; exact hq.2⟩, h.low⟩
        obtain ⟨t', r', g1, g2, g3, g4, q, g5⟩ := ih hb hi (fun t2 r2 e k hkD hlt => by
          cases e
          have hti := hi t (h.sub t (by simp))
          rcases he.2 k hkD with g | g
          · by_cases hkt : ph α β (P k) ≤ ph α β (P t)
            · exact chord1 he.1 (by omega) hlt (by omega) c
            · exact chord2 (k := P k) he.1 hti (by have := hi k hkD; omega) (hk t _ rfl k hkD (by omega)) c
          · exact chord1 he.1 (by omega) hlt (by omega) c)
        exact ⟨t', r', g1, g2, g3, g4, t :: q, by rw [g5]; rfl⟩
      · rw [if_neg c]
        exact ⟨t, a :: r, rfl, h, hk t _ rfl, fun a' r' e => (by cases e; omega), [], rfl⟩
theorem edges_more {i : Int} {D : List Int} : ∀ {r : List Int} {t : Int}, Edges (Sup P α β D) (t :: r) → (∀ k ∈ D, ph α β (P k) < ph α β (P i)) → (∀ x ∈ t :: r, x ∈ D) → (∀ a r', r = a :: r' → 0 < crs (P a) (P t) (P i)) → Edges (Sup P α β (i :: D)) (t :: r) := by
  intro r
  induction r with
  | nil => intro t _ _ _ _; trivial
  | cons a r ih =>
    intro t h hi hs hc
    obtain ⟨h1, h2⟩ := h
    have hpos := hc a r rfl
    refine ⟨⟨h1.1, fun k hk => ?_⟩, ih h2 hi (fun x hx => hs x (List.mem_cons_of_mem _ hx)) (fun b r' e => ?_)⟩
    · rcases List.mem_cons.1 hk with rfl | hk
      · exact .inl hpos
      · exact h1.2 k hk
    · subst e
      obtain ⟨h3, h4⟩ := h2
      have ht := hs t (by simp)
      refine turn2 (t := P t) h3.1 h1.1 (hi a (hs a (by simp))) ?_ hpos
      rcases h3.2 t ht with g | g
      · exact g
      · have := h1.1; omega
/-- One more place. -/
theorem chain_push {f i : Int} {D s : List Int} (h : ChainC P α β f D s) (inj : ∀ a ∈ D, ∀ b ∈ D, ph α β (P a) = ph α β (P b) → a = b) (hi : ∀ k ∈ D, ph α β (P k) < ph α β (P i)) (htop : ∀ t r, s = t :: r → ∀ k ∈ D, ph α β (P k) ≤ ph α β (P t)) : ChainC P α β f (i :: D) (i :: popC P i s) := by
  obtain ⟨t, r, h1, h2, h3, h4, q, h5⟩ := popC_ok h hi (fun t r e k hk hlt => by have := htop t r e k hk; omega)
  rw [h1]
  have ht : t ∈ D := h2.sub t (by simp)
  refine ⟨fun x hx => ?_, ⟨⟨hi t ht, fun k hk => ?_⟩, edges_more h2.edge hi h2.sub h4⟩, ?_, fun k hk => ?_⟩
  · rcases List.mem_cons.1 hx with rfl | hx
    · simp
    · exact List.mem_cons_of_mem _ (h2.sub x hx)
  · rcases List.mem_cons.1 hk with rfl | hk
    · right
      refine ⟨by unfold crs; grind, by have := hi t ht; omega, by omega⟩
    · have hki := hi k hk
      rcases Int.lt_trichotomy (ph α β (P k)) (ph α β (P t)) with g | g | g
      · cases r with
        | nil =>
          obtain ⟨q', hq'⟩ := h2.bot
          have : t = f := by
            cases q' with
            | nil => simp at hq'; exact hq'
            | cons y q' => simp at hq'
          subst this
          rcases h2.low k hk with e | e
          · subst e; omega
          · omega
        | cons a r =>
          obtain ⟨he, _⟩ := h2.edge
          left
          refine turn1 he.1 (hi t ht) g ?_ (h4 a r rfl)
          rcases he.2 k hk with e | e <;> omega
      · obtain rfl := inj k hk t ht g
        exact .inr ⟨by unfold crs; grind, by omega, by omega⟩
      · have := h3 k hk g
        rcases Int.lt_or_eq_of_le this with e | e
        · exact .inl e
        · exact .inr ⟨e.symm, by omega, by omega⟩
  · obtain ⟨r', hr'⟩ := h2.bot
    exact ⟨i :: r', by rw [hr']; rfl⟩
  · rcases List.mem_cons.1 hk with rfl | hk
    · right
      obtain ⟨r', hr'⟩ := h2.bot
      exact hi f (h2.sub f (by rw [hr']; simp))
    · exact h2.low k hk
end
end Go.Proofs.YtlkgeeppfifeeaaGreat
/- The program's half of a border is the chain. -/
namespace Go.Proofs.YtlkgeeppfifeeaaGreat
open Go Go.RowKit
variable {v : List S_api_Vertex}
theorem snoc_ind {α : Type} {p : List α → Prop} (h0 : p []) (h1 : ∀ l i, p l → p (l ++ [i])) (l : List α) : p l := by
  have key : ∀ m : List α, p m.reverse := by
    intro m
    induction m with
    | nil => exact h0
    | cons x m ih => rw [List.reverse_cons]; exact h1 _ _ ih
  have := key l.reverse
  rwa [List.reverse_reverse] at this
def chainL (P : Int → S_api_XY) (l : List Int) : List Int := l.foldl (fun s i => i :: popC P i s) []
theorem chainL_snoc (P : Int → S_api_XY) (l : List Int) (i : Int) : chainL P (l ++ [i]) = i :: popC P i (chainL P l) := by unfold chainL; rw [List.foldl_append]; rfl
theorem popC_sub {P : Int → S_api_XY} {i : Int} : ∀ {s : List Int}, ∃ q, s = q ++ popC P i s := by
  intro s
  induction s with
  | nil => exact ⟨[], rfl⟩
  | cons t s ih =>
    cases s with
    | nil => exact ⟨[], rfl⟩
    | cons a r =>
      unfold popC
      split
      · obtain ⟨q, hq⟩ := ih
        exact ⟨t :: q, by rw [List.cons_append, ← hq]⟩
      · exact ⟨[], rfl⟩
theorem popC_mem {P : Int → S_api_XY} {i x : Int} {s : List Int} (h : x ∈ popC P i s) : x ∈ s := by
  obtain ⟨q, hq⟩ := popC_sub (P := P) (i := i) (s := s)
  rw [hq]
  exact List.mem_append_right _ h
theorem popC_len {P : Int → S_api_XY} {i : Int} {s : List Int} : (popC P i s).length ≤ s.length := by
  obtain ⟨q, hq⟩ := popC_sub (P := P) (i := i) (s := s)
  have := congrArg List.length hq
  rw [List.length_append] at this
  omega
theorem chainL_mem {P : Int → S_api_XY} {x : Int} : ∀ {l : List Int}, x ∈ chainL P l → x ∈ l := by
  intro l
  refine snoc_ind (p := fun l => x ∈ chainL P l → x ∈ l) ?_ (fun l i ih => ?_) l
  · intro h; simp [chainL] at h
  · intro h
    rw [chainL_snoc] at h
    rcases List.mem_cons.1 h with rfl | h
    · simp
    · exact List.mem_append_left _ (ih (popC_mem h))
theorem chainL_len {P : Int → S_api_XY} : ∀ {l : List Int}, (chainL P l).length ≤ l.length := by
  intro l
  refine snoc_ind (p := fun l => (chainL P l).length ≤ l.length) ?_ (fun l i ih => ?_) l
  · simp [chainL]
  · rw [chainL_snoc, List.length_cons, List.length_append, List.length_singleton]
    have := popC_len (P := P) (i := i) (s := chainL P l)
    omega
theorem half_pop (hv : GoodV v) (hn : v.length ≤ 1024) {x : Int} (hx : inN v.length x) : ∀ {s : List Int}, s.length ≤ 5000 → (∀ y ∈ s, inN v.length y) → lfix (mesh_half_l5 v x) s.reverse = some (popC (plV v) x s).reverse := by
  intro s
  induction s with
  | nil =>
    intro _ _
    rw [lfix_eq]
    unfold mesh_half_l5
    rw [jn_d, if_neg (by simp)]
    rfl
  | cons t s ih =>
    intro hl hs
    cases s with
    | nil =>
      rw [lfix_eq]
      unfold mesh_half_l5
      rw [jn_d, if_neg (by simp)]
      rfl
    | cons a r =>
      rw [List.length_cons, List.length_cons] at hl
      have ht := hs t (by simp)
      have ha := hs a (by simp)
      have e0 : (t :: a :: r).reverse = r.reverse ++ [a, t] := by simp
      have e1 : (r.reverse ++ [a, t]).length = r.length + 2 := by simp
      have w1 : w64 ((((r.reverse ++ [a, t]).length : Nat) : Int) - 2) = ((r.length : Nat) : Int) := by rw [e1, w64_id (by omega) (by omega)]; omega
      have w2 : w64 ((((r.reverse ++ [a, t]).length : Nat) : Int) - 1) = ((r.length + 1 : Nat) : Int) := by rw [e1, w64_id (by omega) (by omega)]; omega
      have i1 : idx (r.reverse ++ [a, t]) ((r.length : Nat) : Int) = some a := (idx_nat (by simp)).trans (by simp)
      have i2 : idx (r.reverse ++ [a, t]) ((r.length + 1 : Nat) : Int) = some t := (idx_nat (by simp)).trans (by simp)
      obtain ⟨ka, hka, rfl, fa⟩ := okIx_get (v := v) (i := a) ha
      obtain ⟨kt, hkt, rfl, ft⟩ := okIx_get (v := v) (i := t) ht
      obtain ⟨kx, hkx, rfl, fx⟩ := okIx_get (v := v) (i := x) hx
      have pa : (⟨v[ka].X, v[ka].Y⟩ : S_api_XY) = plV v (ka : Int) := by unfold plV; rw [fa]
      have pt : (⟨v[kt].X, v[kt].Y⟩ : S_api_XY) = plV v (kt : Int) := by unfold plV; rw [ft]
      have px : (⟨v[kx].X, v[kx].Y⟩ : S_api_XY) = plV v (kx : Int) := by unfold plV; rw [fx]
      have tk : List.take (Int.toNat ((r.length + 1 : Nat) : Int)) (r.reverse ++ [(ka : Int), (kt : Int)]) = ((ka : Int) :: r).reverse := by
        rw [Int.toNat_natCast, show r.reverse ++ [(ka : Int), (kt : Int)] = (r.reverse ++ [(ka : Int)]) ++ [(kt : Int)] from by simp, List.take_append_of_le_length (by simp), List.take_of_length_le (by simp)]
        simp
      have hst : mesh_half_l5 v (kx : Int) (r.reverse ++ [(ka : Int), (kt : Int)]) = if crs (plV v (ka : Int)) (plV v (kt : Int)) (plV v (kx : Int)) ≤ 0 then some (.inl ((ka : Int) :: r).reverse) else some (.inr (r.reverse ++ [(ka : Int), (kt : Int)])) := by
        unfold mesh_half_l5 mesh_at
        simp only [w1, w2]
        rw [jn_d, if_pos (by rw [e1]; omega), i1, bnd_s, fa, bnd_s, i2, bnd_s, ft, bnd_s, fx, bnd_s, bnd_s, bnd_s, bnd_s, pa, pt, px, turn_eq (hv.ok _ ha) (hv.ok _ ht) (hv.ok _ hx), bnd_s]
        by_cases c : crs (plV v (ka : Int)) (plV v (kt : Int)) (plV v (kx : Int)) ≤ 0
        · have hsg : Int.sign (crs (plV v (ka : Int)) (plV v (kt : Int)) (plV v (kx : Int))) ≤ 0 := by
            rcases Int.lt_or_eq_of_le c with g | g
            · rw [Int.sign_eq_neg_one_of_neg g]; omega
            · rw [g]; decide
          rw [decide_eq_true hsg, if_pos c]
          dsimp only
          rw [if_pos rfl, gd_t (by rw [e1]; omega), tk]
        · have hsg : ¬ Int.sign (crs (plV v (ka : Int)) (plV v (kt : Int)) (plV v (kx : Int))) ≤ 0 := by
            rw [Int.sign_eq_one_of_pos (by omega)]; omega
          rw [decide_eq_false hsg, if_neg c]
          rfl
      rw [e0, lfix_eq, hst]
      unfold popC
      by_cases c : crs (plV v (ka : Int)) (plV v (kt : Int)) (plV v (kx : Int)) ≤ 0
      · rw [if_pos c, if_pos c]
        exact ih (by rw [List.length_cons]; omega) (fun y hy => hs y (List.mem_cons_of_mem _ hy))
      · rw [if_neg c, if_neg c, e0]
theorem half_eq (hv : GoodV v) (hn : v.length ≤ 1024) {l : List Int} (hl : l.length ≤ 1024) (hin : ∀ x ∈ l, inN v.length x) (hne : l ≠ []) : mesh_half v l = some (chainL (plV v) l).reverse.dropLast := by
  have h0 : lfix (mesh_half_l3 l v) (([] : List Int), 0) = some (chainL (plV v) l).reverse := by
    refine lfix_steps (fun k => ((chainL (plV v) (l.take k)).reverse, (k : Int))) _ l.length (fun k hk => ?_) ?_
    · unfold mesh_half_l3
      dsimp only
      have hlen := chainL_len (P := plV v) (l := l.take k)
      have htk : (l.take k).length ≤ k := List.length_take_le _ _
      have hlen2 := popC_len (P := plV v) (i := l[k]) (s := chainL (plV v) (l.take k))
      rw [if_pos (by omega), idx_nat hk, bnd_s, jn_d, half_pop hv hn (hin _ (List.getElem_mem hk)) (by omega) (fun y hy => hin y (List.mem_of_mem_take (chainL_mem hy))), bnd_s]
      dsimp only
      rw [gd_t (by rw [List.length_reverse]; omega), w64_succ (by omega), List.take_succ_eq_append_getElem hk, chainL_snoc]
      simp
    · unfold mesh_half_l3
      dsimp only
      rw [if_neg (by omega), List.take_length]
  have hlen := chainL_len (P := plV v) (l := l)
  have hpos : 0 < (chainL (plV v) l).length := by
    obtain ⟨l', i, rfl⟩ : ∃ l' i, l = l' ++ [i] := ⟨l.dropLast, l.getLast hne, (List.dropLast_concat_getLast hne).symm⟩
    rw [chainL_snoc]; simp
  unfold mesh_half
  rw [jn_d, h0, bnd_s]
  dsimp only
  have e : w64 ((((chainL (plV v) l).reverse.length : Nat) : Int) - 1) = (((chainL (plV v) l).length - 1 : Nat) : Int) := by
    rw [List.length_reverse, w64_id (by omega) (by omega)]; omega
  rw [e, gd_t (by rw [List.length_reverse]; omega)]
  unfold subl
  rw [Int.toNat_natCast, List.dropLast_eq_take, List.length_reverse]
  rfl
end Go.Proofs.YtlkgeeppfifeeaaGreat
/- The chain over sorted places; places on a segment. -/
namespace Go.Proofs.YtlkgeeppfifeeaaGreat
open Go Go.RowKit
section
variable {P : Int → S_api_XY} {α β : Int}
theorem Sup.congr {D D' : List Int} (h : ∀ x, x ∈ D' → x ∈ D) {a b : Int} (s : Sup P α β D a b) : Sup P α β D' a b := ⟨s.1, fun k hk => s.2 k (h k hk)⟩
theorem Edges.imp {Q R : Int → Int → Prop} (h : ∀ a b, Q a b → R a b) : ∀ {s : List Int}, Edges Q s → Edges R s := by
  intro s
  induction s with
  | nil => intro _; trivial
  | cons t s ih =>
    cases s with
    | nil => intro _; trivial
    | cons a r => exact fun g => ⟨h _ _ g.1, ih g.2⟩
theorem chain_of : ∀ (l : List Int), (l.Pairwise fun i j => ph α β (P i) < ph α β (P j)) → l ≠ [] → ∃ f, l.head? = some f ∧ ChainC P α β f l (chainL P l) ∧ (chainL P l).head? = l.getLast? := by
  refine snoc_ind ?_ (fun l i ih => ?_)
  · intro _ h; exact absurd rfl h
  · intro hp _
    obtain ⟨hp1, _, hp2⟩ := List.pairwise_append.1 hp
    by_cases e : l = []
    · subst e
      refine ⟨i, rfl, ⟨fun x hx => ?_, trivial, ⟨[], rfl⟩, fun k hk => .inl (by simpa using hk)⟩, rfl⟩
      simpa [chainL, popC] using hx
    · obtain ⟨f, h1, h2, h3⟩ := ih hp1 e
      have hlt : ∀ k ∈ l, ph α β (P k) < ph α β (P i) := fun k hk => hp2 k hk i (by simp)
      have inj : ∀ a ∈ l, ∀ b ∈ l, ph α β (P a) = ph α β (P b) → a = b := by
        intro a ha b hb hab
        obtain ⟨m, hm, rfl⟩ := List.getElem_of_mem ha
        obtain ⟨n, hn, rfl⟩ := List.getElem_of_mem hb
        rw [List.pairwise_iff_getElem] at hp1
        rcases Nat.lt_trichotomy m n with c | c | c
        · have := hp1 m n hm hn c; omega
        · subst c; rfl
        · have := hp1 n m hn hm c; omega
      have top : ∀ t r, chainL P l = t :: r → ∀ k ∈ l, ph α β (P k) ≤ ph α β (P t) := by
        intro t r ht k hk
        rw [ht] at h3
        have h3 : some t = l.getLast? := h3
        obtain ⟨q, rfl⟩ : ∃ q, l = q ++ [t] := by
          obtain ⟨q, hq⟩ := List.getLast?_eq_some_iff.1 h3.symm
          exact ⟨q, hq⟩
        rcases List.mem_append.1 hk with g | g
        · have := (List.pairwise_append.1 hp1).2.2 k g t (by simp); omega
        · rw [List.mem_singleton] at g; subst g; omega
      have hc := chain_push h2 inj hlt top
      rw [chainL_snoc]
      refine ⟨f, ?_, ⟨fun x hx => ?_, hc.edge.imp fun a b => Sup.congr fun x hx => ?_, hc.bot, fun k hk => hc.low k ?_⟩, ?_⟩
      · obtain ⟨x, l', rfl⟩ := List.exists_cons_of_ne_nil e
        exact h1
      · have := hc.sub x hx
        simp only [List.mem_cons, List.mem_append, List.not_mem_nil, or_false] at this ⊢
        exact this.symm
      · simp only [List.mem_cons, List.mem_append, List.not_mem_nil, or_false] at hx ⊢
        exact hx.symm
      · simp only [List.mem_cons, List.mem_append, List.not_mem_nil, or_false] at hk ⊢
        exact hk.symm
      · simp
end
/-- In the box of two places. -/
def Box (p q k : S_api_XY) : Prop := min p.X q.X ≤ k.X ∧ k.X ≤ max p.X q.X ∧ min p.Y q.Y ≤ k.Y ∧ k.Y ≤ max p.Y q.Y
instance (p q k : S_api_XY) : Decidable (Box p q k) := by unfold Box; infer_instance
def lexA : Int := 2147483648
theorem ph_bef {p q : S_api_XY} (hp : okP p) (hq : okP q) : ph lexA 1 p < ph lexA 1 q ↔ befP p q := by unfold ph lexA okP befP at *; omega
theorem ph_neg {p q : S_api_XY} (hp : okP p) (hq : okP q) : ph (-lexA) (-1) p < ph (-lexA) (-1) q ↔ befP q p := by unfold ph lexA okP befP at *; omega
theorem mid {a b c d : Int} (h0 : 0 < a) (h1 : 0 ≤ b) (h2 : b ≤ a) (h : a * c = d * b) : (0 ≤ d → 0 ≤ c ∧ c ≤ d) ∧ (d ≤ 0 → d ≤ c ∧ c ≤ 0) := by
  constructor
  · intro hd
    have e1 := Int.mul_nonneg hd h1
    have e2 := Int.mul_nonneg hd (show 0 ≤ a - b by omega)
    refine ⟨nonneg_of_mul h0 (by omega), ?_⟩
    have : 0 ≤ d - c := nonneg_of_mul h0 (by rw [Int.mul_sub] at *; rw [Int.mul_comm a d]; omega)
    omega
  · intro hd
    have e1 := Int.mul_nonneg (show 0 ≤ -d by omega) h1
    have e2 := Int.mul_nonneg (show 0 ≤ -d by omega) (show 0 ≤ a - b by omega)
    rw [Int.neg_mul] at e1 e2
    rw [Int.mul_sub] at e2
    constructor
    · have : 0 ≤ c - d := nonneg_of_mul h0 (by rw [Int.mul_sub, Int.mul_comm a d]; omega)
      omega
    · have : 0 ≤ -c := nonneg_of_mul h0 (by rw [Int.mul_neg]; omega)
      omega
theorem seg_box {p q k : S_api_XY} (h : crs p q k = 0) (h1 : ¬ befP k p) (h2 : ¬ befP q k) : Box p q k := by
  unfold befP at h1 h2
  unfold crs at h
  unfold Box
  by_cases e : p.X = q.X
  · omega
  · have := mid (a := q.X - p.X) (b := k.X - p.X) (c := k.Y - p.Y) (d := q.Y - p.Y) (by omega) (by omega) (by omega) (by omega)
    rcases Int.le_total 0 (q.Y - p.Y) with g | g
    · have := this.1 g; omega
    · have := this.2 g; omega
theorem Box.swap {p q k : S_api_XY} (h : Box p q k) : Box q p k := by unfold Box at *; omega
theorem no_box {p q k : S_api_XY} (h : crs p q k = 0) (h1 : ¬ befP q p) (h2 : befP q k) (h3 : ¬ sameP p q) : ¬ Box p q k := by
  intro hb
  unfold befP sameP at *
  unfold Box at hb
  unfold crs at h
  by_cases e : p.X = q.X
  · omega
  · have hk : k.X = q.X := by omega
    rw [hk] at h
    have : (q.X - p.X) * (k.Y - q.Y) = 0 := by grind
    rcases Int.mul_eq_zero.1 this with g | g <;> omega
theorem no_box' {p q k : S_api_XY} (h : crs p q k = 0) (h1 : ¬ befP p q) (h2 : befP k q) (h3 : ¬ sameP p q) : ¬ Box p q k := by
  intro hb
  unfold befP sameP at *
  unfold Box at hb
  unfold crs at h
  by_cases e : p.X = q.X
  · omega
  · have hk : k.X = q.X := by omega
    rw [hk] at h
    have : (q.X - p.X) * (k.Y - q.Y) = 0 := by grind
    rcases Int.mul_eq_zero.1 this with g | g <;> omega
end Go.Proofs.YtlkgeeppfifeeaaGreat
/- The reference's hull: the scan gives the next place of the border. -/
namespace Go.Proofs.YtlkgeeppfifeeaaGreat
open Go Go.RowKit
variable {v : List S_api_Vertex}
/-- b comes next behind a, counterclockwise. -/
structure Nx (v : List S_api_Vertex) (a b : Int) : Prop where
  ina : inN v.length a
  inb : inN v.length b
  ne : a ≠ b
  left : ∀ k, inN v.length k → 0 < crs (plV v a) (plV v b) (plV v k) ∨ (crs (plV v a) (plV v b) (plV v k) = 0 ∧ Box (plV v a) (plV v b) (plV v k))
  far : ∀ k, inN v.length k → k ≠ a → k ≠ b → crs (plV v a) (plV v b) (plV v k) = 0 → ¬ Box (plV v a) (plV v k) (plV v b)
theorem not_same (hv : GoodV v) {i j : Int} (hi : inN v.length i) (hj : inN v.length j) (h : i ≠ j) : ¬ sameP (plV v i) (plV v j) := fun g => h (hv.dist i j hi hj g)
theorem crs_flip (a b c : S_api_XY) : crs a c b = -crs a b c := by unfold crs; grind
theorem Sup.nx (hv : GoodV v) {l : List Int} (hl : ∀ k, inN v.length k → k ∈ l) {a b : Int} (ha : inN v.length a) (hb : inN v.length b) (h : Sup (plV v) lexA 1 l a b) : Nx v a b := by
  have hne : a ≠ b := fun e => by have := h.1; rw [e] at this; omega
  have side : ∀ k, inN v.length k → crs (plV v a) (plV v b) (plV v k) = 0 → ¬ befP (plV v k) (plV v a) ∧ ¬ befP (plV v b) (plV v k) := fun k hk h0 => by
    rcases h.2 k (hl k hk) with g | g
    · omega
    · rw [← ph_bef (hv.ok _ hk) (hv.ok _ ha), ← ph_bef (hv.ok _ hb) (hv.ok _ hk)]
      omega
  refine ⟨ha, hb, hne, fun k hk => ?_, fun k hk n1 n2 h0 => ?_⟩
  · rcases h.2 k (hl k hk) with g | g
    · exact .inl g
    · exact .inr ⟨g.1, seg_box g.1 (side k hk g.1).1 (side k hk g.1).2⟩
  · obtain ⟨s1, s2⟩ := side k hk h0
    have n3 := not_same hv hk hb n2
    refine no_box (by rw [crs_flip]; omega) s1 ?_ (not_same hv ha hk (fun e => n1 e.symm))
    unfold befP sameP at *
    omega
theorem Sup.nx' (hv : GoodV v) {l : List Int} (hl : ∀ k, inN v.length k → k ∈ l) {a b : Int} (ha : inN v.length a) (hb : inN v.length b) (h : Sup (plV v) (-lexA) (-1) l a b) : Nx v a b := by
  have hne : a ≠ b := fun e => by have := h.1; rw [e] at this; omega
  have side : ∀ k, inN v.length k → crs (plV v a) (plV v b) (plV v k) = 0 → ¬ befP (plV v a) (plV v k) ∧ ¬ befP (plV v k) (plV v b) := fun k hk h0 => by
    rcases h.2 k (hl k hk) with g | g
    · omega
    · rw [← ph_neg (hv.ok _ hk) (hv.ok _ ha), ← ph_neg (hv.ok _ hb) (hv.ok _ hk)]
      omega
  refine ⟨ha, hb, hne, fun k hk => ?_, fun k hk n1 n2 h0 => ?_⟩
  · rcases h.2 k (hl k hk) with g | g
    · exact .inl g
    · exact .inr ⟨g.1, (seg_box (by have := g.1; have e : crs (plV v b) (plV v a) (plV v k) = -crs (plV v a) (plV v b) (plV v k) := by unfold crs; grind
                                    omega) (side k hk g.1).2 (side k hk g.1).1).swap⟩
  · obtain ⟨s1, s2⟩ := side k hk h0
    have n3 := not_same hv hk hb n2
    refine no_box' (by rw [crs_flip]; omega) s1 ?_ (not_same hv ha hk (fun e => n1 e.symm))
    unfold befP sameP at *
    omega
theorem ref_between {p q r : S_api_XY} (hp : okP p) (hq : okP q) (hr : okP r) : lidarref06_between p q r = some (decide (crs p q r = 0 ∧ Box p q r)) := by
  unfold lidarref06_between
  rw [jn_d, ref_Turn hp hq hr, bnd_s]
  have e : Int.sign (crs p q r) = 0 ↔ crs p q r = 0 := Int.sign_eq_zero_iff_zero
  by_cases h : crs p q r = 0
  · rw [if_pos (e.2 h)]
    unfold Box
    by_cases h1 : min p.X q.X ≤ r.X
    · rw [if_pos h1]
      by_cases h2 : r.X ≤ max p.X q.X
      · rw [if_pos h2]
        by_cases h3 : min p.Y q.Y ≤ r.Y
        · rw [if_pos h3]; simp [h, h1, h2, h3]
        · rw [if_neg h3]; simp [h3]
      · rw [if_neg h2]; simp [h2]
    · rw [if_neg h1]; simp [h1]
  · rw [if_neg (fun g => h (e.1 g))]; simp [h]
theorem hull_next (hv : GoodV v) (hn : v.length ≤ 1024) {a b : Int} (h : Nx v a b) : lidarref06_hull v a true = some b := by
  have hb := h.inb
  unfold lidarref06_hull
  rw [jn_d]
  have := lfix_ind (B := lidarref06_hull_l3 v a true) (fun s => v.length - s.2.toNat)
    (fun s => 0 ≤ s.2 ∧ s.2 ≤ (v.length : Int) ∧ (s.1 = -1 ∨ (inN v.length s.1 ∧ s.1 ≠ a ∧ s.1 < s.2)) ∧ (b < s.2 → s.1 = b)) (fun t => t = b) (fun s hs => by
      obtain ⟨out, k⟩ := s
      obtain ⟨h1, h2, h3, h4⟩ := hs
      simp only at h1 h2 h3 h4
      unfold lidarref06_hull_l3
      dsimp only
      unfold inN at hb
      by_cases hk : k < (v.length : Int)
      · left
        have hkn : inN v.length k := ⟨h1, hk⟩
        have w1 : w64 (k + 1) = k + 1 := w64_id (by omega) (by omega)
        rw [if_pos hk, jn_d]
        by_cases e1 : k = a
        · rw [if_pos e1, w1]
          have := h.ne
          refine ⟨_, rfl, ⟨by dsimp only; omega, by dsimp only; omega, ?_, fun g => ?_⟩, by dsimp only; omega⟩
          · rcases h3 with g | g
            · exact .inl g
            · exact .inr ⟨g.1, g.2.1, by dsimp only; omega⟩
          · dsimp only at g ⊢
            exact h4 (by omega)
        · rw [if_neg e1]
          by_cases e2 : out < 0
          · rw [if_pos e2, w1]
            refine ⟨_, rfl, ⟨by dsimp only; omega, by dsimp only; omega, .inr ⟨hkn, e1, by dsimp only; omega⟩, fun g => ?_⟩, by dsimp only; omega⟩
            dsimp only at g ⊢
            by_cases c : b < k
            · have := h4 c; omega
            · omega
          · rw [if_neg e2]
            obtain ⟨g1, g2, g3⟩ : inN v.length out ∧ out ≠ a ∧ out < k := by
              rcases h3 with g | g
              · omega
              · exact g
            obtain ⟨ka, hka, ea, fa⟩ := okIx_get (v := v) (i := a) h.ina
            obtain ⟨ko, hko, eo, fo⟩ := okIx_get (v := v) (i := out) g1
            obtain ⟨kk, hkk, ek, fk⟩ := okIx_get (v := v) (i := k) hkn
            have pa : (⟨v[ka].X, v[ka].Y⟩ : S_api_XY) = plV v a := by unfold plV; rw [fa]
            have po : (⟨v[ko].X, v[ko].Y⟩ : S_api_XY) = plV v out := by unfold plV; rw [fo]
            have pk : (⟨v[kk].X, v[kk].Y⟩ : S_api_XY) = plV v k := by unfold plV; rw [fk]
            rw [jn_d, fa, bnd_s, fo, bnd_s, fk, bnd_s]
            unfold lidarref06_Place
            rw [bnd_s, bnd_s, bnd_s]
            dsimp only
            rw [pa, po, pk, ref_Turn (hv.ok _ h.ina) (hv.ok _ g1) (hv.ok _ hkn), bnd_s, jn_d, ref_between (hv.ok _ h.ina) (hv.ok _ g1) (hv.ok _ hkn), w1]
            have sg : Int.sign (crs (plV v a) (plV v out) (plV v k)) < 0 ↔ crs (plV v a) (plV v out) (plV v k) < 0 := Int.sign_neg_iff
            have s0 : Int.sign (crs (plV v a) (plV v out) (plV v k)) = 0 ↔ crs (plV v a) (plV v out) (plV v k) = 0 := Int.sign_eq_zero_iff_zero
            have take : out ≠ b → ∃ s', (some (.inl (k, k + 1)) : Option (Sum (Int × Int) Int)) = some (.inl s') ∧ (0 ≤ s'.2 ∧ s'.2 ≤ (v.length : Int) ∧ (s'.1 = -1 ∨ (inN v.length s'.1 ∧ s'.1 ≠ a ∧ s'.1 < s'.2)) ∧ (b < s'.2 → s'.1 = b)) ∧ v.length - s'.2.toNat < v.length - k.toNat := fun hx =>
              ⟨_, rfl, ⟨by dsimp only; omega, by dsimp only; omega, .inr ⟨hkn, e1, by dsimp only; omega⟩, fun g => by
                dsimp only at g ⊢
                by_cases c : b < k
                · exact absurd (h4 c) hx
                · omega⟩, by dsimp only; omega⟩
            have keep : k ≠ b → ∃ s', (some (.inl (out, k + 1)) : Option (Sum (Int × Int) Int)) = some (.inl s') ∧ (0 ≤ s'.2 ∧ s'.2 ≤ (v.length : Int) ∧ (s'.1 = -1 ∨ (inN v.length s'.1 ∧ s'.1 ≠ a ∧ s'.1 < s'.2)) ∧ (b < s'.2 → s'.1 = b)) ∧ v.length - s'.2.toNat < v.length - k.toNat := fun hx =>
              ⟨_, rfl, ⟨by dsimp only; omega, by dsimp only; omega, .inr ⟨g1, g2, by dsimp only; omega⟩, fun g => by
                dsimp only at g ⊢
                exact h4 (by omega)⟩, by dsimp only; omega⟩
            by_cases c1 : crs (plV v a) (plV v out) (plV v k) < 0
            · rw [if_pos (sg.2 c1)]
              dsimp only
              rw [if_pos rfl]
              refine take fun e => ?_
              subst e
              rcases h.left k hkn with g | g <;> omega
            · rw [if_neg (fun g => c1 (sg.1 g))]
              by_cases c2 : crs (plV v a) (plV v out) (plV v k) = 0
              · rw [if_pos (s0.2 c2), bnd_s]
                by_cases c3 : Box (plV v a) (plV v out) (plV v k)
                · rw [decide_eq_true ⟨c2, c3⟩]
                  refine keep fun e => ?_
                  rw [e] at c2 c3 g3
                  exact h.far out g1 g2 (by omega) (by rw [crs_flip]; omega) c3
                · rw [decide_eq_false (fun g => c3 g.2)]
                  refine take fun e => ?_
                  subst e
                  rcases h.left k hkn with g | g
                  · omega
                  · exact c3 g.2
              · rw [if_neg (fun g => c2 (s0.1 g))]
                refine keep fun e => ?_
                rw [e, crs_flip] at c1 c2
                rcases h.left out g1 with g | g <;> omega
      · right
        rw [if_neg hk]
        refine ⟨_, rfl, ?_⟩
        exact h4 (by omega)) (-1, 0) ⟨by simp, by simp, .inl rfl, fun g => by unfold inN at hb; simp only at g; omega⟩
  obtain ⟨t, ht, rfl⟩ := this
  rw [ht, bnd_s]
end Go.Proofs.YtlkgeeppfifeeaaGreat
/- The border as a walk; gift wrapping goes along it. -/
namespace Go.Proofs.YtlkgeeppfifeeaaGreat
open Go Go.RowKit
variable {v : List S_api_Vertex}
def Links (Q : Int → Int → Prop) : List Int → Prop
  | a :: b :: r => Q a b ∧ Links Q (b :: r)
  | _ => True
theorem links_join {Q : Int → Int → Prop} : ∀ {X : List Int} {g : Int} {Y : List Int}, Links Q (X ++ [g]) → Links Q (g :: Y) → Links Q (X ++ g :: Y) := by
  intro X
  induction X with
  | nil => intro g Y _ h; exact h
  | cons x X ih =>
    intro g Y h1 h2
    cases X with
    | nil => exact ⟨h1.1, h2⟩
    | cons y X => exact ⟨h1.1, ih h1.2 h2⟩
theorem links_rev {Q : Int → Int → Prop} : ∀ {s : List Int}, Edges Q s → Links Q s.reverse := by
  intro s
  induction s with
  | nil => intro _; trivial
  | cons t s ih =>
    intro h
    cases s with
    | nil => trivial
    | cons a r =>
      have := ih h.2
      rw [List.reverse_cons] at this ⊢
      rw [List.reverse_cons, List.append_assoc]
      exact links_join this ⟨h.1, trivial⟩
theorem links_imp {Q R : Int → Int → Prop} : ∀ {s : List Int}, (∀ a b, a ∈ s → b ∈ s → Q a b → R a b) → Links Q s → Links R s := by
  intro s
  induction s with
  | nil => intro _ _; trivial
  | cons t s ih =>
    intro h g
    cases s with
    | nil => trivial
    | cons a r => exact ⟨h _ _ (by simp) (by simp) g.1, ih (fun a b ha hb => h a b (List.mem_cons_of_mem _ ha) (List.mem_cons_of_mem _ hb)) g.2⟩
theorem wrap_loop (hv : GoodV v) (hn : v.length ≤ 1024) {f : Int} : ∀ (rest acc : List Int), acc.length + rest.length ≤ 100000 → (∀ y ∈ rest, y ≠ f) → Links (Nx v) (rest ++ [f]) → lfix (lidarref06_Border_l20 f v) (acc, (rest ++ [f]).headD f) = some (acc ++ rest) := by
  intro rest
  induction rest with
  | nil =>
    intro acc _ _ _
    have hst : lidarref06_Border_l20 f v (acc, f) = some (.inr acc) := by
      unfold lidarref06_Border_l20
      dsimp only
      rw [if_pos rfl]
    show lfix (lidarref06_Border_l20 f v) (acc, f) = _
    rw [lfix_eq, hst, List.append_nil]
  | cons y rest ih =>
    intro acc hl hne hk
    rw [List.length_cons] at hl
    have hnx : Nx v y ((rest ++ [f]).headD f) ∧ Links (Nx v) (rest ++ [f]) := by
      cases rest with
      | nil => exact ⟨hk.1, trivial⟩
      | cons z r => exact ⟨hk.1, hk.2⟩
    have hst : lidarref06_Border_l20 f v (acc, y) = some (.inl (acc ++ [y], (rest ++ [f]).headD f)) := by
      unfold lidarref06_Border_l20
      dsimp only
      rw [if_neg (hne y (by simp)), gd_t (by omega), hull_next hv hn hnx.1, bnd_s]
    have := ih (acc ++ [y]) (by rw [List.length_append, List.length_singleton]; omega) (fun z hz => hne z (List.mem_cons_of_mem _ hz)) hnx.2
    rw [List.append_assoc] at this
    show lfix (lidarref06_Border_l20 f v) (acc, y) = _
    rw [lfix_eq, hst]
    exact this
theorem edges_top {P : Int → S_api_XY} {α β : Int} {D : List Int} : ∀ {r : List Int} {t : Int}, Edges (Sup P α β D) (t :: r) → ∀ y ∈ r, ph α β (P y) < ph α β (P t) := by
  intro r
  induction r with
  | nil => intro t _ y hy; cases hy
  | cons a r ih =>
    intro t h y hy
    have h1 := h.1.1
    rcases List.mem_cons.1 hy with rfl | hy
    · exact h1
    · have := ih h.2 y hy; omega
theorem edges_bot {P : Int → S_api_XY} {α β : Int} {D : List Int} {f : Int} : ∀ {r : List Int}, Edges (Sup P α β D) (r ++ [f]) → ∀ y ∈ r, ph α β (P f) < ph α β (P y) := by
  intro r
  induction r with
  | nil => intro _ y hy; cases hy
  | cons t r ih =>
    intro h y hy
    rcases List.mem_cons.1 hy with rfl | hy
    · exact edges_top h f (by simp)
    · refine ih ?_ y hy
      cases r with
      | nil => trivial
      | cons a r => exact h.2
/-- The walk along both chains. -/
theorem walk_border (hv : GoodV v) {l : List Int} (hr : Ranked v l) (h2 : 2 ≤ l.length) : ∃ f g X Y, (chainL (plV v) l).reverse = f :: X ++ [g] ∧ (chainL (plV v) l.reverse).reverse = g :: Y ++ [f] ∧ Links (Nx v) (f :: X ++ g :: Y ++ [f]) ∧ (∀ y ∈ X ++ g :: Y, y ≠ f) ∧ (∀ y ∈ X, y ≠ g) ∧ inN v.length f ∧ (∀ k, inN v.length k → k = f ∨ befP (plV v f) (plV v k)) ∧ inN v.length g ∧ (∀ k, inN v.length k → k = g ∨ befP (plV v k) (plV v g)) := by
  have hlen := hr.len
  have hord : l.Pairwise fun i j => ph lexA 1 (plV v i) < ph lexA 1 (plV v j) := by
    refine hr.ord.imp_of_mem fun {a b} ha hb h => ?_
    exact (ph_bef (hv.ok _ (hr.val.1 ha)) (hv.ok _ (hr.val.1 hb))).2 h
  have hord' : l.reverse.Pairwise fun i j => ph (-lexA) (-1) (plV v i) < ph (-lexA) (-1) (plV v j) := by
    rw [List.pairwise_reverse]
    refine hr.ord.imp_of_mem fun {a b} ha hb h => ?_
    exact (ph_neg (hv.ok _ (hr.val.1 hb)) (hv.ok _ (hr.val.1 ha))).2 h
  have hne : l ≠ [] := by rintro rfl; simp at h2
  obtain ⟨f, a1, a2, a3⟩ := chain_of l hord hne
  obtain ⟨g, b1, b2, b3⟩ := chain_of l.reverse hord' (by simpa using hne)
  rw [List.head?_reverse] at b1
  rw [List.getLast?_reverse, a1] at b3
  rw [b1] at a3
  have hfl : f ∈ l := List.mem_of_mem_head? a1
  have hgl : g ∈ l := List.mem_of_getLast? b1
  have hf := hr.val.1 hfl
  have hg := hr.val.1 hgl
  have lowf : ∀ k, inN v.length k → k = f ∨ befP (plV v f) (plV v k) := fun k hk => by
    rcases a2.low k (hr.val.2 hk) with e | e
    · exact .inl e
    · exact .inr ((ph_bef (hv.ok _ hf) (hv.ok _ hk)).1 e)
  have lowg : ∀ k, inN v.length k → k = g ∨ befP (plV v k) (plV v g) := fun k hk => by
    rcases b2.low k (List.mem_reverse.2 (hr.val.2 hk)) with e | e
    · exact .inl e
    · exact .inr ((ph_neg (hv.ok _ hg) (hv.ok _ hk)).1 e)
  have hfg : f ≠ g := by
    rintro rfl
    have h01 := hr.lt (a := 0) (b := 1) (by omega) (by omega) (by omega)
    have k0 := hr.val.1 (List.getElem_mem (show 0 < l.length by omega))
    have k1 := hr.val.1 (List.getElem_mem (show 1 < l.length by omega))
    have q0 := lowf _ k0
    have q1 := lowg _ k0
    have r0 := lowf _ k1
    have r1 := lowg _ k1
    have i0 : ∀ p : S_api_XY, ¬ befP p p := fun p => by unfold befP; omega
    have i1 : ∀ p q : S_api_XY, befP p q → ¬ befP q p := fun p q => by unfold befP; omega
    rcases q0 with e | e
    · rcases r0 with e' | e'
      · rw [e, e'] at h01; exact i0 _ h01
      · rcases r1 with e2 | e2
        · rw [e2] at e'; exact i0 _ e'
        · exact i1 _ _ e' e2
    · rcases q1 with e2 | e2
      · rw [e2] at e; exact i0 _ e
      · exact i1 _ _ e e2
  obtain ⟨r, hr1⟩ := a2.bot
  obtain ⟨r', hr2⟩ := b2.bot
  obtain ⟨m, rfl⟩ : ∃ m, r = g :: m := by
    cases r with
    | nil => rw [hr1] at a3; simp at a3; exact absurd a3 hfg
    | cons x m => rw [hr1] at a3; simp at a3; exact ⟨m, by rw [a3]⟩
  obtain ⟨m', rfl⟩ : ∃ m, r' = f :: m := by
    cases r' with
    | nil => rw [hr2] at b3; simp at b3; exact absurd b3.symm hfg
    | cons x m => rw [hr2] at b3; simp at b3; exact ⟨m, by rw [b3]⟩
  have e1 : (chainL (plV v) l).reverse = f :: m.reverse ++ [g] := by rw [hr1]; simp
  have e2 : (chainL (plV v) l.reverse).reverse = g :: m'.reverse ++ [f] := by rw [hr2]; simp
  have L1 := links_rev a2.edge
  have L2 := links_rev b2.edge
  have N1 : Links (Nx v) (f :: m.reverse ++ [g]) := by
    rw [← e1]
    refine links_imp (fun a b ha hb h => Sup.nx hv (fun k hk => hr.val.2 hk) (hr.val.1 (a2.sub a (List.mem_reverse.1 ha))) (hr.val.1 (a2.sub b (List.mem_reverse.1 hb))) h) L1
  have N2 : Links (Nx v) (g :: m'.reverse ++ [f]) := by
    rw [← e2]
    refine links_imp (fun a b ha hb h => Sup.nx' hv (fun k hk => List.mem_reverse.2 (hr.val.2 hk)) (hr.val.1 (List.mem_reverse.1 (b2.sub a (List.mem_reverse.1 ha)))) (hr.val.1 (List.mem_reverse.1 (b2.sub b (List.mem_reverse.1 hb)))) h) L2
  refine ⟨f, g, m.reverse, m'.reverse, e1, e2, ?_, fun y hy => ?_, fun y hy => ?_, hf, lowf, hg, lowg⟩
  · have := links_join (X := f :: m.reverse) (g := g) (Y := m'.reverse ++ [f]) N1 N2
    simpa using this
  · rintro rfl
    rcases List.mem_append.1 hy with hy | hy
    · have E := a2.edge
      rw [hr1] at E
      have := edges_bot E y (by simp at hy ⊢; exact .inr hy)
      omega
    · rcases List.mem_cons.1 hy with e | hy
      · exact hfg e
      · have E := b2.edge
        rw [hr2] at E
        have := edges_top E y (by simp at hy ⊢; exact .inl hy)
        omega
  · rintro rfl
    have E := a2.edge
    rw [hr1] at E
    have := edges_top E y (by simp at hy ⊢; exact .inl hy)
    omega
end Go.Proofs.YtlkgeeppfifeeaaGreat
/- The first, the last, flat: the reference's border. -/
namespace Go.Proofs.YtlkgeeppfifeeaaGreat
open Go Go.RowKit
variable {v : List S_api_Vertex}
theorem ref_before (p q : S_api_XY) : lidarref06_Before p q = some (decide (befP p q)) := by
  unfold lidarref06_Before befP
  rw [jn_d]
  by_cases h1 : p.X < q.X
  · rw [if_pos h1]; simp [h1]
  · rw [if_neg h1]
    by_cases h2 : p.X = q.X
    · rw [if_pos h2]; simp [h2]
    · rw [if_neg h2]; simp [h1, h2]
theorem bef_irr (p : S_api_XY) : ¬ befP p p := by unfold befP; omega
theorem bef_asym {p q : S_api_XY} (h : befP p q) : ¬ befP q p := by unfold befP at *; omega
theorem pl_idx {i : Int} (hi : inN v.length i) : ∃ x, idx v i = some x ∧ (⟨x.X, x.Y⟩ : S_api_XY) = plV v i := by
  obtain ⟨k, hk, rfl, f⟩ := okIx_get (v := v) (i := i) hi
  exact ⟨v[k], f, by unfold plV; rw [f]⟩
theorem first_eq (hn : v.length ≤ 1024) {f : Int} (hf : inN v.length f) (low : ∀ k, inN v.length k → k = f ∨ befP (plV v f) (plV v k)) : lidarref06_first v = some f := by
  unfold inN at hf
  unfold lidarref06_first
  rw [jn_d]
  have := lfix_ind (B := lidarref06_first_l3 v) (fun s => v.length - s.2.toNat) (fun s => 0 ≤ s.2 ∧ s.2 ≤ (v.length : Int) ∧ inN v.length s.1 ∧ (f < s.2 → s.1 = f)) (fun t => t = f) (fun s hs => by
    obtain ⟨b, k⟩ := s
    obtain ⟨h1, h2, h3, h4⟩ := hs
    simp only at h1 h2 h3 h4
    unfold lidarref06_first_l3
    dsimp only
    by_cases hk : k < (v.length : Int)
    · left
      obtain ⟨x, hx, px⟩ := pl_idx (v := v) (i := k) ⟨h1, hk⟩
      obtain ⟨y, hy, py⟩ := pl_idx (v := v) (i := b) h3
      rw [if_pos hk, jn_d, hx, bnd_s, hy, bnd_s]
      unfold lidarref06_Place
      rw [bnd_s, bnd_s, px, py, ref_before, bnd_s, w64_id (by omega) (by omega)]
      by_cases c : befP (plV v k) (plV v b)
      · rw [if_pos (decide_eq_true c)]
        refine ⟨_, rfl, ⟨by dsimp only; omega, by dsimp only; omega, ⟨h1, hk⟩, fun g => ?_⟩, by dsimp only; omega⟩
        dsimp only at g ⊢
        by_cases e : f < k
        · rw [h4 e] at c
          rcases low k ⟨h1, hk⟩ with e2 | e2
          · exact e2
          · exact absurd c (bef_asym e2)
        · omega
      · rw [if_neg (by simpa using c)]
        refine ⟨_, rfl, ⟨by dsimp only; omega, by dsimp only; omega, h3, fun g => ?_⟩, by dsimp only; omega⟩
        dsimp only at g ⊢
        by_cases e : f < k
        · exact h4 e
        · have : k = f := by omega
          rcases low b h3 with e2 | e2
          · exact e2
          · rw [this] at c; exact absurd e2 c
    · right
      rw [if_neg hk]
      exact ⟨_, rfl, h4 (by omega)⟩) (0, 0) ⟨by simp, by simp, ⟨by simp, by simp only; omega⟩, fun g => by simp only at g; omega⟩
  obtain ⟨t, ht, rfl⟩ := this
  rw [ht, bnd_s]
theorem last_eq (hn : v.length ≤ 1024) {f g : Int} (hf : inN v.length f) (hg : inN v.length g) (low : ∀ k, inN v.length k → k = g ∨ befP (plV v k) (plV v g)) : lfix (lidarref06_Border_l10 v) (f, 0) = some g := by
  unfold inN at hg
  have := lfix_ind (B := lidarref06_Border_l10 v) (fun s => v.length - s.2.toNat) (fun s => 0 ≤ s.2 ∧ s.2 ≤ (v.length : Int) ∧ inN v.length s.1 ∧ (g < s.2 → s.1 = g)) (fun t => t = g) (fun s hs => by
    obtain ⟨b, k⟩ := s
    obtain ⟨h1, h2, h3, h4⟩ := hs
    simp only at h1 h2 h3 h4
    unfold lidarref06_Border_l10
    dsimp only
    by_cases hk : k < (v.length : Int)
    · left
      obtain ⟨x, hx, px⟩ := pl_idx (v := v) (i := k) ⟨h1, hk⟩
      obtain ⟨y, hy, py⟩ := pl_idx (v := v) (i := b) h3
      rw [if_pos hk, jn_d, hy, bnd_s, hx, bnd_s]
      unfold lidarref06_Place
      rw [bnd_s, bnd_s, px, py, ref_before, bnd_s, w64_id (by omega) (by omega)]
      by_cases c : befP (plV v b) (plV v k)
      · rw [if_pos (decide_eq_true c)]
        refine ⟨_, rfl, ⟨by dsimp only; omega, by dsimp only; omega, ⟨h1, hk⟩, fun g' => ?_⟩, by dsimp only; omega⟩
        dsimp only at g' ⊢
        by_cases e : g < k
        · rw [h4 e] at c
          rcases low k ⟨h1, hk⟩ with e2 | e2
          · exact e2
          · exact absurd c (bef_asym e2)
        · omega
      · rw [if_neg (by simpa using c)]
        refine ⟨_, rfl, ⟨by dsimp only; omega, by dsimp only; omega, h3, fun g' => ?_⟩, by dsimp only; omega⟩
        dsimp only at g' ⊢
        by_cases e : g < k
        · exact h4 e
        · have : k = g := by omega
          rcases low b h3 with e2 | e2
          · exact e2
          · rw [this] at c; exact absurd e2 c
    · right
      rw [if_neg hk]
      exact ⟨_, rfl, h4 (by omega)⟩) (f, 0) ⟨by simp, by simp, hf, fun g => by simp only at g; omega⟩
  obtain ⟨t, ht, rfl⟩ := this
  exact ht
theorem flat_eq (hv : GoodV v) (hn : v.length ≤ 1024) : ∃ b, lidarref06_flat v = some b ∧ (b = true ↔ ∀ k, 2 ≤ k → inN v.length k → crs (plV v 0) (plV v 1) (plV v k) = 0) := by
  unfold lidarref06_flat
  rw [jn_d]
  have := lfix_ind (B := lidarref06_flat_l2 v) (fun s => v.length - s.toNat) (fun s => 2 ≤ s ∧ ∀ k, 2 ≤ k → k < s → inN v.length k → crs (plV v 0) (plV v 1) (plV v k) = 0)
    (fun t => (t = .inl () ∧ ∀ k, 2 ≤ k → inN v.length k → crs (plV v 0) (plV v 1) (plV v k) = 0) ∨ (t = .inr false ∧ ¬ ∀ k, 2 ≤ k → inN v.length k → crs (plV v 0) (plV v 1) (plV v k) = 0)) (fun s hs => by
    obtain ⟨h1, h2⟩ := hs
    unfold lidarref06_flat_l2
    by_cases hk : s < (v.length : Int)
    · have hs' : inN v.length s := ⟨by omega, hk⟩
      have h0' : inN v.length 0 := ⟨by omega, by omega⟩
      have h1' : inN v.length 1 := ⟨by omega, by omega⟩
      obtain ⟨x, hx, px⟩ := pl_idx (v := v) h0'
      obtain ⟨y, hy, py⟩ := pl_idx (v := v) h1'
      obtain ⟨z, hz, pz⟩ := pl_idx (v := v) hs'
      rw [if_pos hk, hx, bnd_s, hy, bnd_s, hz, bnd_s]
      unfold lidarref06_Place
      rw [bnd_s, bnd_s, bnd_s, px, py, pz, ref_Turn (hv.ok _ h0') (hv.ok _ h1') (hv.ok _ hs'), bnd_s, w64_id (by omega) (by omega)]
      have s0 : Int.sign (crs (plV v 0) (plV v 1) (plV v s)) = 0 ↔ crs (plV v 0) (plV v 1) (plV v s) = 0 := Int.sign_eq_zero_iff_zero
      by_cases c : crs (plV v 0) (plV v 1) (plV v s) = 0
      · left
        rw [if_pos (s0.2 c)]
        refine ⟨_, rfl, ⟨by omega, fun k k1 k2 k3 => ?_⟩, by omega⟩
        by_cases e : k = s
        · rw [e]; exact c
        · exact h2 k k1 (by omega) k3
      · right
        rw [if_neg (fun g => c (s0.1 g))]
        exact ⟨_, rfl, .inr ⟨rfl, fun g => c (g s h1 hs')⟩⟩
    · right
      rw [if_neg hk]
      exact ⟨_, rfl, .inl ⟨rfl, fun k k1 k2 => h2 k k1 (by have := k2.2; omega) k2⟩⟩) 2 ⟨by omega, fun k k1 k2 => by omega⟩
  obtain ⟨t, ht, g | g⟩ := this
  · obtain ⟨rfl, g⟩ := g
    rw [ht, bnd_s]
    exact ⟨true, rfl, fun _ => g, fun _ => rfl⟩
  · obtain ⟨rfl, g⟩ := g
    rw [ht, bnd_s]
    exact ⟨false, rfl, fun h => (by cases h), fun h => absurd h g⟩
end Go.Proofs.YtlkgeeppfifeeaaGreat
/- MeshBorders is true. -/
namespace Go.Proofs.YtlkgeeppfifeeaaGreat
open Go Go.RowKit
variable {v : List S_api_Vertex}
theorem Nx.unique (hv : GoodV v) (hn : v.length ≤ 1024) {a b c : Int} (h : Nx v a b) (k : Nx v a c) : b = c := by
  have := (hull_next hv hn h).symm.trans (hull_next hv hn k)
  exact Option.some.inj this
theorem nx_flat (hv : GoodV v) {f g : Int} (hf : inN v.length f) (hg : inN v.length g) (hne : f ≠ g) (low : ∀ k, inN v.length k → k = f ∨ befP (plV v f) (plV v k)) (high : ∀ k, inN v.length k → k = g ∨ befP (plV v k) (plV v g)) (col : ∀ a b c, inN v.length a → inN v.length b → inN v.length c → crs (plV v a) (plV v b) (plV v c) = 0) : Nx v f g ∧ Nx v g f := by
  have b1 : ∀ k, inN v.length k → ¬ befP (plV v k) (plV v f) := fun k hk h => by
    rcases low k hk with e | e
    · rw [e] at h; exact bef_irr _ h
    · exact bef_asym e h
  have b2 : ∀ k, inN v.length k → ¬ befP (plV v g) (plV v k) := fun k hk h => by
    rcases high k hk with e | e
    · rw [e] at h; exact bef_irr _ h
    · exact bef_asym e h
  refine ⟨⟨hf, hg, hne, fun k hk => .inr ⟨col _ _ _ hf hg hk, seg_box (col _ _ _ hf hg hk) (b1 k hk) (b2 k hk)⟩, fun k hk n1 n2 _ => ?_⟩, ⟨hg, hf, fun e => hne e.symm, fun k hk => .inr ⟨col _ _ _ hg hf hk, (seg_box (col _ _ _ hf hg hk) (b1 k hk) (b2 k hk)).swap⟩, fun k hk n1 n2 _ => ?_⟩⟩
  · rcases high k hk with e | e
    · exact absurd e n2
    · exact no_box (col _ _ _ hf hk hg) (b1 k hk) e (not_same hv hf hk (fun e => n1 e.symm))
  · rcases low k hk with e | e
    · exact absurd e n2
    · exact no_box' (col _ _ _ hg hk hf) (b2 k hk) e (not_same hv hg hk (fun e => n1 e.symm))
theorem border_both (h : vertsE v = 0) : ∃ L : List Int, L.length ≤ 4096 ∧ mesh_Border v = some (L, 0) ∧ lidarref06_Border v = some (L, 0) := by
  obtain ⟨hn, _, hv⟩ := vertsE_good h
  obtain ⟨l, hl, hr⟩ := ranks_eq hv hn
  have hlen := hr.len
  unfold mesh_Border lidarref06_Border
  rw [vertices_eq, ref_vertices_eq, h, bnd_s, bnd_s, if_pos rfl, if_pos rfl, hl, bnd_s]
  by_cases c0 : l.length = 0
  · have e : l = [] := List.length_eq_zero_iff.1 c0
    rw [if_pos (by omega), if_pos (by omega)]
    exact ⟨l, by omega, rfl, by rw [e]⟩
  · rw [if_neg (show ¬ ((v.length : Nat) : Int) = 0 by omega)]
    by_cases c1 : l.length = 1
    · obtain ⟨x, rfl⟩ := List.length_eq_one_iff.1 c1
      have hx := hr.val.1 (show x ∈ [x] by simp)
      have one : ∀ k, inN v.length k → k = x := fun k hk => by simpa using hr.val.2 hk
      obtain ⟨b, hb, hb2⟩ := flat_eq hv hn
      rw [if_pos (by simp), first_eq hn hx (fun k hk => .inl (one k hk)), bnd_s, hb, bnd_s, if_pos (hb2.2 fun k k1 k2 => by have := k2.2; omega), jn_d, last_eq hn hx hx (fun k hk => .inl (one k hk)), bnd_s]
      dsimp only
      rw [if_pos rfl]
      exact ⟨[x], by simp, rfl, rfl⟩
    · have h2 : 2 ≤ l.length := by omega
      obtain ⟨f, g, X, Y, e1, e2, W, ne1, ne2, hf, low, hg, high⟩ := walk_border hv hr h2
      have hin : ∀ x ∈ l, inN v.length x := fun x hx => hr.val.1 hx
      have hne : l ≠ [] := fun e => c0 (by rw [e]; rfl)
      have len1 := chainL_len (P := plV v) (l := l)
      have len2 := chainL_len (P := plV v) (l := l.reverse)
      have len3 := congrArg List.length e1
      have len4 := congrArg List.length e2
      simp only [List.length_reverse, List.length_append, List.length_cons, List.length_nil] at len1 len2 len3 len4
      have hA : mesh_half v l = some (f :: X) := by
        rw [half_eq hv hn (by omega) hin hne, e1, List.dropLast_concat]
      have hB : mesh_half v l.reverse = some (g :: Y) := by
        rw [half_eq hv hn (by rw [List.length_reverse]; omega) (fun x hx => hin x (List.mem_reverse.1 hx)) (by simpa using hne), e2, List.dropLast_concat]
      have hfg : f ≠ g := fun e => ne1 g (by simp) e.symm
      rw [if_neg (by omega), hA, bnd_s, gd_t (by omega), hB, bnd_s, gd_t (by simp only [List.length_cons]; omega), first_eq hn hf low, bnd_s]
      obtain ⟨b, hb, hb2⟩ := flat_eq hv hn
      rw [hb, bnd_s]
      refine ⟨f :: X ++ g :: Y, by simp only [List.length_append, List.length_cons]; omega, rfl, ?_⟩
      by_cases c : b = true
      · have v0 : inN v.length 0 := ⟨by omega, by omega⟩
        have v1 : inN v.length 1 := ⟨by omega, by omega⟩
        have n01 := not_same hv v0 v1 (by omega)
        have all : ∀ k, inN v.length k → crs (plV v 0) (plV v 1) (plV v k) = 0 := fun k hk => by
          have := hk.1
          by_cases k0 : k = 0
          · rw [k0]; unfold crs; grind
          · by_cases k1 : k = 1
            · rw [k1]; unfold crs; grind
            · exact hb2.1 c k (by omega) hk
        have col : ∀ a b c, inN v.length a → inN v.length b → inN v.length c → crs (plV v a) (plV v b) (plV v c) = 0 := fun a b c ha hb hc => line_col n01 (all a ha) (all b hb) (all c hc)
        obtain ⟨N1, N2⟩ := nx_flat hv hf hg hfg low high col
        have eX : X = [] := by
          cases X with
          | nil => rfl
          | cons x X =>
            have := Nx.unique hv hn W.1 N1
            exact absurd this (ne2 x (by simp))
        subst eX
        have eY : Y = [] := by
          cases Y with
          | nil => rfl
          | cons y Y =>
            have := Nx.unique hv hn W.2.1 N2
            exact absurd this (ne1 y (by simp))
        subst eY
        rw [if_pos c, jn_d, last_eq hn hf hg high, bnd_s]
        dsimp only
        rw [if_neg (fun e => hfg e.symm)]
        rfl
      · have hd : ∃ r, X ++ g :: Y = r := ⟨_, rfl⟩
        have hW : Nx v f ((X ++ g :: Y ++ [f]).headD f) ∧ Links (Nx v) (X ++ g :: Y ++ [f]) := by
          cases X with
          | nil => exact ⟨W.1, W.2⟩
          | cons x X => exact ⟨W.1, W.2⟩
        rw [if_neg c, jn_d, hull_next hv hn hW.1, bnd_s]
        have := wrap_loop hv hn (X ++ g :: Y) [f] (by simp only [List.length_append, List.length_cons, List.length_nil]; omega) ne1 hW.2
        rw [this, bnd_s]
        rfl
theorem border_bad (h : vertsE v ≠ 0) : mesh_Border v = some ([], vertsE v) ∧ lidarref06_Border v = some ([], vertsE v) := by
  unfold mesh_Border lidarref06_Border
  rw [vertices_eq, ref_vertices_eq, bnd_s, bnd_s, if_neg h, if_neg h]
  exact ⟨rfl, rfl⟩
theorem sameInts_refl {L : List Int} (hL : L.length ≤ 1000000) : lidarlaw06_sameInts L L = some true := by
  unfold lidarlaw06_sameInts
  rw [if_pos rfl, jn_d]
  have : lfix (lidarlaw06_sameInts_l4 L L) 0 = some (.inl ()) := by
    refine lfix_steps (fun k => (k : Int)) _ L.length (fun k hk => ?_) ?_
    · unfold lidarlaw06_sameInts_l4
      rw [if_pos (by omega), idx_nat hk, bnd_s, bnd_s, if_pos rfl, w64_succ (by omega)]
    · unfold lidarlaw06_sameInts_l4
      rw [if_neg (by omega)]
  rw [this, bnd_s]
theorem meshBorders_eq (v : List S_api_Vertex) : lidarlaw06_MeshBorders v = some true := by
  unfold lidarlaw06_MeshBorders
  by_cases c : 60 < v.length
  · rw [if_pos (by omega), awake_eq, bnd_s]
  · rw [if_neg (by omega)]
    by_cases h : vertsE v = 0
    · obtain ⟨L, h0, h1, h2⟩ := border_both h
      rw [h1, bnd_s, h2, bnd_s, jn_d, if_pos rfl, sameInts_refl (L := L) (by omega), bnd_s, if_pos rfl, awake_eq, bnd_s]
    · obtain ⟨h1, h2⟩ := border_bad h
      rw [h1, bnd_s, h2, bnd_s, jn_d, if_pos rfl, sameInts_refl (by simp), bnd_s, if_pos rfl, awake_eq, bnd_s]
end Go.Proofs.YtlkgeeppfifeeaaGreat
