/- Plain laws: the reference's groups are the groups. -/
import Derived.Test.YtjhknbpiaikblaaM17
import Derived.Test.YtjhknbpiaikblaaT4
namespace Go.Proofs.Ytjhknbpiaikblaa
open Go Go.RowKit
theorem sum_set : ∀ (l : List Nat) (i v : Nat) (h : i < l.length), (l.set i v).sum + l[i] = l.sum + v
  | x :: r, 0, v, _ => by simp; omega
  | x :: r, i + 1, v, h => by
    have := sum_set r i v (by simpa using h)
    simp only [List.set_cons_succ, List.sum_cons, List.getElem_cons_succ]
    omega
def fa (l : List Nat) (i : Nat) : Nat := l.getD i 0
theorem fa_in {l : List Nat} {i : Nat} (h : i < l.length) : fa l i = l[i] := by simp [fa, h]
theorem idx_f {l : List Nat} {i : Nat} (h : i < l.length) : idx (nInts l) (i : Int) = some ((fa l i : Nat) : Int) := by rw [idx_nInts h, fa_in h]
theorem fa_set {l : List Nat} {i j v : Nat} (h : i < l.length) : fa (l.set i v) j = if j = i then v else fa l j := by
  simp only [fa, List.getD_eq_getElem?_getD, List.getElem?_set]
  by_cases hj : i = j
  · subst hj; simp [h]
  · rw [if_neg hj, if_neg (fun e => hj e.symm)]
theorem set_nInts {l : List Nat} {i v : Nat} : setI (nInts l) (i : Int) (v : Int) = nInts (l.set i v) := by rw [setI_nat]; simp [nInts, List.map_set]
/-- Names that lead to the least node of a group. -/
structure Lab (X Y : Nat) (m : Nat → Int) (l : List Nat) : Prop where
  len : l.length = X * Y
  ok : ∀ i, i < X * Y → Reach X Y m i (fa l i) ∧ fa l i ≤ i
section
variable {f : S_api_Raster} {X Y : Nat} {p : List Int}
theorem ref_l18 (hp : p.length = X * Y) (h9 : X * Y ≤ 4096) {i : Nat} (hi : i < X * Y) (xs : List Int) (hxs : ∀ x ∈ xs, 0 ≤ x → x < (X * Y : Nat) → x.toNat ∈ nbr X Y i) (hx9 : xs.length ≤ 4) (s3 : List Int × Bool × Int) (hs3 : s3.2.2 = (i : Int)) (l : List Nat) (hl : Lab X Y (mAt p) l) (ag : Bool) :
    ∃ v, lfix (lidarref09_groups_l18 xs s3 p) (nInts l, ag, 0) = some (nInts (l.set i v), ag || decide (v < fa l i)) ∧ v ≤ fa l i ∧ Lab X Y (mAt p) (l.set i v) ∧ ∀ x ∈ xs, 0 ≤ x → x < (X * Y : Nat) → mAt p x.toNat = mAt p i → v ≤ fa l x.toNat := by
  have hil : i < l.length := by rw [hl.len]; exact hi
  obtain ⟨t, ht, v, rfl, q1, q2, q3⟩ := lfix_ind (B := lidarref09_groups_l18 xs s3 p) (fun s => xs.length - s.2.2.toNat)
    (fun s => ∃ (j v : Nat), s = (nInts (l.set i v), (ag || decide (v < fa l i)), (j : Int)) ∧ j ≤ xs.length ∧ v ≤ fa l i ∧ Reach X Y (mAt p) i v ∧ ∀ x ∈ xs.take j, 0 ≤ x → x < (X * Y : Nat) → mAt p x.toNat = mAt p i → v ≤ fa l x.toNat)
    (fun t => ∃ v, t = (nInts (l.set i v), ag || decide (v < fa l i)) ∧ v ≤ fa l i ∧ Reach X Y (mAt p) i v ∧ ∀ x ∈ xs, 0 ≤ x → x < (X * Y : Nat) → mAt p x.toNat = mAt p i → v ≤ fa l x.toNat) (by
      rintro s ⟨j, v, rfl, hj, c1, c2, c3⟩
      unfold lidarref09_groups_l18
      simp only [jn_d, hs3]
      by_cases hlt : j < xs.length
      · left
        have hsl : (l.set i v).length = X * Y := by rw [List.length_set]; exact hl.len
        have htk : ∀ q, q ∈ xs.take (j + 1) ↔ q ∈ xs.take j ∨ q = xs[j] := fun q => by rw [List.take_succ_eq_append_getElem hlt, List.mem_append, List.mem_singleton]
        have keep : (∀ x, x = xs[j] → 0 ≤ x → x < (X * Y : Nat) → mAt p x.toNat = mAt p i → v ≤ fa l x.toNat) → (∃ s', some (Sum.inl (β := List Int × Bool) (nInts (l.set i v), (ag || decide (v < fa l i)), ((j + 1 : Nat) : Int))) = some (.inl s') ∧ (∃ (j v : Nat), s' = (nInts (l.set i v), (ag || decide (v < fa l i)), (j : Int)) ∧ j ≤ xs.length ∧ v ≤ fa l i ∧ Reach X Y (mAt p) i v ∧ ∀ x ∈ xs.take j, 0 ≤ x → x < (X * Y : Nat) → mAt p x.toNat = mAt p i → v ≤ fa l x.toNat) ∧ xs.length - s'.2.2.toNat < xs.length - j) := fun hk =>
          ⟨_, rfl, ⟨j + 1, v, rfl, by omega, c1, c2, fun x hx h0 h1 hm => by
            rcases (htk x).1 hx with h | h
            · exact c3 x h h0 h1 hm
            · exact hk x h h0 h1 hm⟩, by simp only [Int.toNat_natCast]; omega⟩
        rw [if_pos (by omega), idx_nat hlt, bnd_s, w64_succ (by omega), hp]
        by_cases h0 : 0 ≤ xs[j]
        · rw [if_pos h0]
          by_cases h1 : xs[j] < ((X * Y : Nat) : Int)
          · obtain ⟨k, hk⟩ : ∃ k : Nat, xs[j] = (k : Int) := ⟨xs[j].toNat, by omega⟩
            have hkn : k < X * Y := by omega
            have hnb : k ∈ nbr X Y i := by have := hxs _ (List.getElem_mem hlt) h0 h1; rwa [hk, Int.toNat_natCast] at this
            rw [if_pos h1, hk, idx_m (by omega), bnd_s, idx_m (by omega), bnd_s, idx_f (by omega), bnd_s, idx_f (by omega), bnd_s, bnd_s, bnd_s]
            have hne : k ≠ i := by
              obtain ⟨r, c, hr, hc, rfl⟩ := co_of hi
              rcases (mem_nbr hc).1 hnb with h | h | h | h <;> omega
            have e1 : fa (l.set i v) k = fa l k := by rw [fa_set hil, if_neg hne]
            have e2 : fa (l.set i v) i = v := by rw [fa_set hil, if_pos rfl]
            rw [e1, e2, set_nInts, List.set_set]
            by_cases hm : mAt p k = mAt p i
            · rw [if_pos hm]
              by_cases hlt2 : fa l k < v
              · have hl2 := (hl.ok k hkn)
                refine ⟨(nInts (l.set i (fa l k)), true, ((j + 1 : Nat) : Int)), ?_, ⟨j + 1, fa l k, ?_, by omega, by omega, (Reach.step .refl hnb hm).trans hl2.1, fun x hx a b c => ?_⟩, by simp only [Int.toNat_natCast]; omega⟩
                · rw [if_pos (by rw [decide_eq_true_eq]; omega)]
                · rw [decide_eq_true (show fa l k < fa l i by omega), Bool.or_true]
                · rcases (htk x).1 hx with h | h
                  · have := c3 x h a b c; omega
                  · subst h; rw [hk, Int.toNat_natCast]; omega
              · rw [if_neg (by rw [decide_eq_true_eq]; omega)]
                refine keep (fun x hx a b c => ?_)
                subst hx; rw [hk, Int.toNat_natCast]; omega
            · rw [if_neg hm, if_neg (by simp)]
              refine keep (fun x hx a b c => ?_)
              subst hx; rw [hk, Int.toNat_natCast] at c; exact absurd c hm
          · rw [if_neg h1, if_neg (by simp)]
            exact keep (fun x hx a b c => by subst hx; omega)
        · rw [if_neg h0, if_neg (by simp)]
          exact keep (fun x hx a b c => by subst hx; omega)
      · right
        obtain rfl : j = xs.length := by omega
        rw [if_neg (by omega)]
        exact ⟨_, rfl, v, rfl, c1, c2, by rw [List.take_length] at c3; exact c3⟩)
    (nInts l, ag, ((0 : Nat) : Int)) ⟨0, fa l i, by rw [fa_in hil, List.set_getElem_self]; simp, by omega, Nat.le_refl _, (hl.ok i hi).1, by simp⟩
  refine ⟨v, ht, q1, ⟨by rw [List.length_set]; exact hl.len, fun j hj => ?_⟩, q3⟩
  rw [fa_set hil]
  by_cases hji : j = i
  · subst hji; rw [if_pos rfl]; exact ⟨q2, by have := (hl.ok j hj).2; omega⟩
  · rw [if_neg hji]; exact hl.ok j hj
def nearR (X i : Nat) : List Int := [(i : Int) - X, (i : Int) + X] ++ (if 0 < i % X then [(i : Int) - 1] else []) ++ (if i % X + 1 < X then [(i : Int) + 1] else [])
theorem nearR_len {X i : Nat} : (nearR X i).length ≤ 4 := by unfold nearR; split <;> split <;> simp
theorem nearR_ok {i : Nat} (hi : i < X * Y) : (∀ x ∈ nearR X i, 0 ≤ x → x < (X * Y : Nat) → x.toNat ∈ nbr X Y i) ∧ ∀ k ∈ nbr X Y i, (k : Int) ∈ nearR X i := by
  obtain ⟨r, c, hr, hc, rfl⟩ := co_of hi
  obtain ⟨e1, e2⟩ := co_div (r := r) hc
  unfold nearR
  rw [e2]
  constructor
  · intro x hx h0 h1
    rw [mem_nbr hc]
    simp only [List.mem_append, List.mem_cons, List.not_mem_nil, or_false] at hx
    rcases hx with (hx | hx) | hx
    · rcases hx with rfl | rfl
      · left
        refine ⟨?_, by omega⟩
        rcases Nat.eq_zero_or_pos r with h | h
        · subst h; rw [Nat.mul_zero] at *; omega
        · exact h
      · right; right; right
        refine ⟨?_, by omega⟩
        rcases Nat.lt_or_ge (r + 1) Y with h | h
        · exact h
        · exfalso
          obtain rfl : Y = r + 1 := by omega
          rw [Nat.mul_succ] at h1; omega
    · split at hx
      · simp at hx; subst hx; right; left; exact ⟨by omega, by omega⟩
      · simp at hx
    · split at hx
      · simp at hx; subst hx; right; right; left; exact ⟨by omega, by omega⟩
      · simp at hx
  · intro k hk
    rcases (mem_nbr hc).1 hk with ⟨h0, e⟩ | ⟨h0, e⟩ | ⟨h0, e⟩ | ⟨h0, e⟩
    · simp only [List.mem_append, List.mem_cons]; left; left; left; omega
    · simp only [List.mem_append, List.mem_cons]; left; right; rw [if_pos h0]; simp; omega
    · simp only [List.mem_append, List.mem_cons]; right; rw [if_pos h0]; simp; omega
    · simp only [List.mem_append, List.mem_cons]; left; left; right; left; omega
def ClosedL (X Y : Nat) (m : Nat → Int) (l : List Nat) (n : Nat) : Prop := ∀ i, i < n → ∀ k ∈ nbr X Y i, m k = m i → fa l i ≤ fa l k
theorem ref_l10 (hX : f.NX = (X : Int)) (h1 : 1 ≤ X ∧ X ≤ 64) (hp : p.length = X * Y) (h9 : X * Y ≤ 4096) (l : List Nat) (hl : Lab X Y (mAt p) l) :
    ∃ l2 ag, lfix (lidarref09_groups_l10 p f) (nInts l, false, 0) = some (nInts l2, ag) ∧ Lab X Y (mAt p) l2 ∧ (ag = true → l2.sum < l.sum) ∧ (ag = false → ClosedL X Y (mAt p) l2 (X * Y)) := by
  obtain ⟨t, ht, l2, ag, rfl, q1, q2, q3⟩ := lfix_ind (B := lidarref09_groups_l10 p f) (fun s => X * Y - s.2.2.toNat)
    (fun s => ∃ (i : Nat) (l2 : List Nat) (ag : Bool), s = (nInts l2, ag, (i : Int)) ∧ i ≤ X * Y ∧ Lab X Y (mAt p) l2 ∧ (ag = true → l2.sum < l.sum) ∧ (ag = false → l2 = l ∧ ClosedL X Y (mAt p) l2 i))
    (fun t => ∃ l2 ag, t = (nInts l2, ag) ∧ Lab X Y (mAt p) l2 ∧ (ag = true → l2.sum < l.sum) ∧ (ag = false → ClosedL X Y (mAt p) l2 (X * Y))) (by
      rintro s ⟨i, l2, ag, rfl, hi, c1, c2, c3⟩
      unfold lidarref09_groups_l10
      simp only [jn_d, hp]
      by_cases hlt : i < X * Y
      · left
        have e2 : Int.tmod (i : Int) f.NX = ((i % X : Nat) : Int) := by rw [hX, Int.ofNat_tmod]
        have hil : i < l2.length := by rw [c1.len]; exact hlt
        have hok := nearR_ok (X := X) (Y := Y) hlt
        obtain ⟨v, hL, d1, d2, d3⟩ := ref_l18 hp h9 hlt (nearR X i) hok.1 nearR_len (nInts l2, ag, (i : Int)) rfl l2 c1 ag
        have hnear : ∀ {τ : Type} (k : List Int → Option τ),
          (gd (f.NX ≠ 0) <| if 0 < Int.tmod (i : Int) f.NX then gd ((([w64 ((i : Int) - f.NX), w64 ((i : Int) + f.NX)]).length + 1) * 8 ≤ 140737488355328) (gd (f.NX ≠ 0) <| if Int.tmod (i : Int) f.NX < w64 (f.NX - 1) then gd ((([w64 ((i : Int) - f.NX), w64 ((i : Int) + f.NX)] ++ [w64 ((i : Int) - 1)]).length + 1) * 8 ≤ 140737488355328) (k ([w64 ((i : Int) - f.NX), w64 ((i : Int) + f.NX)] ++ [w64 ((i : Int) - 1)] ++ [((i + 1 : Nat) : Int)])) else k ([w64 ((i : Int) - f.NX), w64 ((i : Int) + f.NX)] ++ [w64 ((i : Int) - 1)]))
            else (gd (f.NX ≠ 0) <| if Int.tmod (i : Int) f.NX < w64 (f.NX - 1) then gd ((([w64 ((i : Int) - f.NX), w64 ((i : Int) + f.NX)]).length + 1) * 8 ≤ 140737488355328) (k ([w64 ((i : Int) - f.NX), w64 ((i : Int) + f.NX)] ++ [((i + 1 : Nat) : Int)])) else k ([w64 ((i : Int) - f.NX), w64 ((i : Int) + f.NX)]))) = k (nearR X i) := fun k => by
          rw [e2, hX, w64_id (x := (i : Int) - (X : Int)) (by omega) (by omega), w64_id (x := (i : Int) + (X : Int)) (by omega) (by omega), w64_id (x := (i : Int) - 1) (by omega) (by omega), show ((i + 1 : Nat) : Int) = (i : Int) + 1 from by omega, w64_id (x := (X : Int) - 1) (by omega) (by omega)]
          simp only [List.length_cons, List.length_nil, List.length_append]
          unfold nearR
          by_cases a : 0 < i % X
          · by_cases b : i % X + 1 < X
            · rw [gd_t (by omega), if_pos (by omega), gd_t (by omega), gd_t (by omega), if_pos (by omega), gd_t (by omega), if_pos a, if_pos b]
            · rw [gd_t (by omega), if_pos (by omega), gd_t (by omega), gd_t (by omega), if_neg (by omega), if_pos a, if_neg b, List.append_nil]
          · by_cases b : i % X + 1 < X
            · rw [gd_t (by omega), if_neg (by omega), gd_t (by omega), if_pos (by omega), gd_t (by omega), if_neg a, if_pos b, List.append_nil]
            · rw [gd_t (by omega), if_neg (by omega), gd_t (by omega), if_neg (by omega), if_neg a, if_neg b, List.append_nil, List.append_nil]
        refine ⟨(nInts (l2.set i v), (ag || decide (v < fa l2 i)), ((i + 1 : Nat) : Int)), ?_, ⟨i + 1, l2.set i v, _, rfl, by omega, d2, fun h => ?_, fun h => ?_⟩, by simp only [Int.toNat_natCast]; omega⟩
        · rw [if_pos (by omega), w64_succ (by omega)]
          have := hnear (fun z => bnd (lfix (lidarref09_groups_l18 z (nInts l2, ag, (i : Int)) p) (nInts l2, ag, 0)) fun t868 => some (Sum.inl (β := List Int × Bool) (t868.1, t868.2, ((i + 1 : Nat) : Int))))
          rw [hL, bnd_s] at this
          exact this
        · have hs := sum_set l2 i v hil
          rw [← fa_in hil] at hs
          rcases Bool.or_eq_true_iff.1 h with h | h
          · have := c2 h; omega
          · rw [decide_eq_true_eq] at h
            cases hag : ag
            · rw [(c3 hag).1] at hs h ⊢; omega
            · have := c2 hag; omega
        · rw [Bool.or_eq_false_iff, decide_eq_false_iff_not] at h
          obtain ⟨hll, hcl⟩ := c3 h.1
          have hv : v = fa l2 i := by omega
          have hset : l2.set i v = l2 := by rw [hv, fa_in hil, List.set_getElem_self]
          rw [hset]
          refine ⟨hll, fun j hj k hk hm => ?_⟩
          rcases Nat.lt_or_ge j i with hji | hji
          · exact hcl j hji k hk hm
          · obtain rfl : j = i := by omega
            have := d3 (k : Int) (hok.2 k hk) (by omega) (by have := nbr_lt hlt hk; omega) (by rw [Int.toNat_natCast]; exact hm)
            rw [Int.toNat_natCast] at this
            omega
      · right
        obtain rfl : i = X * Y := by omega
        rw [if_neg (by omega)]
        exact ⟨_, rfl, l2, ag, rfl, c1, c2, fun h => (c3 h).2⟩)
    (nInts l, false, ((0 : Nat) : Int)) ⟨0, l, false, rfl, by omega, hl, by simp, fun _ => ⟨rfl, fun i h => by omega⟩⟩
  exact ⟨l2, ag, ht, q1, q2, q3⟩
theorem ref_l7 (hX : f.NX = (X : Int)) (h1 : 1 ≤ X ∧ X ≤ 64) (hp : p.length = X * Y) (h9 : X * Y ≤ 4096) (l : List Nat) (hl : Lab X Y (mAt p) l) :
    ∃ l2, lfix (lidarref09_groups_l7 p f) (nInts l, true) = some (nInts l2) ∧ Lab X Y (mAt p) l2 ∧ ClosedL X Y (mAt p) l2 (X * Y) := by
  obtain ⟨t, ht, l2, rfl, q1, q2⟩ := lfix_ind (B := lidarref09_groups_l7 p f) (fun s => if s.2 = true then (s.1.map Int.toNat).sum + 1 else 0)
    (fun s => ∃ (l2 : List Nat) (ag : Bool), s = (nInts l2, ag) ∧ Lab X Y (mAt p) l2 ∧ (ag = false → ClosedL X Y (mAt p) l2 (X * Y)))
    (fun t => ∃ l2, t = nInts l2 ∧ Lab X Y (mAt p) l2 ∧ ClosedL X Y (mAt p) l2 (X * Y)) (by
      rintro s ⟨l2, ag, rfl, c1, c2⟩
      have hmp : ∀ q : List Nat, (nInts q).map Int.toNat = q := fun q => by simp [nInts, Function.comp_def]
      unfold lidarref09_groups_l7
      cases ag
      · right
        exact ⟨_, by rw [if_neg (by simp)], l2, rfl, c1, c2 rfl⟩
      · left
        obtain ⟨l3, ag3, hL, d1, d2, d3⟩ := ref_l10 hX h1 hp h9 l2 c1
        refine ⟨(nInts l3, ag3), by rw [if_pos rfl, hL, bnd_s], ⟨l3, ag3, rfl, d1, d3⟩, ?_⟩
        simp only [hmp]
        cases ag3
        · simp
        · have := d2 rfl; simp; omega)
    (nInts l, true) ⟨l, true, rfl, hl, by simp⟩
  exact ⟨l2, ht, q1, q2⟩
theorem closed_eq {m : Nat → Int} {l : List Nat} (hc : ClosedL X Y m l (X * Y)) {i j : Nat} (hi : i < X * Y) (h : Reach X Y m i j) : fa l j = fa l i := by
  induction h with
  | refl => rfl
  | step h0 hk hm ih =>
    have hj := h0.lt hi
    have a := hc _ hj _ hk hm
    have b := hc _ (nbr_lt hj hk) _ (nbr_symm hj hk) hm.symm
    omega
theorem lab_first {m : Nat → Int} {l : List Nat} (hl : Lab X Y m l) (hc : ClosedL X Y m l (X * Y)) {i : Nat} (hi : i < X * Y) (hm : m i ≠ 0) : fa l i = i ↔ isFirst X Y m i = true := by
  rw [isFirst_iff]
  constructor
  · intro he
    refine ⟨hm, fun j hj hr => ?_⟩
    have h1 := closed_eq hc hi hr
    have h2 := (hl.ok j (by omega)).2
    omega
  · rintro ⟨_, h⟩
    have h1 := hl.ok i hi
    rcases Nat.lt_or_ge (fa l i) i with h2 | h2
    · exact absurd h1.1 (h _ h2)
    · omega
theorem lab_group {m : Nat → Int} {l : List Nat} (hl : Lab X Y m l) (hc : ClosedL X Y m l (X * Y)) {i : Nat} (hi : i < X * Y) (he : fa l i = i) : (List.range (X * Y)).filter (fun q => decide (i ≤ q) && decide (fa l q = i)) = compOf X Y m i := by
  unfold compOf
  apply List.filter_congr
  intro q hq
  have hq := List.mem_range.1 hq
  rw [Bool.eq_iff_iff]
  simp only [Bool.and_eq_true, decide_eq_true_eq]
  constructor
  · rintro ⟨_, h⟩
    have := (hl.ok q hq).1
    rw [h] at this
    exact this.symm hq
  · intro hr
    have h1 := closed_eq hc hi hr
    have h2 := (hl.ok q hq).2
    exact ⟨by omega, by omega⟩
theorem ref_l31 (hp : p.length = X * Y) (h9 : X * Y ≤ 4096) (l : List Nat) (hl : l.length = X * Y) {i : Nat} (hi : i < X * Y) (s2 : List (List Int) × Int) (hs2 : s2.2 = (i : Int)) :
    lfix (lidarref09_groups_l31 p (nInts l) s2) ([], (i : Int)) = some (nInts ((List.range (X * Y)).filter (fun q => decide (i ≤ q) && decide (fa l q = i)))) := by
  obtain ⟨t, ht, hR⟩ := lfix_ind (B := lidarref09_groups_l31 p (nInts l) s2) (fun s => X * Y - s.2.toNat)
    (fun s => ∃ k : Nat, i ≤ k ∧ k ≤ X * Y ∧ s = (nInts ((List.range k).filter (fun q => decide (i ≤ q) && decide (fa l q = i))), (k : Int)))
    (fun t => t = nInts ((List.range (X * Y)).filter (fun q => decide (i ≤ q) && decide (fa l q = i)))) (by
      rintro s ⟨k, hik, hk, rfl⟩
      unfold lidarref09_groups_l31
      simp only [jn_d, hp, hs2]
      by_cases hlt : k < X * Y
      · left
        refine ⟨_, ?_, ⟨k + 1, by omega, by omega, rfl⟩, by simp only [Int.toNat_natCast]; omega⟩
        have hfl := List.length_filter_le (fun q => decide (i ≤ q) && decide (fa l q = i)) (List.range k)
        rw [List.length_range] at hfl
        rw [if_pos (by omega), idx_f (by omega), bnd_s, w64_succ (by omega), List.range_succ, List.filter_append, nInts_len, gd_t (by omega)]
        by_cases he : fa l k = i
        · rw [if_pos (by omega)]
          simp [hik, he, nInts]
        · rw [if_neg (by omega)]
          simp [hik, he, nInts]
      · right
        obtain rfl : k = X * Y := by omega
        rw [if_neg (by omega)]
        exact ⟨_, rfl, rfl⟩)
    ([], (i : Int)) ⟨i, Nat.le_refl _, by omega, by
      have : (List.range i).filter (fun q => decide (i ≤ q) && decide (fa l q = i)) = [] := by
        rw [List.filter_eq_nil_iff]
        intro q hq
        have := List.mem_range.1 hq
        simp; omega
      rw [this]; rfl⟩
  rw [hR] at ht; exact ht
theorem ref_groups_eq (hX : f.NX = (X : Int)) (h1 : 1 ≤ X ∧ X ≤ 64) (hp : p.length = X * Y) (h9 : X * Y ≤ 4096) : lidarref09_groups f p = some (comps X Y (mAt p)) := by
  have e3 : lfix (lidarref09_groups_l3 p) (List.replicate (X * Y) 0, 0) = some (nInts (List.range (X * Y))) := by
    obtain ⟨t, ht, hR⟩ := lfix_ind (B := lidarref09_groups_l3 p) (fun s => X * Y - s.2.toNat)
      (fun s => ∃ j : Nat, j ≤ X * Y ∧ s = (nInts (List.range j) ++ List.replicate (X * Y - j) 0, (j : Int)))
      (fun t => t = nInts (List.range (X * Y))) (by
        rintro s ⟨j, hj, rfl⟩
        unfold lidarref09_groups_l3
        simp only [hp]
        by_cases hlt : j < X * Y
        · left
          refine ⟨_, ?_, ⟨j + 1, by omega, rfl⟩, by simp only [Int.toNat_natCast]; omega⟩
          rw [if_pos (by omega), idx_nat (by simp [nInts_len]; omega), bnd_s, w64_succ (by omega), setI_nat]
          have e : List.replicate (X * Y - j) (0 : Int) = 0 :: List.replicate (X * Y - (j + 1)) 0 := by
            rw [show X * Y - j = (X * Y - (j + 1)) + 1 by omega, List.replicate_succ]
          rw [e, List.range_succ, nInts_app, List.set_append_right _ _ (by rw [nInts_len, List.length_range]; exact Nat.le_refl _), nInts_len, List.length_range]
          simp [nInts]
        · right
          obtain rfl : j = X * Y := by omega
          rw [if_neg (by omega)]
          exact ⟨_, rfl, by simp⟩)
      (List.replicate (X * Y) 0, 0) ⟨0, by omega, by simp [nInts]⟩
    rw [hR] at ht; exact ht
  have hl0 : Lab X Y (mAt p) (List.range (X * Y)) := ⟨by simp, fun i hi => by
    have : fa (List.range (X * Y)) i = i := by simp [fa, hi]
    rw [this]; exact ⟨.refl, Nat.le_refl _⟩⟩
  obtain ⟨l2, h7, hl2, hc2⟩ := ref_l7 hX h1 hp h9 _ hl0
  have e26 : lfix (lidarref09_groups_l26 p (nInts l2)) ([], 0) = some (comps X Y (mAt p)) := by
    obtain ⟨t, ht, hR⟩ := lfix_ind (B := lidarref09_groups_l26 p (nInts l2)) (fun s => X * Y - s.2.toNat)
      (fun s => ∃ i : Nat, i ≤ X * Y ∧ s = (compsTo X Y (mAt p) i, (i : Int)))
      (fun t => t = comps X Y (mAt p)) (by
        rintro s ⟨i, hi, rfl⟩
        unfold lidarref09_groups_l26
        simp only [jn_d, hp]
        by_cases hlt : i < X * Y
        · left
          refine ⟨_, ?_, ⟨i + 1, by omega, rfl⟩, by simp only [Int.toNat_natCast]; omega⟩
          have hcl := compsTo_len (X := X) (Y := Y) (m := mAt p) (n := i)
          rw [if_pos (by omega), idx_m (by omega), bnd_s, idx_f (by rw [hl2.len]; exact hlt), bnd_s, w64_succ (by omega), ref_l31 hp h9 l2 hl2.len hlt _ rfl, bnd_s, gd_t (by omega), compsTo_succ]
          by_cases hm : mAt p i = 0
          · rw [if_pos hm, if_pos trivial, if_neg (fun h => (isFirst_iff.1 h).1 hm), List.append_nil]
          · have hf := lab_first hl2 hc2 hlt hm
            rw [if_neg hm]
            by_cases he : fa l2 i = i
            · rw [if_neg (by simp [he]), if_pos (hf.1 he), lab_group hl2 hc2 hlt he]
            · rw [if_pos (by simp; omega), if_neg (fun h => he (hf.2 h)), List.append_nil]
        · right
          obtain rfl : i = X * Y := by omega
          rw [if_neg (by omega)]
          exact ⟨_, rfl, rfl⟩)
      ([], 0) ⟨0, by omega, rfl⟩
    rw [hR] at ht; exact ht
  unfold lidarref09_groups
  simp only [jn_d, hp, Int.toNat_natCast]
  rw [gd_t ⟨by omega, by omega⟩, e3, bnd_s, h7, bnd_s, e26, bnd_s]
end
end Go.Proofs.Ytjhknbpiaikblaa
