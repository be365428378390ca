/- Copies of whole slices into own rows. -/
import Derived.Test.YtlkgeeppfifeeaaGreatNum
import Derived.Laws.IdiomCopy
namespace Go.Proofs.YtlkgeeppfifeeaaGreat
open Go Go.RowKit
variable {P : Program} {n : Nat} {N : Act → World → Prop} {Q : Exit → Act → World → Prop} {fr : List (Nat × Value)} {L : List Ent}

/-! ### comparison of digits -/
def cmpN (x y : Nat) : Int := if x < y then -1 else if x = y then 0 else 1
theorem val_top {b : Nat} (hb : 0 < b) : ∀ (l r : List Nat) (k : Nat) (hk : k < l.length) (hk' : k < r.length), l.length = r.length → (∀ x ∈ l, x < b) → (∀ (j : Nat) (h : j < l.length) (h' : j < r.length), k < j → l[j] = r[j]) → l[k] < r[k] → val b l < val b r
  | [], _, _, hk, _, _, _, _, _ => by simp at hk
  | _ :: _, [], _, _, hk', _, _, _, _ => by simp at hk'
  | x :: l, y :: r, 0, _, _, hlen, _, heq, hlt => by
    have : l = r := List.ext_getElem (by simpa using hlen) (fun j h1 h2 => heq (j + 1) (by simpa using h1) (by simpa using h2) (by omega))
    subst this
    simp only [val]
    simpa using hlt
  | x :: l, y :: r, k + 1, hk, hk', hlen, hl, heq, hlt => by
    have ih := val_top hb l r k (by simpa using hk) (by simpa using hk') (by simpa using hlen) (fun z hz => hl z (List.mem_cons_of_mem _ hz))
      (fun j h1 h2 hj => heq (j + 1) (by simpa using h1) (by simpa using h2) (by omega)) (by simpa using hlt)
    have hx := hl x List.mem_cons_self
    simp only [val]
    have := Nat.mul_le_mul_left b (Nat.succ_le_of_lt ih)
    rw [Nat.succ_eq_add_one, Nat.mul_add] at this
    omega
theorem dig_len_lt {b x y : Nat} (hb : 2 ≤ b) (h : (dig b x).length < (dig b y).length) : x < y := by
  rcases Nat.lt_or_ge x y with h1 | h1
  · exact h1
  · exfalso
    have mono : ∀ (k x y : Nat), y ≤ k → y ≤ x → (dig b y).length ≤ (dig b x).length := by
      intro k
      induction k with
      | zero => intro x y hy _; have : y = 0 := by omega
                subst this; simp [dig_zero]
      | succ k ih =>
        intro x y hy hxy
        by_cases h0 : y = 0
        · subst h0; simp [dig_zero]
        · rw [dig_pos hb h0, dig_pos hb (show x ≠ 0 by omega)]
          have : y / b < y := Nat.div_lt_self (by omega) hb
          have := ih (x / b) (y / b) (by omega) (Nat.div_le_div_right hxy)
          simpa using this
    have := mono y x y (Nat.le_refl _) h1
    omega
theorem cmp_len {b x y : Nat} (hb : 2 ≤ b) {n m : Nat} (h1 : (dig b x).length = n) (h2 : (dig b y).length = m) : (n < m → cmpN x y = -1) ∧ (m < n → cmpN x y = 1) := by
  subst h1; subst h2
  constructor
  · intro h; have := dig_len_lt hb h; simp [cmpN, this]
  · intro h; have := dig_len_lt hb h; simp only [cmpN]; rw [if_neg (by omega), if_neg (by omega)]
theorem cmp_at {b x y : Nat} (hb : 2 ≤ b) {k : Nat} (hlen : (dig b x).length = (dig b y).length) (hk : k < (dig b x).length) (hk' : k < (dig b y).length)
    (heq : ∀ (j : Nat) (h : j < (dig b x).length) (h' : j < (dig b y).length), k < j → (dig b x)[j] = (dig b y)[j]) :
    ((dig b x)[k] < (dig b y)[k] → cmpN x y = -1) ∧ ((dig b y)[k] < (dig b x)[k] → cmpN x y = 1) := by
  constructor
  · intro h
    have := val_top (b := b) (by omega) _ _ k hk hk' hlen (dig_lt hb x) heq h
    rw [val_dig hb, val_dig hb] at this
    simp [cmpN, this]
  · intro h
    have := val_top (b := b) (by omega) _ _ k hk' hk hlen.symm (dig_lt hb y) (fun j h1 h2 hj => (heq j h2 h1 hj).symm) h
    rw [val_dig hb, val_dig hb] at this
    simp only [cmpN]; rw [if_neg (by omega), if_neg (by omega)]
theorem cmp_eq {b x y : Nat} (hb : 2 ≤ b) (hlen : (dig b x).length = (dig b y).length) (heq : ∀ (j : Nat) (h : j < (dig b x).length) (h' : j < (dig b y).length), (dig b x)[j] = (dig b y)[j]) : cmpN x y = 0 := by
  have : dig b x = dig b y := List.ext_getElem hlen heq
  have h2 := congrArg (val b) this
  rw [val_dig hb, val_dig hb] at h2
  simp [cmpN, h2]
/-! ### lists of entries that a contract is given -/
theorem okApp {K K2 L : List Ent} {w w1 : World} (hK : ∀ e ∈ K, Ent.ok w e) (h0 : SubE [.old w] L) (h : SubE K2 L) (hw : Heap L w1) : ∀ e ∈ K ++ K2, Ent.ok w1 e := by
  intro e he
  rcases List.mem_append.1 he with he | he
  · exact Ent.ext (hK e he) (h0.ok w1 hw.ok _ List.mem_cons_self)
  · exact h.ok w1 hw.ok e he
/-! ### digits by division -/
end Go.Proofs.YtlkgeeppfifeeaaGreat
