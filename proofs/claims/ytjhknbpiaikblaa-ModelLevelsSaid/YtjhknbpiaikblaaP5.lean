/- Plain laws of layer 9: hulls of cells, Repeat. -/
import Derived.Test.YtjhknbpiaikblaaP4
namespace Go.Proofs.Ytjhknbpiaikblaa
open Go Go.RowKit
/-! ### what a cell of Coarse is: the hull of cells -/
def voidC : S_api_Cell := ⟨true, ⟨0, 0⟩⟩
structure Hull (P : S_api_Cell → Prop) (r : S_api_Cell) : Prop where
  v : r.Void = true → r = voidC ∧ ∀ c, P c → c.Void = true
  n : r.Void = false → (∀ c, P c → c.Void = false → r.Z.Lo ≤ c.Z.Lo ∧ c.Z.Hi ≤ r.Z.Hi) ∧ (∃ c, P c ∧ c.Void = false ∧ c.Z.Lo = r.Z.Lo) ∧ ∃ c, P c ∧ c.Void = false ∧ c.Z.Hi = r.Z.Hi
theorem Hull.unique {P : S_api_Cell → Prop} {r r' : S_api_Cell} (h : Hull P r) (h' : Hull P r') : r = r' := by
  cases hr : r.Void with
  | true =>
    obtain ⟨e, hv⟩ := h.v hr
    cases hr' : r'.Void with
    | true => rw [e, (h'.v hr').1]
    | false =>
      obtain ⟨_, ⟨c, hc, hcv, _⟩, _⟩ := h'.n hr'
      rw [hv c hc] at hcv; cases hcv
  | false =>
    obtain ⟨h1, ⟨c, hc, hcv, hcl⟩, ⟨d, hd, hdv, hdh⟩⟩ := h.n hr
    cases hr' : r'.Void with
    | true => rw [(h'.v hr').2 c hc] at hcv; cases hcv
    | false =>
      obtain ⟨h1', ⟨c', hc', hcv', hcl'⟩, ⟨d', hd', hdv', hdh'⟩⟩ := h'.n hr'
      have a1 := h1 c' hc' hcv'
      have a2 := h1' c hc hcv
      have a3 := h1 d' hd' hdv'
      have a4 := h1' d hd hdv
      obtain ⟨rv, ⟨rl, rh⟩⟩ := r
      obtain ⟨sv, ⟨sl, sh⟩⟩ := r'
      dsimp only at *
      subst hr; subst hr'
      have e1 : rl = sl := by omega
      have e2 : rh = sh := by omega
      subst e1; subst e2; rfl
theorem Hull.none : Hull (fun _ => False) voidC := ⟨fun _ => ⟨rfl, fun _ h => h.elim⟩, fun h => by cases h⟩
theorem Hull.congr {P P' : S_api_Cell → Prop} {r : S_api_Cell} (h : Hull P r) (hp : ∀ c, P c ↔ P' c) : Hull P' r := by
  have : P = P' := funext fun c => propext (hp c)
  rw [← this]; exact h
def joinP (a b : S_api_Cell) : S_api_Cell := if a.Void = true then b else if b.Void = true then a else ⟨false, ⟨min a.Z.Lo b.Z.Lo, max a.Z.Hi b.Z.Hi⟩⟩
theorem joined_eq (a b : S_api_Cell) : model_joined a b = some (joinP a b) := by
  unfold model_joined joinP; grind
theorem void_of {c : S_api_Cell} (h : cellP c = true) (hv : c.Void = true) : c = voidC := by
  obtain ⟨v, ⟨l, u⟩⟩ := c
  simp only at hv
  subst hv
  simp [cellP] at h
  obtain ⟨rfl, rfl⟩ := h
  rfl
theorem Hull.join {P : S_api_Cell → Prop} {r c : S_api_Cell} (h : Hull P r) (hc : cellP c = true) : Hull (fun x => P x ∨ x = c) (joinP r c) := by
  unfold joinP
  cases hr : r.Void with
  | true =>
    obtain ⟨e, hv⟩ := h.v hr
    rw [if_pos rfl]
    refine ⟨fun hcv => ⟨void_of hc hcv, fun x hx => ?_⟩, fun hcv => ⟨fun x hx hxv => ?_, ⟨c, .inr rfl, hcv, rfl⟩, ⟨c, .inr rfl, hcv, rfl⟩⟩⟩
    · rcases hx with hx | rfl
      · exact hv x hx
      · exact hcv
    · rcases hx with hx | rfl
      · rw [hv x hx] at hxv; cases hxv
      · exact ⟨Int.le_refl _, Int.le_refl _⟩
  | false =>
    obtain ⟨h1, ⟨p, hp, hpv, hpl⟩, ⟨q, hq, hqv, hqh⟩⟩ := h.n hr
    rw [if_neg (by simp)]
    cases hcv : c.Void with
    | true =>
      rw [if_pos rfl]
      refine ⟨fun h => (by rw [hr] at h; cases h), fun _ => ⟨fun x hx hxv => ?_, ⟨p, .inl hp, hpv, hpl⟩, ⟨q, .inl hq, hqv, hqh⟩⟩⟩
      rcases hx with hx | rfl
      · exact h1 x hx hxv
      · rw [hcv] at hxv; cases hxv
    | false =>
      rw [if_neg (by simp)]
      refine ⟨fun h => (by cases h), fun _ => ⟨fun x hx hxv => ?_, ?_, ?_⟩⟩
      · rcases hx with hx | rfl
        · have := h1 x hx hxv
          simp only; omega
        · simp only; omega
      · rcases Int.le_total r.Z.Lo c.Z.Lo with hle | hle
        · exact ⟨p, .inl hp, hpv, by simp only; omega⟩
        · exact ⟨c, .inr rfl, hcv, by simp only; omega⟩
      · rcases Int.le_total c.Z.Hi r.Z.Hi with hle | hle
        · exact ⟨q, .inl hq, hqv, by simp only; omega⟩
        · exact ⟨c, .inr rfl, hcv, by simp only; omega⟩
/-- A hull of hulls. -/
theorem Hull.union {ι : Type} {S : ι → Prop} {P : ι → S_api_Cell → Prop} {c : ι → S_api_Cell} {r : S_api_Cell} (h : ∀ i, S i → Hull (P i) (c i)) (hr : Hull (fun x => ∃ i, S i ∧ c i = x) r) : Hull (fun x => ∃ i, S i ∧ P i x) r := by
  refine ⟨fun hv => ⟨(hr.v hv).1, ?_⟩, fun hv => ?_⟩
  · rintro x ⟨i, hi, hx⟩
    exact ((h i hi).v ((hr.v hv).2 (c i) ⟨i, hi, rfl⟩)).2 x hx
  · obtain ⟨h1, ⟨_, ⟨i, hi, rfl⟩, hiv, hil⟩, ⟨_, ⟨j, hj, rfl⟩, hjv, hjh⟩⟩ := hr.n hv
    obtain ⟨_, ⟨p, hp, hpv, hpl⟩, _⟩ := (h i hi).n hiv
    obtain ⟨_, _, ⟨q, hq, hqv, hqh⟩⟩ := (h j hj).n hjv
    refine ⟨?_, ⟨p, ⟨i, hi, hp⟩, hpv, by omega⟩, ⟨q, ⟨j, hj, hq⟩, hqv, by omega⟩⟩
    rintro x ⟨l, hl, hx⟩ hxv
    cases hc : (c l).Void with
    | true => rw [((h l hl).v hc).2 x hx] at hxv; cases hxv
    | false =>
      have a1 := h1 (c l) ⟨l, hl, rfl⟩ hc
      have a2 := ((h l hl).n hc).1 x hx hxv
      omega
theorem Hull.cellP {P : S_api_Cell → Prop} {r : S_api_Cell} (h : Hull P r) (hp : ∀ c, P c → cellP c = true) : cellP r = true := by
  cases hr : r.Void with
  | true => rw [(h.v hr).1]; rfl
  | false =>
    obtain ⟨h1, ⟨p, hp1, hpv, hpl⟩, ⟨q, hq, hqv, hqh⟩⟩ := h.n hr
    have a1 := hp p hp1
    have a2 := hp q hq
    have a3 := h1 p hp1 hpv
    simp only [Ytjhknbpiaikblaa.cellP, coordP, hpv, hqv, hr, if_false, Bool.false_eq_true, Bool.and_eq_true, decide_eq_true_eq] at a1 a2 ⊢
    omega
/-- The cells of a block. -/
def Blk (g : S_api_Grid) (nx ny k i : Nat) (c : S_api_Cell) : Prop := ∃ x y, x < nx ∧ y < ny ∧ x / k = i % dim nx k ∧ y / k = i / dim nx k ∧ g.Cells[y * nx + x]? = some c
theorem Blk.cellP {g : S_api_Grid} {nx ny st k i : Nat} (h : Dims g nx ny st) {c : S_api_Cell} (hb : Blk g nx ny k i c) : cellP c = true := by
  obtain ⟨x, y, _, _, _, _, hc⟩ := hb
  exact h.cell c (List.mem_of_getElem? hc)
/-! ### Repeat -/
theorem bit_mask32 {a : Int} (h0 : 0 ≤ a) (h1 : a < 18446744073709551616) : bit_and .u64 a 4294967295 = a % 4294967296 := by
  obtain ⟨n, rfl⟩ : ∃ n : Nat, a = (n : Int) := ⟨a.toNat, by omega⟩
  have e1 : ∀ z : Nat, z < 2 ^ 64 → (BitVec.ofInt 64 (z : Int)).toNat = z := fun z hz => by
    rw [BitVec.ofInt_natCast, BitVec.toNat_ofNat]; exact Nat.mod_eq_of_lt hz
  unfold bit_and
  show IntKind.wrap .u64 ((BitVec.ofInt 64 (n : Int) &&& BitVec.ofInt 64 ((4294967295 : Nat) : Int)).toNat : Int) = _
  rw [BitVec.toNat_and, e1 _ (by omega), e1 _ (by omega), show (4294967295 : Nat) = 2 ^ 32 - 1 from rfl, Nat.and_two_pow_sub_one_eq_mod, wrap_nat .u64 _ (by simp only [top]; omega)]
  omega
theorem shr32 {a : Int} (h0 : 0 ≤ a) : shr_ .u64 a 32 = a / 4294967296 := by
  unfold shr_
  rw [show (min (32 : Int).toNat IntKind.u64.bits) = 32 from rfl, Int.fdiv_eq_ediv_of_nonneg _ (by decide)]
  rfl
theorem wu64_id {x : Int} (h : 0 ≤ x) (h' : x ≤ 18446744073709551615) : wu64 x = x := by
  unfold wu64
  obtain ⟨n, rfl⟩ : ∃ n : Nat, x = (n : Int) := ⟨x.toNat, by omega⟩
  exact wrap_nat .u64 n (by simp only [top]; omega)
theorem mul64_one {m : Int} (h0 : 0 ≤ m) (h1 : m ≤ 4096) : math_bits_Mul64 1 m = some (0, m) := by
  unfold math_bits_Mul64
  have e1 : shr_ .u64 1 32 = 0 := by rw [shr32 (by omega)]; rfl
  have e2 : bit_and .u64 1 4294967295 = 1 := by rw [bit_mask32 (by omega) (by omega)]; rfl
  have e3 : shr_ .u64 m 32 = 0 := by rw [shr32 h0]; omega
  have e4 : bit_and .u64 m 4294967295 = m := by rw [bit_mask32 h0 (by omega)]; omega
  have e5 : shr_ .u64 0 32 = 0 := by rw [shr32 (by omega)]; rfl
  have e6 : bit_and .u64 0 4294967295 = 0 := by rw [bit_mask32 (by omega) (by omega)]; rfl
  have z : wu64 0 = 0 := wu64_id (by omega) (by omega)
  rw [e1, e2, e3, e4]
  simp only [Int.zero_mul, Int.one_mul, Int.mul_zero, z, wu64_id h0 (show m ≤ 18446744073709551615 by omega), e3, Int.add_zero, e6, e5]
theorem repeat_eq (m : Nat) (hm : 1 ≤ m) (hm9 : m ≤ 4096) (c : S_api_Cell) : slices_Repeat___api_Cell_api_Cell_ [c] (m : Int) = some (List.replicate m c) := by
  unfold slices_Repeat___api_Cell_api_Cell_
  rw [if_neg (by omega)]
  unfold math_bits_Mul
  rw [show wu64 ((([c] : List S_api_Cell).length : Nat) : Int) = 1 from rfl, wu64_id (by omega) (by omega), mul64_one (by omega) (by omega)]
  simp only [bnd_s, jn_d]
  rw [if_neg (by omega), w64_nat (by omega)]
  rw [if_neg (by simp; omega), gd_t (by simp; omega)]
  have key : ∀ (s : List S_api_Cell) (k : Nat), s.length = m → 1 ≤ k → k ≤ m → s.take k = List.replicate k c → lfix slices_Repeat___api_Cell_api_Cell__l8 (s, (k : Int)) = some (List.replicate m c) := by
    intro s k
    generalize hd : m - k = d
    induction d using Nat.strongRecOn generalizing s k with
    | ind d ih =>
      intro hs h1 h2 ht
      rw [lfix_eq]
      unfold slices_Repeat___api_Cell_api_Cell__l8
      simp only
      by_cases hk : k < m
      · rw [if_pos (by omega), gd_t (by omega), gd_t (by omega), subl0]
        simp only [Int.toNat_natCast, List.length_take, hs]
        have e : (min (min k m) (m - k) : Nat) = min k (m - k) := by omega
        rw [e, ← Int.natCast_add, w64_nat (by omega)]
        refine ih (m - (k + min k (m - k))) (by omega) _ _ rfl (by rw [cpy_len (by omega)]; exact hs) (by omega) (by omega) ?_
        unfold cpy
        rw [ht]
        simp only [hs, List.take_replicate, List.length_replicate]
        rw [List.append_assoc, List.take_append, List.length_replicate]
        rw [List.take_of_length_le (by simp), List.take_append_of_le_length (by simp; omega)]
        rw [List.take_replicate, List.replicate_append_replicate]
        congr 1; omega
      · rw [if_neg (by omega)]
        have : k = m := by omega
        subst this
        rw [List.take_of_length_le (by omega)] at ht
        rw [ht]
  simp only [List.length_cons, List.length_nil, Nat.zero_add, List.length_replicate, Nat.sub_zero, Int.toNat_natCast]
  rw [show ((min 1 m : Nat) : Int) = ((1 : Nat) : Int) from by congr 1; omega]
  rw [key _ 1 (by rw [cpy_len (by omega)]; simp) (by omega) hm (by
    unfold cpy
    simp only [List.take_zero, List.nil_append, List.length_replicate, Nat.sub_zero]
    rw [List.take_append_of_le_length (by simp; omega), List.take_take, List.take_of_length_le (by simp; omega)]
    rfl)]
  rfl
end Go.Proofs.Ytjhknbpiaikblaa
