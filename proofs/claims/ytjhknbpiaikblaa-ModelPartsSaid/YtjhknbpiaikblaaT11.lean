/- The statement ModelParts in plain Lean. -/
import Derived.Test.YtjhknbpiaikblaaT10
import Derived.Test.YtjhknbpiaikblaaM16
namespace Go.Proofs.Ytjhknbpiaikblaa
open Go Go.RowKit
theorem good_eq (g : S_api_Grid) : lidarlaw09_good g = some (decide (g.Cells.length ≤ 100) && validP g) := by
  unfold lidarlaw09_good
  simp only [jn_d]
  by_cases h : g.Cells.length ≤ 100
  · rw [if_pos (by omega), refValid_eq, bnd_s]; simp [h]
  · rw [if_neg (by omega)]; simp [h]
/-- The cells of a, changed by those of b. -/
def mixC (a b : List S_api_Cell) : List S_api_Cell := (List.range a.length).map fun i => if 0 < b.length then b.getD (i % b.length) default else a.getD i default
theorem alike_eq (a b : S_api_Grid) (ha : a.Cells.length ≤ 100) (hb : b.Cells.length ≤ 100) : lidarlaw09_alike a b = some (a, ⟨a.Raster, mixC a.Cells b.Cells⟩) := by
  unfold lidarlaw09_alike
  simp only [jn_d]
  rw [lfix_build a.Cells.length (fun i => if 0 < b.Cells.length then b.Cells.getD (i % b.Cells.length) default else a.Cells.getD i default)]
  · rw [bnd_s]; rfl
  · intro j hj acc hacc
    unfold lidarlaw09_alike_l3
    simp only [jn_d]
    have hi := idx_D (l := a.Cells) (i := (j : Int)) (by omega) (by omega)
    rw [if_pos (by omega), hi, bnd_s]
    by_cases h0 : 0 < b.Cells.length
    · have hm : j % b.Cells.length < b.Cells.length := Nat.mod_lt _ h0
      have e : Int.tmod (j : Int) ((b.Cells.length : Nat) : Int) = ((j % b.Cells.length : Nat) : Int) := by rw [Int.tmod_eq_emod_of_nonneg (by omega)]; omega
      have hi2 := idx_D (l := b.Cells) (i := ((j % b.Cells.length : Nat) : Int)) (by omega) (by omega)
      rw [if_pos (by omega), gd_t (by omega), e, hi2, bnd_s, gd_t (by omega), w64_succ (by omega), if_pos h0]
      simp only [Int.toNat_natCast]
    · rw [if_neg (by omega), gd_t (by omega), w64_succ (by omega), if_neg h0]
      simp only [Int.toNat_natCast]
  · intro acc hacc
    unfold lidarlaw09_alike_l3
    simp only []
    rw [if_neg (by omega)]
theorem mix_len {a b : List S_api_Cell} : (mixC a b).length = a.length := by simp [mixC]
theorem getD_mem {l : List S_api_Cell} {i : Nat} (h : i < l.length) : l.getD i default ∈ l := by
  have : l.getD i default = l[i] := by simp [h]
  rw [this]; exact List.getElem_mem h
theorem mix_valid {a b : S_api_Grid} (ha : validP a = true) (hb : validP b = true) : validP ⟨a.Raster, mixC a.Cells b.Cells⟩ = true := by
  have ha' := ha
  simp only [validP, Bool.and_eq_true, List.all_eq_true, decide_eq_true_eq] at ha hb ⊢
  refine ⟨⟨ha.1.1, by rw [mix_len]; exact ha.1.2⟩, fun c hc => ?_⟩
  simp only [mixC, List.mem_map, List.mem_range] at hc
  obtain ⟨i, hi, rfl⟩ := hc
  split
  · rename_i h0
    exact hb.2 _ (getD_mem (Nat.mod_lt _ h0))
  · exact ha.2 _ (getD_mem hi)
theorem ras_refl (f : S_api_Raster) : rasSame f f = true := by simp [rasSame]

theorem sameInts_refl (l : List Int) (h9 : l.length ≤ 1000000) : lidarlaw09_sameInts l l = some true := by
  unfold lidarlaw09_sameInts
  rw [if_pos rfl]
  simp only [jn_d]
  have e : lfix (lidarlaw09_sameInts_l4 l l) 0 = some (.inl ()) := by
    refine lfix_same (β := Unit) l.length h9 _ (fun j hj => ?_) ?_
    · unfold lidarlaw09_sameInts_l4
      rw [if_pos (by omega), idx_nat hj, bnd_s, bnd_s, if_pos rfl, w64_succ (by omega)]
    · unfold lidarlaw09_sameInts_l4
      rw [if_neg (by omega)]
  rw [e, bnd_s]
theorem state_vals (a b : S_api_Cell) : stateP a b = 2 ∨ stateP a b = 1 ∨ stateP a b = -1 ∨ stateP a b = 0 := by
  unfold stateP; grind
theorem map_idx {α : Type} {l : List Nat} {f : Nat → α} {j : Nat} (h : j < l.length) : idx (l.map f) (j : Int) = some (f l[j]) := by
  rw [idx_nat (by rw [List.length_map]; exact h)]; simp
theorem idx_st {l : List Int} {j : Nat} (h : j < l.length) : idx l (j : Int) = some (mAt l j) := idx_m h
theorem m_set {l : List Int} {i j : Nat} {v : Int} (h : i < l.length) : mAt (setI l (i : Int) v) j = if j = i then v else mAt l j := by
  rw [setI_nat]
  simp only [mAt, List.getD_eq_getElem?_getD, List.getElem?_set]
  by_cases hj : i = j
  · subst hj; simp [h]
  · rw [if_neg hj, if_neg (fun e => hj e.symm)]
section
variable {a b : S_api_Grid} {X Y : Nat}
theorem mark_state {l r : List S_api_Cell} (h : l.length = r.length) {j : Nat} (hj : j < l.length) : mAt (rmarks l r) j = known2 (mAt (statesP l r) j) ∧ (mAt (statesP l r) j = 2 ∨ mAt (statesP l r) j = 1 ∨ mAt (statesP l r) j = -1 ∨ mAt (statesP l r) j = 0) := by
  have h1 : j < (statesP l r).length := by rw [states_len h]; exact hj
  have e1 : mAt (statesP l r) j = (statesP l r)[j] := by simp [mAt, h1]
  have e2 : mAt (rmarks l r) j = known2 (statesP l r)[j] := by simp [mAt, rmarks, h1]
  rw [e1, e2]
  refine ⟨rfl, ?_⟩
  have : (statesP l r)[j] = stateP l[j] (r[j]'(by omega)) := by simp [statesP]
  rw [this]; exact state_vals _ _
/-- Who owns a node. -/
def Owns (X Y : Nat) (m : Nat → Int) (o : List Int) (n : Nat) : Prop := ∀ j, j < X * Y → (∃ k, k < n ∧ j ∈ groupAt X Y m k ∧ mAt o j = ((k + 1 : Nat) : Int)) ∨ ((∀ k, k < n → j ∉ groupAt X Y m k) ∧ mAt o j = 0)
theorem keep_all {m : Nat → Int} {j : Nat} (hj : j ≤ (firsts X Y m).length) : keptTo X Y m 1 j = List.range j := by
  unfold keptTo
  rw [List.filter_eq_self]
  intro k hk
  have hk := List.mem_range.1 hk
  obtain ⟨r, hr⟩ := group_head (show k < (firsts X Y m).length by omega)
  unfold keepG
  rw [hr]; simp; omega
theorem parts_l13 {m : Nat → Int} {st : List Int} (hst : st.length = X * Y) (h9 : X * Y ≤ 4096) (hs : ∀ j, j < X * Y → m j ≠ 0 → mAt st j = m j) {k : Nat} (hk : k < (firsts X Y m).length) (s4 : List Int × Int) (hs4 : s4.2 = (k : Int)) (e1 e2 : Int) (o : List Int) (ho : o.length = X * Y) (hfree : ∀ j ∈ groupAt X Y m k, mAt o j = 0) :
    ∃ o2, lfix (lidarlaw09_ModelParts_l13 ((List.range (firsts X Y m).length).map (regAt a b X Y m), e1) s4 (st, e2)) (o, 0) = some (.inl o2) ∧ o2.length = X * Y ∧ ∀ j, mAt o2 j = if j ∈ groupAt X Y m k then ((k + 1 : Nat) : Int) else mAt o j := by
  have hgl := group_len (X := X) (Y := Y) (m := m) (k := k)
  have hsrt : (groupAt X Y m k).Pairwise (· < ·) := compOf_sorted
  have hridx : idx ((List.range (firsts X Y m).length).map (regAt a b X Y m)) (k : Int) = some (regAt a b X Y m k) := by
    rw [map_idx (by rw [List.length_range]; exact hk)]; simp
  have hkl := firsts_len (X := X) (Y := Y) (m := m)
  obtain ⟨t, ht, o2, rfl, q1, q2⟩ := lfix_ind (B := lidarlaw09_ModelParts_l13 ((List.range (firsts X Y m).length).map (regAt a b X Y m), e1) s4 (st, e2)) (fun s => (groupAt X Y m k).length - s.2.toNat)
    (fun s => ∃ (j : Nat) (o2 : List Int), s = (o2, (j : Int)) ∧ j ≤ (groupAt X Y m k).length ∧ o2.length = X * Y ∧ ∀ q, mAt o2 q = if q ∈ (groupAt X Y m k).take j then ((k + 1 : Nat) : Int) else mAt o q)
    (fun t => ∃ o2, t = .inl o2 ∧ o2.length = X * Y ∧ ∀ j, mAt o2 j = if j ∈ groupAt X Y m k then ((k + 1 : Nat) : Int) else mAt o j) (by
      rintro s ⟨j, o2, rfl, hj, c1, c2⟩
      unfold lidarlaw09_ModelParts_l13
      simp only [jn_d, hs4]
      rw [hridx]
      simp only [bnd_s, regAt, nInts_len]
      by_cases hlt : j < (groupAt X Y m k).length
      · left
        have hmem := List.getElem_mem hlt
        have hlx := group_lt hk hmem
        have htk : ∀ q, q ∈ (groupAt X Y m k).take (j + 1) ↔ q ∈ (groupAt X Y m k).take j ∨ q = (groupAt X Y m k)[j] := fun q => by rw [List.take_succ_eq_append_getElem hlt, List.mem_append, List.mem_singleton]
        have hnot : (groupAt X Y m k)[j] ∉ (groupAt X Y m k).take j := fun hq => by
          obtain ⟨i, hi, he⟩ := List.getElem_of_mem hq
          rw [List.length_take] at hi
          rw [List.getElem_take] at he
          have := List.pairwise_iff_getElem.1 hsrt i j (by omega) hlt (by omega)
          omega
        have h0 : mAt o2 (groupAt X Y m k)[j] = 0 := by rw [c2, if_neg hnot]; exact hfree _ hmem
        have hsm : mAt st (groupAt X Y m k)[j] = m ((firsts X Y m).getD k 0) := by
          rw [hs _ hlx (group_mark hk hmem), ((mem_group hk).1 hmem).mark]
        refine ⟨_, ?_, ⟨j + 1, setI o2 (((groupAt X Y m k)[j] : Nat) : Int) ((k + 1 : Nat) : Int), rfl, by omega, by rw [setI_len]; exact c1, fun q => ?_⟩, by simp only [Int.toNat_natCast]; omega⟩
        · rw [if_pos (by omega), idx_nInts hlt]
          simp only [bnd_s]
          rw [if_neg (by omega), if_neg (by omega), idx_m (by omega), bnd_s, bnd_s, h0, if_pos rfl, idx_m (by omega), bnd_s, hsm, if_pos rfl, w64_succ (by omega), w64_succ (by omega)]
          by_cases hj0 : 0 < j
          · have hpr := List.pairwise_iff_getElem.1 hsrt (j - 1) j (by omega) hlt (by omega)
            rw [if_pos (by omega), w64_id (x := (j : Int) - 1) (by omega) (by omega), show ((j : Int) - 1) = ((j - 1 : Nat) : Int) from by omega, idx_nInts (by omega), bnd_s, if_neg (by rw [decide_eq_true_eq]; omega)]
          · rw [if_neg (by omega), if_neg (by simp)]
        · rw [m_set (by omega), c2 q]
          by_cases hq : q = (groupAt X Y m k)[j]
          · rw [if_pos hq, if_pos ((htk q).2 (.inr hq))]
          · rw [if_neg hq]
            by_cases hq2 : q ∈ (groupAt X Y m k).take j
            · rw [if_pos hq2, if_pos ((htk q).2 (.inl hq2))]
            · rw [if_neg hq2, if_neg (fun h => by rcases (htk q).1 h with h | h; exact hq2 h; exact hq h)]
      · right
        obtain rfl : j = (groupAt X Y m k).length := by omega
        rw [if_neg (by omega)]
        exact ⟨_, rfl, o2, rfl, c1, by rw [List.take_length] at c2; exact c2⟩)
    (o, 0) ⟨0, o, rfl, by omega, ho, by simp⟩
  exact ⟨o2, ht, q1, q2⟩
theorem parts_l10 {m : Nat → Int} {st : List Int} (hst : st.length = X * Y) (h9 : X * Y ≤ 4096) (hs : ∀ j, j < X * Y → m j ≠ 0 → mAt st j = m j) (e1 e2 : Int) :
    ∃ o, lfix (lidarlaw09_ModelParts_l10 ((List.range (firsts X Y m).length).map (regAt a b X Y m), e1) (st, e2)) (List.replicate (X * Y) 0, 0) = some (.inl o) ∧ o.length = X * Y ∧ Owns X Y m o (firsts X Y m).length := by
  have hfl := firsts_len (X := X) (Y := Y) (m := m)
  obtain ⟨t, ht, o, rfl, q1, q2⟩ := lfix_ind (B := lidarlaw09_ModelParts_l10 ((List.range (firsts X Y m).length).map (regAt a b X Y m), e1) (st, e2)) (fun s => (firsts X Y m).length - s.2.toNat)
    (fun s => ∃ (i : Nat) (o : List Int), s = (o, (i : Int)) ∧ i ≤ (firsts X Y m).length ∧ o.length = X * Y ∧ Owns X Y m o i)
    (fun t => ∃ o, t = .inl o ∧ o.length = X * Y ∧ Owns X Y m o (firsts X Y m).length) (by
      rintro s ⟨i, o, rfl, hi, c1, c2⟩
      unfold lidarlaw09_ModelParts_l10
      simp only [jn_d, List.length_map, List.length_range]
      by_cases hlt : i < (firsts X Y m).length
      · left
        have hfree : ∀ j ∈ groupAt X Y m i, mAt o j = 0 := fun j hj => by
          rcases c2 j (group_lt hlt hj) with ⟨k, ha, hb, _⟩ | ⟨_, h⟩
          · exact absurd hj (group_disj ha hlt hb)
          · exact h
        obtain ⟨o2, hL, d1, d2⟩ := parts_l13 (a := a) (b := b) hst h9 hs hlt (o, (i : Int)) rfl e1 e2 o c1 hfree
        refine ⟨(o2, ((i + 1 : Nat) : Int)), ?_, ⟨i + 1, o2, rfl, by omega, d1, fun j hj => ?_⟩, by simp only [Int.toNat_natCast]; omega⟩
        · rw [if_pos (by omega), hL, bnd_s]
          simp only []
          rw [w64_succ (by omega)]
        · rw [d2 j]
          by_cases hg : j ∈ groupAt X Y m i
          · rw [if_pos hg]; exact .inl ⟨i, by omega, hg, rfl⟩
          · rw [if_neg hg]
            rcases c2 j hj with ⟨k, ha, hb, hc⟩ | ⟨ha, hb⟩
            · exact .inl ⟨k, by omega, hb, hc⟩
            · exact .inr ⟨fun k hk => by
                rcases Nat.lt_or_ge k i with h | h
                · exact ha k h
                · obtain rfl : k = i := by omega
                  exact hg, hb⟩
      · right
        obtain rfl : i = (firsts X Y m).length := by omega
        rw [if_neg (by omega)]
        exact ⟨_, rfl, o, rfl, c1, c2⟩)
    (List.replicate (X * Y) 0, 0) ⟨0, _, rfl, by omega, by simp, fun j hj => .inr ⟨fun k hk => by omega, by simp [mAt, hj]⟩⟩
  exact ⟨o, ht, q1, q2⟩
/-- Neighbours with one mark have one owner. -/
theorem owner_eq {m : Nat → Int} {o : List Int} (ho : Owns X Y m o (firsts X Y m).length) {i j : Nat} (hi : i < X * Y) (hm : m i ≠ 0) (hr : Reach X Y m i j) : mAt o i = mAt o j := by
  obtain ⟨k, hk, hik⟩ := (mem_some hi).1 hm
  have hjk : j ∈ groupAt X Y m k := (mem_group hk).2 (((mem_group hk).1 hik).trans hr)
  have one : ∀ q, q ∈ groupAt X Y m k → q < X * Y → mAt o q = ((k + 1 : Nat) : Int) := fun q hq hlt => by
    rcases ho q hlt with ⟨k', ha, hb, hc⟩ | ⟨ha, _⟩
    · rcases Nat.lt_trichotomy k k' with h | h | h
      · exact absurd hb (group_disj h ha hq)
      · rw [hc, h]
      · exact absurd hq (group_disj h hk hb)
    · exact absurd hq (ha k hk)
  rw [one i hik hi, one j hjk (hr.lt hi)]
theorem owner_pos {m : Nat → Int} {o : List Int} (ho : Owns X Y m o (firsts X Y m).length) {i : Nat} (hi : i < X * Y) : 0 < mAt o i ↔ m i ≠ 0 := by
  rw [mem_some hi]
  rcases ho i hi with ⟨k, ha, hb, hc⟩ | ⟨ha, hb⟩
  · exact ⟨fun _ => ⟨k, ha, hb⟩, fun _ => by rw [hc]; omega⟩
  · exact ⟨fun h => by rw [hb] at h; omega, fun ⟨k, h1, h2⟩ => absurd h2 (ha k h1)⟩
theorem parts_l20 {m : Nat → Int} {st o : List Int} {g2 : S_api_Grid} (hX : a.Raster.NX = (X : Int)) (h1 : 1 ≤ X ∧ X ≤ 64) (hst : st.length = X * Y) (h9 : X * Y ≤ 4096) (hms : ∀ j, j < X * Y → m j = known2 (mAt st j) ∧ (mAt st j = 2 ∨ mAt st j = 1 ∨ mAt st j = -1 ∨ mAt st j = 0)) (e2 : Int) (hol : o.length = X * Y) (ho : Owns X Y m o (firsts X Y m).length) :
    lfix (lidarlaw09_ModelParts_l20 (st, e2) o (a, g2)) 0 = some (.inl ()) := by
  refine lfix_same (β := Unit) (X * Y) (by omega) _ (fun i hi => ?_) ?_
  · have hmi := hms i hi
    have hch : m i ≠ 0 ↔ (mAt st i = 1 ∨ mAt st i = -1) := by
      rw [hmi.1]; unfold known2
      rcases hmi.2 with h | h | h | h <;> simp [h]
    have hop := owner_pos ho hi
    have hmod : Int.tmod (i : Int) (X : Int) = ((i % X : Nat) : Int) := by rw [Int.ofNat_tmod]
    unfold lidarlaw09_ModelParts_l20
    simp only [jn_d]
    rw [if_pos (by omega), idx_m (p := st) (j := i) (by omega), idx_m (p := o) (j := i) (by omega)]
    simp only [bnd_s]
    rw [hX, hmod, w64_succ (by omega)]
    have hnear : ∀ q : Nat, q < X * Y → q ∈ nbr X Y i → m i ≠ 0 → mAt st q = mAt st i → mAt o q = mAt o i := fun q hq hqn hm he => by
      have hmq : m q = m i := by rw [(hms q hq).1, hmi.1, he]
      exact (owner_eq ho hi hm (.step .refl hqn hmq)).symm
    have left_ : 0 < i % X → i - 1 ∈ nbr X Y i := fun h => by
      obtain ⟨r, c, hr, hc, rfl⟩ := co_of hi
      rw [(co_div hc).2] at h
      exact (mem_nbr hc).2 (.inr (.inl ⟨h, by omega⟩))
    have up_ : X ≤ i → i - X ∈ nbr X Y i := fun h => by
      obtain ⟨r, c, hr, hc, rfl⟩ := co_of hi
      refine (mem_nbr hc).2 (.inl ⟨?_, by omega⟩)
      rcases Nat.eq_zero_or_pos r with h0 | h0
      · subst h0; rw [Nat.mul_zero] at h; omega
      · exact h0
    have hmle : i % X ≤ i := Nat.mod_le _ _
    have f1 : 0 < i % X → idx st (w64 ((i : Int) - 1)) = some (mAt st (i - 1)) ∧ idx o (w64 ((i : Int) - 1)) = some (mAt o (i - 1)) := fun h => by
      rw [w64_id (by omega) (by omega), show ((i : Int) - 1) = ((i - 1 : Nat) : Int) from by omega]
      exact ⟨idx_m (by omega), idx_m (by omega)⟩
    have f2 : X ≤ i → idx st (w64 ((i : Int) - (X : Int))) = some (mAt st (i - X)) ∧ idx o (w64 ((i : Int) - (X : Int))) = some (mAt o (i - X)) := fun h => by
      rw [w64_id (by omega) (by omega), show ((i : Int) - (X : Int)) = ((i - X : Nat) : Int) from by omega]
      exact ⟨idx_m (by omega), idx_m (by omega)⟩
    have n1 : 0 < i % X → m i ≠ 0 → mAt st (i - 1) = mAt st i → mAt o (i - 1) = mAt o i := fun h hm he => hnear _ (by omega) (left_ h) hm he
    have n2 : X ≤ i → m i ≠ 0 → mAt st (i - X) = mAt st i → mAt o (i - X) = mAt o i := fun h hm he => hnear _ (by omega) (up_ h) hm he
    clear hnear left_ up_ hmod
    have hX0 : (X : Int) ≠ 0 := by omega
    generalize i % X = R at *
    have hge : ((X : Int) ≤ (i : Int)) = (X ≤ i) := propext (by omega)
    have hgt : ((0 : Int) < ((R : Nat) : Int)) = (0 < R) := propext (by omega)
    simp only [hge, hgt, gd_t hX0]
    by_cases hc : m i ≠ 0
    · have hpos := hop.2 hc
      have hd : decide (0 < mAt o i) = true := decide_eq_true hpos
      simp only [hd]
      have key : ∀ s64 : Bool, s64 = true → (if (s64 == true) = true then
          if 0 < R then
            if s64 = true then
              bnd (idx st (w64 ((i : Int) - 1))) fun x1218 =>
                if x1218 = mAt st i then
                  bnd (idx o (w64 ((i : Int) - 1))) fun x1242 =>
                    if x1242 = mAt o i then
                      if X ≤ i then
                        if s64 = true then
                          bnd (idx st (w64 ((i : Int) - (X : Int)))) fun x1271 =>
                            if x1271 = mAt st i then
                              bnd (idx o (w64 ((i : Int) - (X : Int)))) fun x1295 =>
                                if (!decide (x1295 = mAt o i)) = true then some (Sum.inr (Sum.inr false)) else some (Sum.inl ((i + 1 : Nat) : Int))
                            else if false = true then some (Sum.inr (Sum.inr false)) else some (Sum.inl ((i + 1 : Nat) : Int))
                        else if false = true then some (Sum.inr (Sum.inr false)) else some (Sum.inl ((i + 1 : Nat) : Int))
                      else if false = true then some (Sum.inr (Sum.inr false)) else some (Sum.inl ((i + 1 : Nat) : Int))
                    else if True then some (Sum.inr (Sum.inr false)) else some (Sum.inl ((i + 1 : Nat) : Int))
                else if X ≤ i then
                    if s64 = true then
                      bnd (idx st (w64 ((i : Int) - (X : Int)))) fun x1325 =>
                        if x1325 = mAt st i then
                          bnd (idx o (w64 ((i : Int) - (X : Int)))) fun x1349 =>
                            if (!decide (x1349 = mAt o i)) = true then some (Sum.inr (Sum.inr false)) else some (Sum.inl ((i + 1 : Nat) : Int))
                        else if false = true then some (Sum.inr (Sum.inr false)) else some (Sum.inl ((i + 1 : Nat) : Int))
                    else if false = true then some (Sum.inr (Sum.inr false)) else some (Sum.inl ((i + 1 : Nat) : Int))
                  else if false = true then some (Sum.inr (Sum.inr false)) else some (Sum.inl ((i + 1 : Nat) : Int))
            else if X ≤ i then
                if s64 = true then
                  bnd (idx st (w64 ((i : Int) - (X : Int)))) fun x1379 =>
                    if x1379 = mAt st i then
                      bnd (idx o (w64 ((i : Int) - (X : Int)))) fun x1403 =>
                        if (!decide (x1403 = mAt o i)) = true then some (Sum.inr (Sum.inr false)) else some (Sum.inl ((i + 1 : Nat) : Int))
                    else if false = true then some (Sum.inr (Sum.inr false)) else some (Sum.inl ((i + 1 : Nat) : Int))
                else if false = true then some (Sum.inr (Sum.inr false)) else some (Sum.inl ((i + 1 : Nat) : Int))
              else if false = true then some (Sum.inr (Sum.inr false)) else some (Sum.inl ((i + 1 : Nat) : Int))
          else if X ≤ i then
              if s64 = true then
                bnd (idx st (w64 ((i : Int) - (X : Int)))) fun x1433 =>
                  if x1433 = mAt st i then
                    bnd (idx o (w64 ((i : Int) - (X : Int)))) fun x1457 =>
                      if (!decide (x1457 = mAt o i)) = true then some (Sum.inr (Sum.inr false)) else some (Sum.inl ((i + 1 : Nat) : Int))
                  else if false = true then some (Sum.inr (Sum.inr false)) else some (Sum.inl ((i + 1 : Nat) : Int))
              else if false = true then some (Sum.inr (Sum.inr false)) else some (Sum.inl ((i + 1 : Nat) : Int))
            else if false = true then some (Sum.inr (Sum.inr false)) else some (Sum.inl ((i + 1 : Nat) : Int))
        else some (Sum.inr (Sum.inr false))) = (some (Sum.inl ((i + 1 : Nat) : Int)) : Option (Int ⊕ Unit ⊕ Bool)) := by
        rintro _ rfl
        by_cases hL : 0 < R
        · by_cases hU : X ≤ i
          · have g1 := f1 hL
            have g2 := f2 hU
            by_cases a1 : mAt st (i - 1) = mAt st i
            · have b1 := n1 hL hc a1
              by_cases a2 : mAt st (i - X) = mAt st i
              · have b2 := n2 hU hc a2
                simp [hL, hU, g1.1, g1.2, g2.1, g2.2, a1, a2, b1, b2, bnd_s]
              · simp [hL, hU, g1.1, g1.2, g2.1, g2.2, a1, a2, b1, bnd_s]
            · by_cases a2 : mAt st (i - X) = mAt st i
              · have b2 := n2 hU hc a2
                simp [hL, hU, g1.1, g1.2, g2.1, g2.2, a1, a2, b2, bnd_s]
              · simp [hL, hU, g1.1, g1.2, g2.1, g2.2, a1, a2, bnd_s]
          · have g1 := f1 hL
            by_cases a1 : mAt st (i - 1) = mAt st i
            · have b1 := n1 hL hc a1
              simp [hL, hU, g1.1, g1.2, a1, b1, bnd_s]
            · simp [hL, hU, g1.1, g1.2, a1, bnd_s]
        · by_cases hU : X ≤ i
          · have g2 := f2 hU
            by_cases a2 : mAt st (i - X) = mAt st i
            · have b2 := n2 hU hc a2
              simp [hL, hU, g2.1, g2.2, a2, b2, bnd_s]
            · simp [hL, hU, g2.1, g2.2, a2, bnd_s]
          · simp [hL, hU]
      rcases hch.1 hc with h | h
      · rw [if_pos h]
        have := key true rfl
        simp at this ⊢
        exact this
      · rw [if_neg (by rw [h]; decide)]
        have := key (decide (mAt st i = -1)) (decide_eq_true h)
        simp at this ⊢
        exact this
    · have hnc : ¬ (mAt st i = 1 ∨ mAt st i = -1) := fun h => hc (hch.2 h)
      have hd : decide (0 < mAt o i) = false := decide_eq_false (fun h => hc (hop.1 h))
      have e1 : decide (mAt st i = -1) = false := decide_eq_false (fun h => hnc (.inr h))
      rw [if_neg (fun h => hnc (.inl h)), hd, e1]
      by_cases hL : 0 < R <;> by_cases hU : X ≤ i <;> simp [hL, hU]
  · unfold lidarlaw09_ModelParts_l20
    simp only [jn_d]
    rw [hst, if_neg (by omega)]
theorem keptTo_pre {m : Nat → Int} {few : Int} : ∀ {j n : Nat}, j ≤ n → ∃ r, keptTo X Y m few n = keptTo X Y m few j ++ r := by
  intro j n h
  induction n with
  | zero => exact ⟨[], by obtain rfl : j = 0 := by omega
                          simp⟩
  | succ n ih =>
    by_cases hj : j ≤ n
    · obtain ⟨r, hr⟩ := ih hj
      exact ⟨r ++ (if keepG X Y m few n = true then [n] else []), by rw [keptTo_succ, hr, List.append_assoc]⟩
    · obtain rfl : j = n + 1 := by omega
      exact ⟨[], by simp⟩
theorem parts_l33 {m : Nat → Int} {p2 few : Int} (h9 : X * Y ≤ 4096) (hf : w64 (1 + Int.tmod (w64 p2) 20) = few) :
    lfix (lidarlaw09_ModelParts_l33 ((List.range (firsts X Y m).length).map (regAt a b X Y m), 0) p2 ((keptTo X Y m few (firsts X Y m).length).map (regAt a b X Y m), 0)) (0, 0) = some (.inl (((keptTo X Y m few (firsts X Y m).length).length : Nat) : Int)) := by
  have hfl := firsts_len (X := X) (Y := Y) (m := m)
  obtain ⟨t, ht, hR⟩ := lfix_ind (B := lidarlaw09_ModelParts_l33 ((List.range (firsts X Y m).length).map (regAt a b X Y m), 0) p2 ((keptTo X Y m few (firsts X Y m).length).map (regAt a b X Y m), 0)) (fun s => (firsts X Y m).length - s.2.toNat)
    (fun s => ∃ i : Nat, i ≤ (firsts X Y m).length ∧ s = ((((keptTo X Y m few i).length : Nat) : Int), (i : Int)))
    (fun t => t = .inl (((keptTo X Y m few (firsts X Y m).length).length : Nat) : Int)) (by
      rintro s ⟨i, hi, rfl⟩
      unfold lidarlaw09_ModelParts_l33
      simp only [jn_d, List.length_map, List.length_range]
      by_cases hlt : i < (firsts X Y m).length
      · left
        refine ⟨_, ?_, ⟨i + 1, by omega, rfl⟩, by simp only [Int.toNat_natCast]; omega⟩
        have hridx : idx ((List.range (firsts X Y m).length).map (regAt a b X Y m)) (i : Int) = some (regAt a b X Y m i) := by
          rw [map_idx (by rw [List.length_range]; exact hlt)]; simp
        have hgl := group_len (X := X) (Y := Y) (m := m) (k := i)
        have hkl := keptTo_len (X := X) (Y := Y) (m := m) (few := few) (j := i)
        rw [if_pos (by omega), hridx]
        simp only [bnd_s]
        rw [hf, w64_succ (by omega)]
        have hlen : ((regAt a b X Y m i).Nodes).length = (groupAt X Y m i).length := nInts_len
        rw [hlen]
        by_cases hk : few ≤ ((groupAt X Y m i).length : Int)
        · have hkg : keepG X Y m few i = true := decide_eq_true hk
          obtain ⟨r, hr⟩ := keptTo_pre (X := X) (Y := Y) (m := m) (few := few) (show i + 1 ≤ (firsts X Y m).length by omega)
          rw [keptTo_succ, if_pos hkg] at hr
          have hl2 : (keptTo X Y m few i).length < (keptTo X Y m few (firsts X Y m).length).length := by rw [hr]; simp
          have hat : (keptTo X Y m few (firsts X Y m).length)[(keptTo X Y m few i).length] = i := by
            simp only [hr]
            rw [List.getElem_append_left (by simp), List.getElem_append_right (Nat.le_refl _)]
            simp
          rw [if_neg (by omega), if_neg (by omega), map_idx hl2, hat]
          simp only [bnd_s]
          rw [if_pos trivial, sameInts_refl _ (by rw [hlen]; omega), bnd_s, if_neg (by simp), w64_succ (by omega), keptTo_succ, if_pos hkg]
          simp
        · have hkg : ¬ keepG X Y m few i = true := by unfold keepG; rw [decide_eq_true_eq]; exact hk
          rw [if_pos (by omega), keptTo_succ, if_neg hkg, List.append_nil]
      · right
        obtain rfl : i = (firsts X Y m).length := by omega
        rw [if_neg (by omega)]
        exact ⟨_, rfl, rfl⟩)
    (0, 0) ⟨0, by omega, by simp [keptTo]⟩
  rw [hR] at ht; exact ht
end
theorem modelParts_eq (g h : S_api_Grid) (p2 : Int) (hp2 : 0 ≤ p2 ∧ p2 ≤ 255) : lidarlaw09_ModelParts g h p2 = some true := by
  unfold lidarlaw09_ModelParts
  simp only [jn_d]
  rw [good_eq, good_eq, bnd_s, first_eq]
  simp only [bnd_s]
  by_cases hg : (decide (g.Cells.length ≤ 100) && validP g) = true
  · rw [if_pos hg]
    by_cases hh : (decide (h.Cells.length ≤ 100) && validP h) = true
    · rw [if_neg (by rw [hh]; decide)]
      simp only [Bool.and_eq_true, decide_eq_true_eq] at hg hh
      rw [alike_eq g h hg.1 hh.1, bnd_s]
      have hv := mix_valid hg.2 hh.2
      generalize hb : (⟨g.Raster, mixC g.Cells h.Cells⟩ : S_api_Grid) = b at hv
      have hbl : b.Cells.length = g.Cells.length := by rw [← hb]; exact mix_len
      have hbr : b.Raster = g.Raster := by rw [← hb]
      have p1 : pairP g b = 0 := by unfold pairP; rw [hg.2, hv, hbr, ras_refl]; rfl
      have hl := validP_cells hg.2
      have hS := goodF_of hl.2.2.2
      obtain ⟨X, hX⟩ : ∃ X : Nat, g.Raster.NX = (X : Int) := ⟨g.Raster.NX.toNat, by have := hS.nx; omega⟩
      obtain ⟨Y, hY⟩ : ∃ Y : Nat, g.Raster.NY = (Y : Int) := ⟨g.Raster.NY.toNat, by have := hS.ny; omega⟩
      have h1 : 1 ≤ X ∧ X ≤ 64 := by have := hS.nx; omega
      have hn : g.Cells.length = X * Y := by have := hl.1; rw [hX, hY] at this; exact_mod_cast this
      have hsl : (statesP g.Cells b.Cells).length = X * Y := by rw [states_len hbl.symm, hn]
      simp only []
      rw [compare_eq, if_pos p1, regions_eq p1 (by omega) hX hY]
      have ms : ∀ j, j < X * Y → mAt (rmarks g.Cells b.Cells) j = known2 (mAt (statesP g.Cells b.Cells) j) ∧ (mAt (statesP g.Cells b.Cells) j = 2 ∨ mAt (statesP g.Cells b.Cells) j = 1 ∨ mAt (statesP g.Cells b.Cells) j = -1 ∨ mAt (statesP g.Cells b.Cells) j = 0) := fun j hj => mark_state hbl.symm (by omega)
      have hreg := fun few hf => regions_eq (a := g) (b := b) (few := few) p1 hf hX hY
      generalize hm : mAt (rmarks g.Cells b.Cells) = m at *
      simp only [bnd_s]
      rw [keep_all (Nat.le_refl _), if_pos trivial, if_pos trivial, if_neg (by rw [hsl, hn]; simp), gd_t ⟨by omega, by omega⟩]
      have hs2 : ∀ j, j < X * Y → m j ≠ 0 → mAt (statesP g.Cells b.Cells) j = m j := fun j hj hne => by
        have := ms j hj
        rw [this.1] at hne ⊢
        unfold known2 at hne ⊢
        split
        · rename_i h2; rw [if_pos h2] at hne; exact absurd rfl hne
        · rfl
      obtain ⟨o, hL, d1, d2⟩ := parts_l10 (a := g) (b := b) (m := m) hsl (by omega) hs2 0 0
      rw [Int.toNat_natCast, hsl, hL, bnd_s]
      simp only []
      rw [parts_l20 hX h1 hsl (by omega) ms 0 d1 d2, bnd_s]
      simp only []
      have hfew : 1 ≤ w64 (1 + Int.tmod (w64 p2) 20) := by
        rw [w64_id (x := p2) (by omega) (by omega), Int.tmod_eq_emod_of_nonneg (by omega), w64_id (by omega) (by omega)]
        omega
      rw [hreg _ hfew, bnd_s]
      simp only []
      rw [if_pos trivial, parts_l33 (by omega) rfl, bnd_s]
      simp only [List.length_map]
      rw [if_pos trivial]
    · rw [if_pos (by rw [Bool.eq_false_iff.2 hh]; rfl)]
  · rw [if_neg hg, if_pos trivial]
end Go.Proofs.Ytjhknbpiaikblaa
