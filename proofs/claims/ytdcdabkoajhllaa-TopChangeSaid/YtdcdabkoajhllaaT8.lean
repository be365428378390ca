/- Plain laws: the program's regions. -/
import Derived.Test.YtdcdabkoajhllaaK4
import Derived.Test.YtdcdabkoajhllaaT4
namespace Go.Proofs.Ytdcdabkoajhllaa
open Go Go.RowKit
def known2 (s : Int) : Int := if s = 2 then 0 else s
def rmarks (l r : List S_api_Cell) : List Int := (statesP l r).map known2
theorem regions_l8 (q : List Int) (h9 : q.length ≤ 4096) : lfix (model_Regions_l8 q) (q, 0) = some (q.map known2) := by
  obtain ⟨t, ht, hR⟩ := lfix_ind (B := model_Regions_l8 q) (fun s => q.length - s.2.toNat)
    (fun s => ∃ j : Nat, j ≤ q.length ∧ s = ((q.take j).map known2 ++ q.drop j, (j : Int)))
    (fun t => t = q.map known2) (by
      rintro s ⟨j, hj, rfl⟩
      unfold model_Regions_l8
      simp only [jn_d]
      have hjt : ((q.take j).map known2).length = j := by rw [List.length_map, List.length_take]; omega
      by_cases hlt : j < q.length
      · left
        refine ⟨_, ?_, ⟨j + 1, by omega, rfl⟩, by simp only [Int.toNat_natCast]; omega⟩
        have hd : q.drop j = q[j] :: q.drop (j + 1) := List.drop_eq_getElem_cons hlt
        have hidx : idx ((q.take j).map known2 ++ q.drop j) (j : Int) = some q[j] := by
          rw [idx_nat (by rw [List.length_append, hjt, List.length_drop]; omega), List.getElem_append_right (by omega)]
          simp only [hjt, Nat.sub_self, List.getElem_drop, Nat.add_zero]
        rw [if_pos (by omega), hidx, bnd_s, bnd_s, w64_succ (by omega), setI_nat, List.take_succ_eq_append_getElem hlt, List.map_append, hd]
        by_cases h2 : q[j] = 2
        · rw [if_pos h2, List.set_append_right _ _ (by omega), hjt]
          simp [known2, h2]
        · rw [if_neg h2]
          simp [known2, h2]
      · right
        obtain rfl : j = q.length := by omega
        rw [if_neg (by omega)]
        exact ⟨_, rfl, by simp⟩)
    (q, 0) ⟨0, by omega, by simp⟩
  rw [hR] at ht; exact ht
section
variable {a b : S_api_Grid} {X Y : Nat}
/-- A region. -/
noncomputable def regAt (a b : S_api_Grid) (X Y : Nat) (m : Nat → Int) (k : Nat) : S_api_Region :=
  ⟨m ((firsts X Y m).getD k 0), nInts (groupAt X Y m k), Z32 (a.Raster.Step * a.Raster.Step * sumA (loA a.Cells b.Cells) (nInts (groupAt X Y m k))), Z32 (a.Raster.Step * a.Raster.Step * sumA (hiA a.Cells b.Cells) (nInts (groupAt X Y m k)))⟩
noncomputable def keepG (X Y : Nat) (m : Nat → Int) (few : Int) (k : Nat) : Bool := decide (few ≤ ((groupAt X Y m k).length : Int))
noncomputable def keptTo (X Y : Nat) (m : Nat → Int) (few : Int) (j : Nat) : List Nat := (List.range j).filter (keepG X Y m few)
theorem keptTo_succ {m : Nat → Int} {few : Int} {j : Nat} : keptTo X Y m few (j + 1) = keptTo X Y m few j ++ (if keepG X Y m few j = true then [j] else []) := by
  unfold keptTo
  rw [List.range_succ, List.filter_append]
  congr 1
  by_cases h : keepG X Y m few j = true <;> simp [h]
theorem keptTo_len {m : Nat → Int} {few : Int} {j : Nat} : (keptTo X Y m few j).length ≤ j := by
  have := List.length_filter_le (keepG X Y m few) (List.range j)
  simpa [keptTo] using this
theorem known_group {m : Nat → Int} (hp : pairP a b = 0) (hn : a.Cells.length = X * Y) {k : Nat} (hk : k < (firsts X Y m).length) : Known a b (nInts (groupAt X Y m k)) := by
  refine known_of hp ?_
  rw [List.all_eq_true]
  intro x hx
  simp only [nInts, List.mem_map] at hx
  obtain ⟨j, hj, rfl⟩ := hx
  have := group_lt hk hj
  simp only [inN, decide_eq_true_eq]; omega
theorem comps_idx' {m : Nat → Int} {k : Nat} (h : k < (firsts X Y m).length) : idx (comps X Y m) (k : Int) = some (nInts (groupAt X Y m k)) := by
  rw [idx_nat (by rw [comps_len]; exact h), comps_at h]
theorem head_idx {m : Nat → Int} {k : Nat} (h : k < (firsts X Y m).length) : idx (nInts (groupAt X Y m k)) 0 = some (((firsts X Y m).getD k 0 : Nat) : Int) := by
  obtain ⟨r, hr⟩ := group_head h
  rw [hr]; rfl
theorem states_len {l r : List S_api_Cell} (h : l.length = r.length) : (statesP l r).length = l.length := by simp [statesP, h]
theorem regions_eq {few : Int} (hp : pairP a b = 0) (hf : 1 ≤ few) (hX : a.Raster.NX = (X : Int)) (hY : a.Raster.NY = (Y : Int)) :
    model_Regions a b few = some ((keptTo X Y (mAt (rmarks a.Cells b.Cells)) few (firsts X Y (mAt (rmarks a.Cells b.Cells))).length).map (regAt a b X Y (mAt (rmarks a.Cells b.Cells))), 0) := by
  have h3 := pairP_zero hp
  have hl := validP_cells h3.1
  have hll := pairP_len hp
  have hg := goodF_of hl.2.2.2
  have h1 : 1 ≤ X ∧ X ≤ 64 := by have := hg.nx; omega
  have h2 : 1 ≤ Y ∧ Y ≤ 64 := by have := hg.ny; omega
  have hn : a.Cells.length = X * Y := by have := hl.1; rw [hX, hY] at this; exact_mod_cast this
  have hsl := states_len hll.1
  have hml : (rmarks a.Cells b.Cells).length = X * Y := by rw [rmarks, List.length_map, hsl, hn]
  generalize hm : mAt (rmarks a.Cells b.Cells) = m
  have hfl := firsts_len (X := X) (Y := Y) (m := m)
  have hgr := groups_eq hX hY h1 h2 hml
  rw [hm] at hgr
  unfold model_Regions
  rw [pair_eq, bnd_s, if_pos hp, if_neg (by omega), states_eq hll.1 hll.2, bnd_s]
  simp only [jn_d]
  rw [regions_l8 _ (by omega), bnd_s]
  have hmk : List.map known2 (statesP a.Cells b.Cells) = rmarks a.Cells b.Cells := rfl
  rw [hmk, hgr, bnd_s]
  obtain ⟨t, ht, hR⟩ := lfix_ind (B := model_Regions_l15 (comps X Y m) few (rmarks a.Cells b.Cells) a b) (fun s => (firsts X Y m).length - s.2.toNat)
    (fun s => ∃ j : Nat, j ≤ (firsts X Y m).length ∧ s = ((keptTo X Y m few j).map (regAt a b X Y m), (j : Int)))
    (fun t => t = (keptTo X Y m few (firsts X Y m).length).map (regAt a b X Y m)) (by
      rintro s ⟨j, hj, rfl⟩
      unfold model_Regions_l15
      simp only [jn_d, comps_len]
      by_cases hlt : j < (firsts X Y m).length
      · left
        refine ⟨_, ?_, ⟨j + 1, by omega, rfl⟩, by simp only [Int.toNat_natCast]; omega⟩
        have hgl := group_len (X := X) (Y := Y) (m := m) (k := j)
        have hkl := keptTo_len (X := X) (Y := Y) (m := m) (few := few) (j := j)
        have hfm := mem_firsts.1 (firsts_at hlt)
        rw [if_pos (by omega), comps_idx' hlt, bnd_s, w64_succ (by omega), keptTo_succ, List.map_append]
        rw [nInts_len]
        by_cases hk : few ≤ ((groupAt X Y m j).length : Int)
        · rw [if_neg (by omega), if_pos (show keepG X Y m few j = true from decide_eq_true hk), head_idx hlt, bnd_s, idx_m (by rw [hml]; exact hfm.1), bnd_s]
          rw [amount_eq (by rw [nInts_len]; omega) (known_group hp hn hlt) hg.st.1 hg.st.2, bnd_s, gd_t (by rw [List.length_map]; omega), hm]
          rfl
        · rw [if_pos (by omega), if_neg (show ¬ keepG X Y m few j = true from by unfold keepG; rw [decide_eq_true_eq]; exact hk)]
          simp
      · right
        obtain rfl : j = (firsts X Y m).length := by omega
        rw [if_neg (by omega)]
        exact ⟨_, rfl, rfl⟩)
    ([], 0) ⟨0, by omega, by simp [keptTo]⟩
  rw [ht, bnd_s, hR]
theorem regions_no {few : Int} (hp : pairP a b ≠ 0) : model_Regions a b few = some ([], pairP a b) := by
  unfold model_Regions
  rw [pair_eq, bnd_s, if_neg hp]
theorem regions_few {few : Int} (hp : pairP a b = 0) (hf : few < 1) : model_Regions a b few = some ([], 2) := by
  unfold model_Regions
  rw [pair_eq, bnd_s, if_pos hp, if_pos hf]
end

end Go.Proofs.Ytdcdabkoajhllaa
