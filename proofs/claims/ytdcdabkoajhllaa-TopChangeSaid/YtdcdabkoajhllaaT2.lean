/- Plain laws: the program's groups of nodes (walk). -/
import Derived.Test.YtdcdabkoajhllaaK4
import Derived.Test.YtdcdabkoajhllaaKQ1
import Derived.Test.YtdcdabkoajhllaaR1
namespace Go.Proofs.Ytdcdabkoajhllaa
open Go Go.RowKit
theorem nInts_len {l : List Nat} : (nInts l).length = l.length := by simp [nInts]
theorem idx_nInts {l : List Nat} {j : Nat} (h : j < l.length) : idx (nInts l) (j : Int) = some ((l[j] : Nat) : Int) := by
  rw [idx_nat (by rw [nInts_len]; exact h)]; simp [nInts]
def mAt (p : List Int) (i : Nat) : Int := p.getD i 0
def sb (s : List Bool) (i : Nat) : Bool := s.getD i false
theorem idx_m {p : List Int} {j : Nat} (h : j < p.length) : idx p (j : Int) = some (mAt p j) := by
  rw [idx_nat h]; simp [mAt, h]
theorem idx_s {p : List Bool} {j : Nat} (h : j < p.length) : idx p (j : Int) = some (sb p j) := by
  rw [idx_nat h]; simp [sb, h]
theorem sb_set {s : List Bool} {j k : Nat} (h : k < s.length) : sb (setI s (k : Int) true) j = true ↔ sb s j = true ∨ j = k := by
  rw [setI_nat]
  simp only [sb, List.getD_eq_getElem?_getD, List.getElem?_set]
  by_cases hk : k = j
  · subst hk; simp [h]
  · simp [hk]; intro e; exact absurd e.symm hk
theorem sb_lt {s : List Bool} {j : Nat} (h : sb s j = true) : j < s.length := by
  rcases Nat.lt_or_ge j s.length with h1 | h1
  · exact h1
  · simp [sb, List.getD_eq_getElem?_getD, List.getElem?_eq_none h1] at h
theorem nodup_bd {l : List Nat} {n : Nat} (h : l.Nodup) (hl : ∀ x ∈ l, x < n) : l.length ≤ n := by
  have := h.length_le_of_subset (l₂ := List.range n) (fun x hx => List.mem_range.2 (hl x hx))
  simpa using this
theorem neigh_eq {f : S_api_Raster} {X Y i : Nat} (hX : f.NX = (X : Int)) (hY : f.NY = (Y : Int)) (h1 : 1 ≤ X ∧ X ≤ 64) (h2 : 1 ≤ Y ∧ Y ≤ 64) (hi : i < X * Y) : model_neighbours f (i : Int) = some (nInts (nbr X Y i)) := by
  have hn : X * Y ≤ 64 * 64 := Nat.mul_le_mul h1.2 h2.2
  have e1 : Int.tdiv (i : Int) f.NX = ((i / X : Nat) : Int) := by rw [hX, Int.ofNat_tdiv]
  have e2 : Int.tmod (i : Int) f.NX = ((i % X : Nat) : Int) := by rw [hX, Int.ofNat_tmod]
  have hd : i / X ≤ i := Nat.div_le_self _ _
  have hm : i % X ≤ i := Nat.mod_le _ _
  have hx : 0 < i / X → X ≤ i := fun h => by
    have := Nat.div_add_mod i X
    have := Nat.le_mul_of_pos_right X h
    omega
  unfold model_neighbours
  rw [gd_t (by omega), gd_t (by omega)]
  simp only [jn_d, e1, e2]
  rw [hX, hY, w64_nat (by omega), w64_succ (by omega), w64_succ (by omega)]
  have f1 : 0 < i / X → w64 ((i : Int) - (X : Int)) = ((i - X : Nat) : Int) := fun h => by have := hx h; rw [w64_id (by omega) (by omega)]; omega
  have f2 : 0 < i % X → w64 ((i : Int) - 1) = ((i - 1 : Nat) : Int) := fun h => by rw [w64_id (by omega) (by omega)]; omega
  have f3 : w64 ((i : Int) + 1) = ((i + 1 : Nat) : Int) := w64_succ (by omega)
  have f4 : w64 ((i : Int) + (X : Int)) = ((i + X : Nat) : Int) := by rw [w64_id (by omega) (by omega)]; omega
  unfold nbr nInts
  generalize i / X = D at *
  generalize i % X = R at *
  have c1 : ((0 : Int) < ((D : Nat) : Int)) = (0 < D) := by simp
  have c2 : ((0 : Int) < ((R : Nat) : Int)) = (0 < R) := by simp
  have c3 : (((R + 1 : Nat) : Int) < (X : Int)) = (R + 1 < X) := propext (by omega)
  have c4 : (((D + 1 : Nat) : Int) < (Y : Int)) = (D + 1 < Y) := propext (by omega)
  simp only [c1, c2, c3, c4]
  by_cases a : 0 < D <;> by_cases b : 0 < R <;> by_cases d : R + 1 < X <;> by_cases e : D + 1 < Y <;> (try have g1 := f1 a) <;> (try have g2 := f2 b) <;>
    simp [a, b, d, e, gd, f3, f4] <;> (try simp [g1]) <;> (try simp [g2])
section
variable {n : Nat} {p : List Int} {mk : Int}
theorem l15_runs {s0 : List Bool × List Int × List Int} {x0 : Int} (ks : List Nat) (seen : List Bool) (st : List Nat) (hp : p.length = n) (hs : seen.length = n) (hk : ∀ k ∈ ks, k < n) (hb : st.length + ks.length ≤ 1000000) :
    ∃ seen2 new, lfix (model_groups_l15 (nInts ks) p mk s0 x0) (seen, nInts st, 0) = some (seen2, nInts (st ++ new), s0.2.2 ++ [x0]) ∧ seen2.length = n ∧ new.Nodup ∧ (∀ x ∈ new, x ∈ ks ∧ mAt p x = mk ∧ sb seen x = false) ∧
      (∀ j, sb seen2 j = true ↔ sb seen j = true ∨ j ∈ new) ∧ (∀ k ∈ ks, mAt p k = mk → sb seen2 k = true) := by
  obtain ⟨t, ht, seen2, new, rfl, h1, h2, h3, h4, h5⟩ := lfix_ind (B := model_groups_l15 (nInts ks) p mk s0 x0) (fun s => ks.length - s.2.2.toNat)
    (fun s => ∃ (j : Nat) (seen2 : List Bool) (new : List Nat), s = (seen2, nInts (st ++ new), (j : Int)) ∧ j ≤ ks.length ∧ new.length ≤ j ∧ seen2.length = n ∧ new.Nodup ∧ (∀ x ∈ new, x ∈ ks ∧ mAt p x = mk ∧ sb seen x = false) ∧
      (∀ j, sb seen2 j = true ↔ sb seen j = true ∨ j ∈ new) ∧ (∀ k ∈ ks.take j, mAt p k = mk → sb seen2 k = true))
    (fun t => ∃ (seen2 : List Bool) (new : List Nat), t = (seen2, nInts (st ++ new), s0.2.2 ++ [x0]) ∧ seen2.length = n ∧ new.Nodup ∧ (∀ x ∈ new, x ∈ ks ∧ mAt p x = mk ∧ sb seen x = false) ∧
      (∀ j, sb seen2 j = true ↔ sb seen j = true ∨ j ∈ new) ∧ (∀ k ∈ ks, mAt p k = mk → sb seen2 k = true)) (by
      rintro s ⟨j, seen2, new, rfl, hj, hnl, g1, g2, g3, g4, g5⟩
      unfold model_groups_l15
      simp only [jn_d, nInts_len]
      by_cases hlt : j < ks.length
      · left
        have hkj := hk _ (List.getElem_mem hlt)
        have htk : ∀ k, k ∈ ks.take (j + 1) ↔ k ∈ ks.take j ∨ k = ks[j] := fun k => by rw [List.take_succ_eq_append_getElem hlt, List.mem_append, List.mem_singleton]
        rw [if_pos (by omega), idx_nInts hlt, bnd_s, idx_m (by omega), bnd_s, idx_s (by omega), bnd_s]
        by_cases hm : mAt p ks[j] = mk
        · rw [if_pos hm]
          by_cases hsn : sb seen2 ks[j] = true
          · refine ⟨(seen2, nInts (st ++ new), ((j + 1 : Nat) : Int)), ?_, ⟨j + 1, seen2, new, rfl, by omega, by omega, g1, g2, g3, g4, fun k hk' hmk => ?_⟩, by simp only [Int.toNat_natCast]; omega⟩
            · rw [if_neg (by rw [hsn]; simp), w64_succ (by omega)]
            · rcases (htk k).1 hk' with h | rfl
              · exact g5 k h hmk
              · exact hsn
          · have hsn' : sb seen2 ks[j] = false := by simpa using hsn
            refine ⟨(setI seen2 ((ks[j] : Nat) : Int) true, nInts (st ++ (new ++ [ks[j]])), ((j + 1 : Nat) : Int)), ?_, ⟨j + 1, _, new ++ [ks[j]], rfl, by omega, by simp; omega, by rw [setI_len]; exact g1, ?_, fun x hx => ?_, fun q => ?_, fun k hk' hmk => ?_⟩, by simp only [Int.toNat_natCast]; omega⟩
            · rw [if_pos (by rw [hsn']; rfl), bnd_s, gd_t (by simp; omega), w64_succ (by omega)]
              simp [nInts]
            · rw [List.nodup_append]
              refine ⟨g2, by simp, fun a ha b hb => ?_⟩
              simp at hb; subst hb
              intro he; subst he
              have := (g4 _).2 (.inr ha)
              rw [hsn'] at this; cases this
            · rcases List.mem_append.1 hx with hx | hx
              · exact g3 x hx
              · simp at hx; subst hx
                refine ⟨List.getElem_mem hlt, hm, ?_⟩
                cases hq : sb seen ks[j]
                · rfl
                · have := (g4 _).2 (.inl hq); rw [hsn'] at this; cases this
            · rw [sb_set (by omega), g4 q]; simp [or_assoc]
            · rw [sb_set (by omega)]
              rcases (htk k).1 hk' with h | rfl
              · exact .inl (g5 k h hmk)
              · exact .inr rfl
        · rw [if_neg hm]
          refine ⟨(seen2, nInts (st ++ new), ((j + 1 : Nat) : Int)), ?_, ⟨j + 1, seen2, new, rfl, by omega, by omega, g1, g2, g3, g4, fun k hk' hmk => ?_⟩, by simp only [Int.toNat_natCast]; omega⟩
          · rw [if_neg (by simp), w64_succ (by omega)]
          · rcases (htk k).1 hk' with h | rfl
            · exact g5 k h hmk
            · exact absurd hmk hm
      · right
        rw [if_neg (by omega)]
        exact ⟨_, rfl, seen2, new, rfl, g1, g2, g3, g4, by rw [List.take_of_length_le (by omega)] at g5; exact g5⟩)
    (seen, nInts st, ((0 : Nat) : Int)) ⟨0, seen, [], by simp, by omega, by simp, hs, by simp, by simp, by simp, by simp⟩
  exact ⟨seen2, new, ht, h1, h2, h3, h4, h5⟩
end

end Go.Proofs.Ytdcdabkoajhllaa
