/- Plain laws: the program's groups of nodes. -/
import Derived.Test.YtdcdabkoajhllaaT2
namespace Go.Proofs.Ytdcdabkoajhllaa
open Go Go.RowKit
theorem nbr_len {X Y i : Nat} : (nbr X Y i).length ≤ 4 := by
  unfold nbr
  by_cases a : 0 < i / X <;> by_cases b : 0 < i % X <;> by_cases d : i % X + 1 < X <;> by_cases e : i / X + 1 < Y <;> simp only [a, b, d, e, if_true, if_false, List.length_append, List.length_cons, List.length_nil] <;> omega
theorem nInts_app {a b : List Nat} : nInts (a ++ b) = nInts a ++ nInts b := by simp [nInts]
section
variable {f : S_api_Raster} {X Y : Nat} {p : List Int}
theorem l10_runs (hX : f.NX = (X : Int)) (hY : f.NY = (Y : Int)) (h1 : 1 ≤ X ∧ X ≤ 64) (h2 : 1 ≤ Y ∧ Y ≤ 64) (hp : p.length = X * Y) {i : Nat} (hi : i < X * Y) (seen0 : List Bool) (hs0 : seen0.length = X * Y) (h0 : ∀ j, Reach X Y (mAt p) i j → sb seen0 j = false) :
    ∃ seenF gr, lfix (model_groups_l10 f p (mAt p i)) (setI seen0 (i : Int) true, [(i : Int)], []) = some (seenF, nInts gr) ∧ seenF.length = X * Y ∧ gr.Nodup ∧ (∀ j, j ∈ gr ↔ Reach X Y (mAt p) i j) ∧ (∀ j, sb seenF j = true ↔ sb seen0 j = true ∨ Reach X Y (mAt p) i j) := by
  have hn : X * Y ≤ 64 * 64 := Nat.mul_le_mul h1.2 h2.2
  obtain ⟨t, ht, seenF, gr, rfl, q1, q2, q3, q4⟩ := lfix_ind (B := model_groups_l10 f p (mAt p i)) (fun s => X * Y - s.2.2.length)
    (fun s => ∃ (seen : List Bool) (st gr : List Nat), s = (seen, nInts st, nInts gr) ∧ seen.length = X * Y ∧ (gr ++ st).Nodup ∧ (∀ j ∈ gr ++ st, Reach X Y (mAt p) i j) ∧ (∀ j, sb seen j = true ↔ sb seen0 j = true ∨ j ∈ gr ++ st) ∧
      (∀ g ∈ gr, ∀ k ∈ nbr X Y g, mAt p k = mAt p g → k ∈ gr ++ st) ∧ i ∈ gr ++ st)
    (fun t => ∃ (seenF : List Bool) (gr : List Nat), t = (seenF, nInts gr) ∧ seenF.length = X * Y ∧ gr.Nodup ∧ (∀ j, j ∈ gr ↔ Reach X Y (mAt p) i j) ∧ (∀ j, sb seenF j = true ↔ sb seen0 j = true ∨ Reach X Y (mAt p) i j)) (by
      rintro s ⟨seen, st, gr, rfl, c1, c2, c3, c4, c5, c6⟩
      have hbd : (gr ++ st).length ≤ X * Y := nodup_bd c2 (fun x hx => (c3 x hx).lt hi)
      rw [List.length_append] at hbd
      unfold model_groups_l10
      simp only [nInts_len]
      rcases List.eq_nil_or_concat st with rfl | ⟨st', g, rfl⟩
      · right
        rw [if_neg (by simp)]
        simp only [List.append_nil] at c2 c3 c4 c5 c6
        have hmem : ∀ j, j ∈ gr ↔ Reach X Y (mAt p) i j := fun j => ⟨fun h => c3 j h, fun h => by
          induction h with
          | refl => exact c6
          | step _ hk hm ih => exact c5 _ ih _ hk hm⟩
        exact ⟨_, rfl, seen, gr, rfl, c1, c2, hmem, fun j => by rw [c4 j, hmem j]⟩
      · left
        rw [List.concat_eq_append] at *
        have hgm : g ∈ gr ++ (st' ++ [g]) := by simp
        have hgr := c3 g hgm
        have hgl := hgr.lt hi
        have hlen : (st' ++ [g]).length = st'.length + 1 := by simp
        rw [hlen] at hbd
        have hw : w64 ((((st' ++ [g]).length : Nat) : Int) - 1) = ((st'.length : Nat) : Int) := by rw [hlen, w64_id (by omega) (by omega)]; omega
        have hidx : idx (nInts (st' ++ [g])) ((st'.length : Nat) : Int) = some (g : Int) := by
          rw [idx_nInts (by simp)]; simp
        have htk : List.take (Int.toNat ((st'.length : Nat) : Int)) (nInts (st' ++ [g])) = nInts st' := by
          rw [Int.toNat_natCast, nInts_app, List.take_left' (by rw [nInts_len])]
        obtain ⟨seen2, new, hL, d1, d2, d3, d4, d5⟩ := l15_runs (n := X * Y) (p := p) (mk := mAt p i) (s0 := (seen, nInts (st' ++ [g]), nInts gr)) (x0 := (g : Int)) (nbr X Y g) seen st' hp c1 (fun k hk => nbr_lt hgl hk) (by have := nbr_len (X := X) (Y := Y) (i := g); omega)
        have hperm : ((gr ++ [g]) ++ (st' ++ new)).Perm ((gr ++ (st' ++ [g])) ++ new) := by
          rw [List.append_assoc gr [g] _, List.append_assoc gr _ new, List.append_assoc st']
          exact List.Perm.append_left gr (List.perm_append_comm_assoc _ _ _)
        have hmem : ∀ x, x ∈ (gr ++ [g]) ++ (st' ++ new) ↔ x ∈ gr ++ (st' ++ [g]) ∨ x ∈ new := fun x => by rw [hperm.mem_iff, List.mem_append]
        refine ⟨(seen2, nInts (st' ++ new), nInts (gr ++ [g])), ?_, ⟨seen2, st' ++ new, gr ++ [g], rfl, d1, ?_, fun j hj => ?_, fun j => ?_, fun g' hg' k hk hm => ?_, (hmem i).2 (.inl c6)⟩, ?_⟩
        · rw [if_pos (by rw [hlen]; omega), hw, hidx, bnd_s, gd_t (by rw [hlen]; omega), gd_t (by omega), neigh_eq hX hY h1 h2 hgl, bnd_s, htk, hL, bnd_s]
          simp [nInts]
        · refine hperm.nodup_iff.2 (List.nodup_append.2 ⟨c2, d2, fun a ha b hb he => ?_⟩)
          subst he
          have h5 := (d3 a hb).2.2
          have := (c4 a).2 (.inr ha)
          rw [h5] at this; cases this
        · rcases (hmem j).1 hj with h | h
          · exact c3 j h
          · exact .step hgr (d3 j h).1 (by rw [(d3 j h).2.1, hgr.mark])
        · rw [d4 j, c4 j, hmem j]; simp [or_assoc]
        · rcases List.mem_append.1 hg' with h | h
          · exact (hmem k).2 (.inl (c5 g' h k hk hm))
          · simp at h; subst h
            have hmk : mAt p k = mAt p i := by rw [hm, hgr.mark]
            rcases (d4 k).1 (d5 k hk hmk) with h6 | h6
            · rcases (c4 k).1 h6 with h7 | h7
              · rw [h0 k (.step hgr hk hm)] at h7; cases h7
              · exact (hmem k).2 (.inl h7)
            · exact (hmem k).2 (.inr h6)
        · simp only [nInts_len, List.length_append, List.length_singleton]; omega)
    (setI seen0 (i : Int) true, nInts [i], nInts []) ⟨_, [i], [], rfl, by rw [setI_len]; exact hs0, by simp, fun j hj => by simp at hj; subst hj; exact .refl, fun j => by rw [sb_set (by omega)]; simp, by simp, by simp⟩
  exact ⟨seenF, gr, ht, q1, q2, q3, q4⟩
theorem sort_comp {m : Nat → Int} {i : Nat} (hi : i < X * Y) {gr : List Nat} (h1 : gr.Nodup) (h2 : ∀ j, j ∈ gr ↔ Reach X Y m i j) : sortI (nInts gr) = nInts (compOf X Y m i) := by
  have hnd : (compOf X Y m i).Nodup := compOf_sorted.imp (fun h => by omega)
  have hp : (nInts gr).Perm (nInts (compOf X Y m i)) := ((List.perm_ext_iff_of_nodup h1 hnd).2 (fun j => by rw [h2 j, mem_compOf hi])).map _
  have s1 : (sortI (nInts gr)).Pairwise (· ≤ ·) := by
    have := List.pairwise_mergeSort (le := fun x y : Int => decide (x ≤ y)) (fun a b c h h' => by simp at *; omega) (fun a b => by simp; omega) (nInts gr)
    exact this.imp (fun h => by simpa using h)
  have s2 : (nInts (compOf X Y m i)).Pairwise (· ≤ ·) := by
    unfold nInts
    rw [List.pairwise_map]
    exact compOf_sorted.imp (fun h => by omega)
  exact List.Perm.eq_of_pairwise (fun a b _ _ h h' => by omega) s1 s2 ((List.mergeSort_perm _ _).trans hp)
theorem compsTo_len {m : Nat → Int} {n : Nat} : (compsTo X Y m n).length ≤ n := by
  unfold compsTo
  rw [List.length_map]
  have := List.length_filter_le (isFirst X Y m) (List.range n)
  simpa using this
theorem groups_eq (hX : f.NX = (X : Int)) (hY : f.NY = (Y : Int)) (h1 : 1 ≤ X ∧ X ≤ 64) (h2 : 1 ≤ Y ∧ Y ≤ 64) (hp : p.length = X * Y) : model_groups f p = some (comps X Y (mAt p)) := by
  have hn : X * Y ≤ 64 * 64 := Nat.mul_le_mul h1.2 h2.2
  obtain ⟨t, ht, hR⟩ := lfix_ind (B := model_groups_l4 p f) (fun s => X * Y - s.2.2.toNat)
    (fun s => ∃ (i : Nat) (seen : List Bool), s = (seen, compsTo X Y (mAt p) i, (i : Int)) ∧ i ≤ X * Y ∧ seen.length = X * Y ∧ ∀ j, sb seen j = true ↔ ∃ k, k < i ∧ mAt p k ≠ 0 ∧ Reach X Y (mAt p) k j)
    (fun t => t = comps X Y (mAt p)) (by
      rintro s ⟨i, seen, rfl, hi, hsl, hsb⟩
      unfold model_groups_l4
      simp only [jn_d, hp]
      by_cases hlt : i < X * Y
      · left
        rw [if_pos (by omega), idx_m (by omega), bnd_s, idx_s (by omega), bnd_s, bnd_s, w64_succ (by omega)]
        have hcl := compsTo_len (X := X) (Y := Y) (m := mAt p) (n := i)
        by_cases hm : mAt p i = 0
        · refine ⟨(seen, compsTo X Y (mAt p) (i + 1), ((i + 1 : Nat) : Int)), ?_, ⟨i + 1, seen, rfl, by omega, hsl, fun j => ?_⟩, by simp only [Int.toNat_natCast]; omega⟩
          · rw [if_pos hm, if_pos trivial, compsTo_succ, if_neg (fun h => (isFirst_iff.1 h).1 hm), List.append_nil]
          · rw [hsb j]
            exact ⟨fun ⟨k, a, b, c⟩ => ⟨k, by omega, b, c⟩, fun ⟨k, a, b, c⟩ => ⟨k, by rcases Nat.lt_or_ge k i with h | h; exact h; exfalso; obtain rfl : k = i := (by omega); exact b hm, b, c⟩⟩
        · rw [if_neg hm]
          by_cases hs : sb seen i = true
          · obtain ⟨k0, ka, kb, kc⟩ := (hsb i).1 hs
            refine ⟨(seen, compsTo X Y (mAt p) (i + 1), ((i + 1 : Nat) : Int)), ?_, ⟨i + 1, seen, rfl, by omega, hsl, fun j => ?_⟩, by simp only [Int.toNat_natCast]; omega⟩
            · rw [if_pos hs, compsTo_succ, if_neg (fun h => (isFirst_iff.1 h).2 k0 ka (kc.symm (by omega))), List.append_nil]
            · rw [hsb j]
              exact ⟨fun ⟨k, a, b, c⟩ => ⟨k, by omega, b, c⟩, fun ⟨k, a, b, c⟩ => by
                rcases Nat.lt_or_ge k i with h | h
                · exact ⟨k, h, b, c⟩
                · obtain rfl : k = i := by omega
                  exact ⟨k0, ka, kb, kc.trans c⟩⟩
          · have hs' : sb seen i = false := by simpa using hs
            have h0 : ∀ j, Reach X Y (mAt p) i j → sb seen j = false := fun j hj => by
              cases hq : sb seen j
              · rfl
              · obtain ⟨k, a, b, c⟩ := (hsb j).1 hq
                have := (hsb i).2 ⟨k, a, b, c.trans (hj.symm hlt)⟩
                rw [hs'] at this; cases this
            have hfirst : isFirst X Y (mAt p) i = true := isFirst_iff.2 ⟨hm, fun j hj hr => by
              have := (hsb i).2 ⟨j, hj, by rw [hr.mark]; exact hm, hr.symm hlt⟩
              rw [hs'] at this; cases this⟩
            obtain ⟨seenF, gr, hL, q1, q2, q3, q4⟩ := l10_runs hX hY h1 h2 hp hlt seen hsl h0
            have hgl : gr.length ≤ X * Y := nodup_bd q2 (fun x hx => ((q3 x).1 hx).lt hlt)
            refine ⟨(seenF, compsTo X Y (mAt p) (i + 1), ((i + 1 : Nat) : Int)), ?_, ⟨i + 1, seenF, rfl, by omega, q1, fun j => ?_⟩, by simp only [Int.toNat_natCast]; omega⟩
            · rw [if_neg hs, hL, bnd_s]
              simp only [nInts_len]
              rw [gd_t (by omega), gd_t (by omega), sort_comp hlt q2 q3, compsTo_succ, if_pos hfirst]
            · rw [q4 j, hsb j]
              exact ⟨fun h => by
                rcases h with ⟨k, a, b, c⟩ | h
                · exact ⟨k, by omega, b, c⟩
                · exact ⟨i, by omega, hm, h⟩, fun ⟨k, a, b, c⟩ => by
                rcases Nat.lt_or_ge k i with h | h
                · exact .inl ⟨k, h, b, c⟩
                · obtain rfl : k = i := by omega
                  exact .inr c⟩
      · right
        obtain rfl : i = X * Y := by omega
        rw [if_neg (by omega)]
        exact ⟨_, rfl, rfl⟩)
    (List.replicate (X * Y) false, compsTo X Y (mAt p) 0, ((0 : Nat) : Int)) ⟨0, _, rfl, by omega, by simp, fun j => ⟨fun h => by simp [sb, List.getD_eq_getElem?_getD, List.getElem?_replicate] at h; split at h <;> simp at h, fun ⟨k, a, _⟩ => by omega⟩⟩
  unfold model_groups
  simp only [jn_d, hp, Int.toNat_natCast]
  have ht' : lfix (model_groups_l4 p f) (List.replicate (X * Y) false, [], 0) = some t := ht
  rw [gd_t ⟨by omega, by omega⟩, ht', bnd_s, hR]
end

end Go.Proofs.Ytdcdabkoajhllaa
