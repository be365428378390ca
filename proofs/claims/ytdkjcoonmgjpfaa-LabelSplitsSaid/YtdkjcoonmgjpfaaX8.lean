/- LabelCorrects, LabelSplits in plain Lean. -/
import Derived.Test.YtdkjcoonmgjpfaaX5
import Derived.Test.YtdkjcoonmgjpfaaJ6
namespace Go.Proofs.Ytdkjcoonmgjpfaa
open Go Go.RowKit
def isCl (n : Int) : Bool := decide (n = 0 ∨ n = 1 ∨ n = 2 ∨ n = 5 ∨ n = 6 ∨ n = 7)
theorem isClass_eq (n : Int) : label_isClass n = some (isCl n) := by
  simp only [label_isClass, jn_d, isCl]; grind
theorem class_eq' (n : Int) : lidarref07_class n = some (isCl n) := by
  simp only [lidarref07_class, jn_d, isCl]; grind
def okEdit (e : S_api_Edit) : Bool := isCl e.To && (decide (e.Ring.length = 0) || okRing e.Ring && (decide (e.From = -1) || isCl e.From))
theorem validEdits_eq (l : List S_api_Edit) : label_validEdits l = some (if 64 < l.length then 2 else if l.all okEdit = true then 0 else 73) := by
  unfold label_validEdits
  by_cases h : 64 < l.length
  · rw [if_pos (by omega), if_pos h]
  · rw [if_neg (by omega), if_neg h, jn_d]
    rw [lfix_all (β := Unit) (γ := Int) l okEdit (label_validEdits_l4 l) () 73 ?_ ?_, bnd_s]
    · by_cases hk : l.all okEdit = true <;> simp [hk]
    · intro j hj
      simp only [label_validEdits_l4, if_pos (show (j : Int) < ((l.length : Nat) : Int) by omega), idx_nat hj, bnd_s, jn_d, validRing_eq, isClass_eq, w64_succ (show j < 9223372036854775807 by omega)]
      generalize l[j] = e
      unfold okEdit
      by_cases h0 : e.Ring.length = 0
      · rw [if_neg (by omega)]
        cases isCl e.To <;> simp [h0]
      · rw [if_pos (by omega)]
        have hp : (0 : Int) < ((e.Ring.length : Nat) : Int) := by omega
        by_cases h1 : e.From = -1 <;> cases okRing e.Ring <;> cases isCl e.To <;> cases isCl e.From <;> simp [h0, h1, hp]
        all_goals (try omega)
    · simp only [label_validEdits_l4, Int.lt_irrefl, if_false]
theorem rvalidEdits_eq {l : List S_api_Edit} (hl : l.length ≤ 100) (hr : ∀ e ∈ l, e.Ring.length ≤ 200) : lfix (lidarref07_Correct_l6 l) 0 = some (if l.all okEdit = true then .inl () else .inr ([], 73)) := by
  refine lfix_all l okEdit (lidarref07_Correct_l6 l) () ([], 73) ?_ ?_
  · intro j hj
    have hre := hr _ (List.getElem_mem hj)
    simp only [lidarref07_Correct_l6, if_pos (show (j : Int) < ((l.length : Nat) : Int) by omega), idx_nat hj, bnd_s, jn_d, ring_eq (show l[j].Ring.length ≤ 1000 by omega), class_eq', w64_succ (show j < 9223372036854775807 by omega)]
    generalize l[j] = e
    unfold okEdit
    by_cases h0 : e.Ring.length = 0
    · rw [if_neg (show ¬ (0 : Int) < ((e.Ring.length : Nat) : Int) by omega)]
      cases isCl e.To <;> simp [h0]
    · rw [if_pos (show (0 : Int) < ((e.Ring.length : Nat) : Int) by omega)]
      by_cases h1 : e.From = -1 <;> cases okRing e.Ring <;> cases isCl e.To <;> cases isCl e.From <;> simp [h0, h1]
  · simp only [lidarref07_Correct_l6, Int.lt_irrefl, if_false]
/-- Whether an edit changes a point. -/
def appB (p : S_api_Point) (c : Int) (e : S_api_Edit) : Bool := if e.Ring.length = 0 then decide (e.Id = p.Id) else decide (e.From = -1 ∨ e.From = c) && insB ⟨p.X, p.Y⟩ (sides e.Ring)
def editF (p : S_api_Point) (c : Int) (e : S_api_Edit) : Int := if appB p c e = true then e.To else c
def outC (l : List S_api_Point) (cl : List Int) (es : List S_api_Edit) : List Int := (l.zip cl).map fun x => es.foldl (editF x.1) x.2
theorem okXY_pt {p : S_api_Point} (h : okPt p = true) : okXY ⟨p.X, p.Y⟩ = true := by
  have := okPt_rng h
  simp only [okXY, decide_eq_true_eq]; omega
theorem applies_eq {e : S_api_Edit} (he : okEdit e = true) {p : S_api_Point} (hp : okPt p = true) (c : Int) : label_applies e p c = some (appB p c e) := by
  simp only [label_applies, jn_d, label_place, bnd_s, appB]
  by_cases h0 : e.Ring.length = 0
  · rw [if_pos (by omega), if_pos h0]
  · rw [if_neg (by omega), if_neg h0]
    have hr : okRing e.Ring = true := by
      simp only [okEdit, h0, decide_false, Bool.false_or, Bool.and_eq_true] at he
      exact he.2.1
    obtain ⟨h1, h2, h3⟩ := okRing_spec hr
    rw [inRing_eq h3 (by omega) (by omega) (okXY_pt hp), bnd_s]
    by_cases c1 : e.From = -1 <;> by_cases c2 : e.From = c <;> simp [c1, c2]
    all_goals (try (intro h; omega))
    all_goals (try omega)
theorem foldl_set (p : S_api_Point) (i : Nat) : ∀ (es : List S_api_Edit) (out : List Int) (hi : i < out.length),
    es.foldl (fun o e => if appB p (o.getD i 0) e = true then o.set i e.To else o) out = out.set i (es.foldl (editF p) (out[i]))
  | [], out, hi => by simp
  | e :: r, out, hi => by
    rw [List.foldl_cons, List.foldl_cons]
    have hg : out.getD i 0 = out[i] := by rw [List.getD_eq_getElem?_getD, List.getElem?_eq_getElem hi]; rfl
    rw [hg]
    unfold editF
    by_cases h : appB p out[i] e = true
    · rw [if_pos h, if_pos h]
      have := foldl_set p i r (out.set i e.To) (by simpa using hi)
      rw [this]; simp [editF]
      rfl
    · rw [if_neg h, if_neg h]
      exact foldl_set p i r out hi
theorem corrected_eq {l : List S_api_Point} (hf : Fit l) {cl : List Int} (hc : cl.length = l.length) {es : List S_api_Edit} (hes : es.length ≤ 100) (hok : ∀ e ∈ es, okEdit e = true) : label_corrected l cl es = some (outC l cl es) := by
  have hn := hf.n
  unfold label_corrected clone_Int
  rw [gd_t (by omega), bnd_s, jn_d]
  have inner : ∀ (i : Nat) (hi : i < l.length) (out : List Int) (ho : out.length = l.length), lfix (label_corrected_l6 es (out, (i : Int)) l[i]) (out, 0) = some (out.set i (es.foldl (editF l[i]) (out[i]'(by omega)))) := by
    intro i hi out ho
    have hp := hf.ok _ (List.getElem_mem hi)
    have key := lfix_foldE es (fun (s : List Int) (j : Int) => (s, j)) (fun o e => .inl (if appB l[i] (o.getD i 0) e = true then o.set i e.To else o)) (id : List Int → List Int) (label_corrected_l6 es (out, (i : Int)) l[i]) (fun _ o => o.length = l.length) ?_ ?_ out ho
    · rw [key, foldE_foldl, foldl_set l[i] i es out (by omega)]; rfl
    · intro j hj o hC
      left
      have hio : i < o.length := by omega
      have hg : o.getD i 0 = o[i] := by rw [List.getD_eq_getElem?_getD, List.getElem?_eq_getElem hio]; rfl
      refine ⟨_, rfl, ?_, by split <;> simp [hC]⟩
      simp only [label_corrected_l6, if_pos (show (j : Int) < ((es.length : Nat) : Int) by omega), jn_d, idx_nat hj, idx_nat hio, bnd_s, applies_eq (hok _ (List.getElem_mem hj)) hp, setI_nat, hg, w64_succ (show j < 9223372036854775807 by omega)]
      split <;> rfl
    · intro o _
      simp only [label_corrected_l6, Int.lt_irrefl, if_false, id]
  refine Exists.elim (lfix_ind (B := label_corrected_l3 l es) (fun z => l.length - z.2.toNat) (fun z => ∃ j : Nat, z.2 = (j : Int) ∧ j ≤ l.length ∧ z.1 = (outC l cl es).take j ++ cl.drop j) (fun t => t = outC l cl es) ?_ (cl, 0) ⟨0, rfl, Nat.zero_le _, by simp⟩) (fun t ht => ?_)
  · rintro ⟨o, z⟩ ⟨j, rfl, hj, ho⟩
    dsimp only at ho
    have hol : (outC l cl es).length = l.length := by simp [outC, hc]
    rcases Nat.lt_or_ge j l.length with hlt | hge
    · left
      have hlen : o.length = l.length := by rw [ho]; simp [hol, hc]; omega
      have hcl : j < cl.length := by omega
      have hget : o[j]'(by omega) = cl[j] := by
        subst ho
        rw [List.getElem_append_right (by simp [hol]; omega)]
        simp [hol, Nat.min_eq_left (Nat.le_of_lt hlt)]
      refine ⟨(o.set j (es.foldl (editF l[j]) cl[j]), ((j + 1 : Nat) : Int)), ?_, ⟨j + 1, rfl, hlt, ?_⟩, by simp; omega⟩
      · have := inner j hlt o hlen
        rw [hget] at this
        simp only [label_corrected_l3, if_pos (show (j : Int) < ((l.length : Nat) : Int) by omega), jn_d, idx_nat hlt, bnd_s, this, w64_succ (show j < 9223372036854775807 by omega)]
      · dsimp only
        have h1 : ((outC l cl es).take j).length = j := by simp [hol]; omega
        rw [ho, List.set_append_right _ _ (by omega), h1, Nat.sub_self, List.drop_eq_getElem_cons hcl, List.set_cons_zero]
        have h2 : (outC l cl es).take (j + 1) = (outC l cl es).take j ++ [es.foldl (editF l[j]) cl[j]] := by
          rw [List.take_add_one, List.getElem?_eq_getElem (by omega)]
          simp [outC]
        rw [h2, List.append_assoc]; rfl
    · right
      obtain rfl : j = l.length := by omega
      refine ⟨o, by simp only [label_corrected_l3, Int.lt_irrefl, if_false], ?_⟩
      rw [ho, ← hol, List.take_length, hol, ← hc, List.drop_length, List.append_nil]
  · rw [ht.1, bnd_s, ht.2]
def corrS (l : List S_api_Point) (cl : List Int) (es : List S_api_Edit) : List Int × Int :=
  if validL l = true then (if cl.length = l.length ∧ es.length ≤ 64 then (if es.all okEdit = true then (outC l cl es, 0) else ([], 73)) else ([], 2)) else ([], 70)
theorem Correct_eq (l : List S_api_Point) (cl : List Int) (es : List S_api_Edit) : label_Correct l cl es = some (corrS l cl es) := by
  simp only [label_Correct, valid_eq, bnd_s, validEdits_eq, corrS]
  by_cases hl : validL l = true
  · by_cases hc : cl.length = l.length
    · by_cases he : es.length ≤ 64
      · have h64 : ¬ 64 < es.length := by omega
        by_cases hk : es.all okEdit = true
        · simp only [hl, if_true, hc, h64, if_false, hk, corrected_eq (Fit.of hl) hc (show es.length ≤ 100 by omega) (fun e hm => List.all_eq_true.1 hk e hm), bnd_s, he, and_self]
        · simp [hl, hc, h64, hk, he]
      · have h64 : 64 < es.length := by omega
        simp [hl, hc, h64, he]
    · have : ¬ ((cl.length : Nat) : Int) = ((l.length : Nat) : Int) := by omega
      simp only [hl, if_true, if_neg this, hc, false_and, if_false]
  · simp [hl]
theorem rcorr_inner {l : List S_api_Point} (hf : Fit l) {es : List S_api_Edit} (hes : es.length ≤ 100) (hok : ∀ e ∈ es, okEdit e = true) (hr : ∀ e ∈ es, e.Ring.length ≤ 200) (acc : List Int) {i : Nat} (hi : i < l.length) (c : Int) :
    lfix (lidarref07_Correct_l17 es l (acc, (i : Int))) (c, 0) = some (es.foldl (editF l[i]) c) := by
  have hp := hf.ok _ (List.getElem_mem hi)
  have key := lfix_foldE es (fun (s : Int) (j : Int) => (s, j)) (fun c e => .inl (editF l[i] c e)) (id : Int → Int) (lidarref07_Correct_l17 es l (acc, (i : Int))) (fun _ _ => True) ?_ ?_ c trivial
  · rw [key, foldE_foldl]; rfl
  · intro j hj c _
    left
    refine ⟨_, rfl, ?_, trivial⟩
    have hre := hr _ (List.getElem_mem hj)
    have hoe := hok _ (List.getElem_mem hj)
    have hxy : (⟨l[i].X, l[i].Y⟩ : S_api_XY) = ⟨l[i].X, l[i].Y⟩ := rfl
    simp only [lidarref07_Correct_l17, if_pos (show (j : Int) < ((es.length : Nat) : Int) by omega), jn_d, idx_nat hj, idx_nat hi, bnd_s, rWithin_eq (show es[j].Ring.length ≤ 1000 by omega), w64_succ (show j < 9223372036854775807 by omega)]
    unfold editF appB
    generalize es[j] = e at hre hoe ⊢
    by_cases h0 : e.Ring.length = 0
    · rw [if_pos (show ((e.Ring.length : Nat) : Int) = 0 by omega), if_pos h0]
      by_cases h1 : e.Id = l[i].Id <;> simp [h1]
    · rw [if_neg (show ¬ ((e.Ring.length : Nat) : Int) = 0 by omega), if_neg h0]
      have hrg : okRing e.Ring = true := by
        simp only [okEdit, h0, decide_false, Bool.false_or, Bool.and_eq_true] at hoe
        exact hoe.2.1
      have hw : withinS e.Ring ⟨l[i].X, l[i].Y⟩ = (insB ⟨l[i].X, l[i].Y⟩ (sides e.Ring), 0) := by unfold withinS; rw [if_pos hrg, if_pos (okXY_pt hp)]
      rw [hw]
      cases insB ⟨l[i].X, l[i].Y⟩ (sides e.Ring) <;> by_cases h1 : e.From = -1 <;> by_cases h2 : e.From = c <;> simp [h1, h2]
      all_goals (try omega)
  · intro s _
    simp only [lidarref07_Correct_l17, Int.lt_irrefl, if_false, id]
theorem rCorrect_eq (l : List S_api_Point) (cl : List Int) {es : List S_api_Edit} (hes : es.length ≤ 100) (hr : ∀ e ∈ es, e.Ring.length ≤ 200) : lidarref07_Correct l cl es = some (corrS l cl es) := by
  simp only [lidarref07_Correct, rvalid_eq, bnd_s, jn_d, rvalidEdits_eq hes hr, corrS]
  by_cases hl : validL l = true
  · have hf := Fit.of hl
    have hn := hf.n
    by_cases hc : cl.length = l.length
    · by_cases he : es.length ≤ 64
      · have h64 : ¬ (64 : Int) < ((es.length : Nat) : Int) := by omega
        by_cases hk : es.all okEdit = true
        · have hok : ∀ e ∈ es, okEdit e = true := fun e hm => List.all_eq_true.1 hk e hm
          have hol : (outC l cl es).length = l.length := by simp [outC, hc]
          simp only [hl, if_true, hc, h64, decide_false, Bool.false_eq_true, if_false, hk, he, and_self]
          refine Exists.elim (lfix_ind (B := lidarref07_Correct_l13 l cl es) (fun z => l.length - z.2.toNat) (fun z => ∃ j : Nat, z.2 = (j : Int) ∧ j ≤ l.length ∧ z.1 = (outC l cl es).take j) (fun t => t = outC l cl es) ?_ ([], 0) ⟨0, rfl, Nat.zero_le _, by simp⟩) (fun t ht => ?_)
          · rintro ⟨o, z⟩ ⟨j, rfl, hj, ho⟩
            dsimp only at ho
            rcases Nat.lt_or_ge j l.length with hlt | hge
            · left
              have hcl : j < cl.length := by omega
              have hlen : o.length = j := by rw [ho]; simp [hol]; omega
              refine ⟨(o ++ [es.foldl (editF l[j]) cl[j]], ((j + 1 : Nat) : Int)), ?_, ⟨j + 1, rfl, hlt, ?_⟩, by simp; omega⟩
              · simp only [lidarref07_Correct_l13, if_pos (show (j : Int) < ((l.length : Nat) : Int) by omega), jn_d, idx_nat hcl, bnd_s, rcorr_inner hf hes hok hr o hlt, gd_t (show (o.length + 1) * 8 ≤ 140737488355328 by omega), w64_succ (show j < 9223372036854775807 by omega)]
              · dsimp only
                have hj2 : j < (outC l cl es).length := by rw [hol]; exact hlt
                have e : (outC l cl es).take (j + 1) = (outC l cl es).take j ++ [(outC l cl es)[j]] := by rw [List.take_add_one, List.getElem?_eq_getElem hj2]; rfl
                rw [e, ← ho]
                congr 2
                simp [outC]
            · right
              obtain rfl : j = l.length := by omega
              refine ⟨o, by simp only [lidarref07_Correct_l13, Int.lt_irrefl, if_false], ?_⟩
              rw [ho, ← hol, List.take_length]
          · rw [ht.1, bnd_s, ht.2]
        · simp [hl, hc, h64, hk, he]
      · have h64 : (64 : Int) < ((es.length : Nat) : Int) := by omega
        simp [hl, hc, h64, he]
    · have : ¬ ((cl.length : Nat) : Int) = ((l.length : Nat) : Int) := by omega
      simp only [hl, if_true, if_neg this, hc, false_and, if_false]
  · simp [hl]
theorem large_eq (l : List S_api_Edit) : lidarlaw07_large l = some (!decide (l.length ≤ 100 ∧ ∀ e ∈ l, e.Ring.length ≤ 200)) := by
  unfold lidarlaw07_large
  by_cases h : 100 < l.length
  · have h' : ¬ l.length ≤ 100 := by omega
    rw [if_pos (by omega)]; simp [h']
  · have h' : l.length ≤ 100 := by omega
    rw [if_neg (by omega), jn_d]
    rw [lfix_all (β := Unit) (γ := Bool) l (fun e => decide (e.Ring.length ≤ 200)) (lidarlaw07_large_l4 l) () true ?_ ?_, bnd_s]
    · by_cases hk : ∀ e ∈ l, e.Ring.length ≤ 200
      · rw [if_pos (List.all_eq_true.2 fun e he => decide_eq_true (hk e he)), decide_eq_true ⟨h', hk⟩]; rfl
      · rw [if_neg (fun h' => hk fun e he => of_decide_eq_true (List.all_eq_true.1 h' e he)), decide_eq_false (fun h' => hk h'.2)]; rfl
    · intro j hj
      simp only [lidarlaw07_large_l4, if_pos (show (j : Int) < ((l.length : Nat) : Int) by omega), idx_nat hj, bnd_s, w64_succ (show j < 9223372036854775807 by omega)]
      by_cases h2 : l[j].Ring.length ≤ 200
      · rw [if_neg (by omega)]; simp [h2]
      · rw [if_pos (by omega)]; simp [h2]
    · simp only [lidarlaw07_large_l4, Int.lt_irrefl, if_false]
theorem corrS_len (l : List S_api_Point) (cl : List Int) (es : List S_api_Edit) : (corrS l cl es).1.length ≤ 1000000 := by
  unfold corrS
  split
  · rename_i hl
    have := (Fit.of hl).n
    split
    · split
      · simp [outC]; omega
      · simp
    · simp
  · simp
theorem labelCorrects_eq (l : List S_api_Point) (cl : List Int) (es : List S_api_Edit) : lidarlaw07_LabelCorrects l cl es = some true := by
  unfold lidarlaw07_LabelCorrects
  rw [jn_d, many_eq, bnd_s, large_eq, bnd_s]
  have hlast : ∀ b : Bool, b = false → l.length ≤ 1024 ∨ True := fun _ _ => .inr trivial
  by_cases h1 : decide (300 < l.length ∨ (40 : Int) < ((l.length : Nat) : Int) ∧ validL l = true) = true
  · rw [if_pos h1]; dsimp only; rw [if_pos rfl, first_eq]; rfl
  · rw [if_neg h1]
    by_cases h2 : (300 : Int) < ((cl.length : Nat) : Int)
    · rw [if_pos h2]; dsimp only; rw [if_pos rfl, first_eq]; rfl
    · rw [if_neg h2]
      by_cases h3 : es.length ≤ 100 ∧ ∀ e ∈ es, e.Ring.length ≤ 200
      · rw [decide_eq_true h3, Bool.not_true]; dsimp only; rw [if_neg (by simp), Correct_eq, bnd_s, rCorrect_eq l cl h3.1 h3.2, bnd_s, jn_d, sameInts_self (corrS_len l cl es), bnd_s, first_eq]
        simp [bnd_s]
      · rw [decide_eq_false h3, Bool.not_false]; dsimp only; rw [if_pos rfl, first_eq]; rfl
theorem labelSplits_eq (v : S_lidarlaw07_Splitting) (h : 0 ≤ v.At ∧ v.At ≤ 255) : lidarlaw07_LabelSplits v = some true := by
  obtain ⟨l, cl, es, t⟩ := v
  dsimp only at h
  unfold lidarlaw07_LabelSplits
  dsimp only
  rw [jn_d, rvalid_eq, bnd_s, large_eq, bnd_s]
  have hfirst : bnd lidarlaw07_first (fun r24 => some r24) = some true := by rw [first_eq]; rfl
  by_cases c1 : (40 : Int) < ((l.length : Nat) : Int)
  · rw [if_pos c1]; dsimp only; rw [if_pos rfl, hfirst]
  · rw [if_neg c1]
    by_cases c2 : validL l = true
    · rw [if_pos c2]
      by_cases c3 : ((cl.length : Nat) : Int) = ((l.length : Nat) : Int)
      · rw [if_pos c3]
        by_cases c4 : es.length ≤ 100 ∧ ∀ e ∈ es, e.Ring.length ≤ 200
        · rw [decide_eq_true c4, Bool.not_true, if_neg (by simp)]
          by_cases c5 : (64 : Int) < ((es.length : Nat) : Int)
          · rw [decide_eq_true c5]; dsimp only; rw [if_pos rfl, hfirst]
          · rw [decide_eq_false c5]; dsimp only; rw [if_neg (by simp)]
            have hc : cl.length = l.length := by omega
            have he : es.length ≤ 64 := by omega
            obtain ⟨n, hn⟩ : ∃ n : Nat, Int.tmod (w64 t) (w64 ((((es.length : Nat) : Int)) + 1)) = (n : Int) ∧ n ≤ es.length := by
              rw [w64_id (x := t) (by omega) (by omega), w64_succ (by omega), Int.tmod_eq_emod_of_nonneg h.1]
              refine ⟨t.toNat % (es.length + 1), ?_, by have := Nat.mod_lt t.toNat (show 0 < es.length + 1 by omega); omega⟩
              have : t = ((t.toNat : Nat) : Int) := by omega
              rw [this]; rfl
            have e1 : subl es 0 (n : Int) = es.take n := by simp [subl]
            have e2 : subl es (n : Int) ((es.length : Nat) : Int) = es.drop n := by simp [subl]
            rw [hn.1, gd_t (by rw [w64_succ (by omega)]; omega), Correct_eq, bnd_s, gd_t (by omega), e1, Correct_eq, bnd_s, gd_t (by omega), e2]
            by_cases hk : es.all okEdit = true
            · have hk1 : (es.take n).all okEdit = true := List.all_eq_true.2 fun e hm => List.all_eq_true.1 hk e (List.mem_of_mem_take hm)
              have hk2 : (es.drop n).all okEdit = true := List.all_eq_true.2 fun e hm => List.all_eq_true.1 hk e (List.mem_of_mem_drop hm)
              have r1 : corrS l cl es = (outC l cl es, 0) := by unfold corrS; rw [if_pos c2, if_pos ⟨hc, he⟩, if_pos hk]
              have r2 : corrS l cl (es.take n) = (outC l cl (es.take n), 0) := by unfold corrS; rw [if_pos c2, if_pos ⟨hc, by simp; omega⟩, if_pos hk1]
              have r3 : corrS l (outC l cl (es.take n)) (es.drop n) = (outC l cl es, 0) := by
                unfold corrS; rw [if_pos c2, if_pos ⟨by simp [outC, hc], by simp; omega⟩, if_pos hk2]
                congr 1
                unfold outC
                apply List.ext_getElem
                · simp [hc]
                · intro i h1 h2
                  simp only [List.getElem_map, List.getElem_zip]
                  rw [← List.foldl_append, List.take_append_drop]
              have hs : (outC l cl es).length ≤ 1000000 := by simp [outC]; omega
              have hsl : (((outC l cl es).length : Nat) : Int) = ((l.length : Nat) : Int) := by simp [outC, hc]
              rw [r1, r2]
              dsimp only
              rw [if_pos rfl, Correct_eq, bnd_s, r3, jn_d]
              dsimp only
              rw [if_pos rfl, if_pos rfl, sameInts_self hs, bnd_s, if_pos rfl, if_pos hsl, first_eq]; rfl
            · have r1 : corrS l cl es = ([], 73) := by unfold corrS; rw [if_pos c2, if_pos ⟨hc, he⟩, if_neg hk]
              rw [r1]
              dsimp only
              rw [if_neg (by omega), jn_d, if_pos rfl, first_eq]; rfl
        · rw [decide_eq_false c4, Bool.not_false, if_pos rfl]; dsimp only; rw [if_pos rfl, hfirst]
      · rw [if_neg c3]; dsimp only; rw [if_pos rfl, hfirst]
    · rw [if_neg c2]; dsimp only; rw [if_pos rfl, hfirst]
end Go.Proofs.Ytdkjcoonmgjpfaa
