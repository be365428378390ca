/- Walks of the program, with their plain functions: hulls. -/
import Derived.Test.YtlkgeeppfifeeaaGreatD5
namespace Go.Proofs.YtlkgeeppfifeeaaGreat
open Go Go.RowKit

noncomputable def mesh_half_l5 (p0 : List S_api_Vertex) (x193 : Int) : (List Int) → Option (Sum (List Int) (List Int)) := fun s285 =>
 jn (fun (s22 : Bool) =>
 if s22 = true then (gd (0 ≤ (w64 (((((s285).length : Nat) : Int)) - 1)) ∧ (w64 (((((s285).length : Nat) : Int)) - 1)) ≤ (((s285).length : Nat) : Int)) <|
 some (.inl (List.take (Int.toNat (w64 (((((s285).length : Nat) : Int)) - 1))) s285)))
 else (some (.inr s285)))
 (fun j22 => if 1 < ((((s285).length : Nat) : Int)) then (bnd (idx s285 (w64 (((((s285).length : Nat) : Int)) - 2))) fun x288 =>
 bnd (idx p0 x288) fun x299 =>
 bnd (idx s285 (w64 (((((s285).length : Nat) : Int)) - 1))) fun x310 =>
 bnd (idx p0 x310) fun x321 =>
 bnd (idx p0 x193) fun x332 =>
 bnd (mesh_at x299) fun r343 =>
 bnd (mesh_at x321) fun r346 =>
 bnd (mesh_at x332) fun r349 =>
 bnd (mesh_turn r343 r346 r349) fun r352 =>
 j22 (decide (r352 ≤ 0)))
 else (j22 false))
noncomputable def mesh_half_l3 (p1 : List Int) (p0 : List S_api_Vertex) : ((List Int) × Int) → Option (Sum ((List Int) × Int) (List Int)) := fun s188 =>
 if s188.2 < ((((p1).length : Nat) : Int)) then (bnd (idx p1 s188.2) fun x193 =>
 jn (fun (s18 : List Int) =>
 gd (((s18).length + 1) * 8 ≤ 140737488355328) <|
 some (.inl (s18 ++ [x193], w64 (s188.2 + 1))))
 (fun j18 => bnd (lfix (mesh_half_l5 p0 x193) s188.1) fun t285 =>
 j18 t285))
 else (some (.inr s188.1))
noncomputable def mesh_half (p0 : List S_api_Vertex) (p1 : List Int) : Option (List Int) :=
 jn (fun (s3 : List Int) =>
 gd (0 ≤ (w64 (((((s3).length : Nat) : Int)) - 1)) ∧ (w64 (((((s3).length : Nat) : Int)) - 1)) ≤ (((s3).length : Nat) : Int)) <|
 some (subl s3 0 (w64 (((((s3).length : Nat) : Int)) - 1))))
 (fun j3 => bnd (lfix (mesh_half_l3 p1 p0) (([] : List Int), 0)) fun t188 =>
 j3 t188)
def rev_l1 : ((List Int) × Int × Int) → Option (Sum ((List Int) × Int × Int) (List Int)) := fun s49 =>
 if s49.2.1 < s49.2.2 then (bnd (idx s49.1 s49.2.2) fun x53 =>
 bnd (idx s49.1 s49.2.1) fun x64 =>
 bnd (idx s49.1 s49.2.1) fun x75 =>
 bnd (idx (setI s49.1 s49.2.1 x53) s49.2.2) fun x86 =>
 some (.inl (setI (setI s49.1 s49.2.1 x53) s49.2.2 x64, w64 (s49.2.1 + 1), w64 (s49.2.2 - 1))))
 else (some (.inr s49.1))
theorem rev_run (l : List Int) (hb : l.length ≤ 1000000) : ∃ t, lfix rev_l1 (l, 0, w64 ((l.length : Int) - 1)) = some t ∧ t = l.reverse := by
  rw [w64_id (by omega) (by omega)]
  refine lfix_ind (fun s => Int.toNat (s.2.2 - s.2.1 + 1)) (fun s => s.1.length = l.length ∧ ∃ i : Nat, s.2.1 = (i : Int) ∧ s.2.2 = (l.length : Int) - 1 - i ∧ 2 * i ≤ l.length + 1 ∧ ∀ k (h : k < l.length), s.1[k]? = if k < i ∨ l.length ≤ k + i then l[l.length - 1 - k]? else l[k]?) (fun t => t = l.reverse) ?_ (l, 0, (l.length : Int) - 1) ⟨rfl, 0, rfl, by simp, by omega, fun k h => by rw [if_neg (by omega)]⟩
  rintro ⟨m, a, b⟩ ⟨hl, i, h1, h2, h3, hk⟩
  simp only at hl h1 h2 hk
  subst h1 h2
  unfold rev_l1
  simp only
  by_cases hlt : (i : Int) < (l.length : Int) - 1 - i
  · rw [if_pos hlt]
    left
    have e1 : (l.length : Int) - 1 - i = ((l.length - 1 - i : Nat) : Int) := by omega
    have hi : i < m.length := by omega
    have hj : l.length - 1 - i < m.length := by omega
    rw [e1, idx_nat hj, idx_nat hi]
    simp only [bnd, setI_nat]
    rw [idx_nat (by simpa using hj)]
    simp only
    refine ⟨_, rfl, ⟨by simp [hl], i + 1, ?_, ?_, by omega, fun k h => ?_⟩, ?_⟩
    · dsimp only; rw [w64_id (by omega) (by omega)]; omega
    · dsimp only; rw [w64_id (by omega) (by omega)]; omega
    · have hki := hk k h
      have hii := hk i (by omega)
      have hjj := hk (l.length - 1 - i) (by omega)
      rw [if_neg (by omega)] at hii hjj
      rw [List.getElem?_eq_getElem hi] at hii
      rw [List.getElem?_eq_getElem hj] at hjj
      rw [List.getElem?_set, List.getElem?_set]
      by_cases c1 : l.length - 1 - i = k
      · rw [if_pos c1, if_pos (by simpa using hj), if_pos (by omega)]
        rw [hii]; congr 1; omega
      · rw [if_neg c1]
        by_cases c2 : i = k
        · rw [if_pos c2, if_pos hi, if_pos (by omega), hjj]; congr 1; omega
        · rw [if_neg c2, hki]
          by_cases c3 : k < i ∨ l.length ≤ k + i
          · rw [if_pos c3, if_pos (by omega)]
          · rw [if_neg c3, if_neg (by omega)]
    · dsimp only
      rw [w64_id (by omega) (by omega), w64_id (by omega) (by omega)]
      omega
  · rw [if_neg hlt]
    right
    refine ⟨_, rfl, ?_⟩
    apply List.ext_getElem?
    intro k
    by_cases h : k < l.length
    · rw [hk k h, List.getElem?_reverse h]
      split
      · rfl
      · congr 1; omega
    · rw [List.getElem?_eq_none (by omega), List.getElem?_eq_none (by rw [List.length_reverse]; omega)]
set_option maxRecDepth 100000 in
theorem reverse_ok (p0 : List Int) {B0_0 : Option Addr} {m0 d0_0 : Nat} (hm : p0.length = m0) {K : List Ent} (hb : p0.length ≤ 1000000) : CtK Tryz.prog 51 [.slice (B0_0) m0 (d0_0)] K [.r (B0_0) m0 (d0_0) 3 1 ((p0).flatMap e_i64)] fun v Ln => v = .tuple #[] ∧ Ln = [.r (B0_0) m0 (d0_0) 3 1 ((p0.reverse).flatMap e_i64)] ∧ True := by
  subst hm
  refine CtK.mk 28 Tryz.func51 rfl Tryz.ntmps51 (by kernel_rfl) rfl ?_
  intro Lf hKf
  show T 28 _ [(0, .slice (B0_0) ((p0).length) (d0_0))] ([.r (B0_0) ((p0).length) (d0_0) 3 1 ((p0).flatMap e_i64)] ++ Lf)
  obtain ⟨t49, hl49, ho49⟩ := rev_run p0 hb
  refine T_seq ?_
  refine T_reg ?_
  refine T_val (Ev_move rfl) rfl ?_
  refine T_val (Ev_len rfl 3 Tryz.underlying58) rfl ?_
  refine T_val (Ev_sub_w64 rfl rfl) rfl ?_
  refine T_val (Ev_assign rfl) rfl ?_
  refine T_val (Ev_assign rfl) rfl ?_
  refine T_nil ?_
  refine T_next ?_
  refine T_block ?_
  refine T_loopP (σ := (List Int) × Int × Int) (γ := Unit) hl49 (fun s49 y49 => [(0, .slice (B0_0) ((p0).length) (d0_0)), (2, .int .i64 (s49.2.1)), (3, .int .i64 (s49.2.2))]) (fun s49 y49 => [.r (B0_0) ((p0).length) (d0_0) 3 1 ((s49.1).flatMap e_i64)] ++ Lf) (fun s49 y49 => True) () trivial (by exact .cons rfl (.cons rfl (.cons rfl (.nil)))) (by exact .pick 0 rfl (.refl)) ?_
  intro s49 y49 hG49 x49 hx49 ht49
  unfold rev_l1 at hx49
  refine T_seq ?_
  refine T_seq ?_
  refine T_reg ?_
  refine T_val (Ev_move rfl) rfl ?_
  refine T_val (Ev_move rfl) rfl ?_
  refine T_val (Ev_lss rfl rfl) rfl ?_
  refine T_nil ?_
  refine T_next ?_
  refine T_caseP (s := 9) rfl (fun h50 => ?_) (fun h50 => ?_)
  · have hx51 := ite_t h50 hx49
    refine T_condT rfl ?_
    refine T_skip ?_
    refine T_next ?_
    refine T_seq ?_
    refine T_block ?_
    refine T_draw [0, 0, 0, 0, 0, 0, 0, 1, 0, 0, 0, 1, 0, 3, 0, 3] [[], [], [], [], [], [], [4, 5], [4, 5, 6], [], [], [8, 9], [8, 9, 10], [0, 1, 4, 5, 6, 7, 8, 9, 10, 11], [0, 1, 4, 5, 6, 7, 8, 9, 10, 11, 12], [0, 1, 2, 3, 4, 5, 6, 7, 8, 9, 10, 11, 12, 13], [0, 1, 2, 3, 4, 5, 6, 7, 8, 9, 10, 11, 12, 13, 14]] (.q 0 (.q 1 (.q 2 (.q 3 (.q 4 (.q 5 (.q 6 (.q 7 (.q 8 (.q 9 (.q 10 (.q 11 (.q 12 (.e 13 (.q 14 (.e 15 (.done) (.stop))) (.stop))))))))))))))) mixed (by kernel_rfl) (by kernel_rfl) ?_
    refine P_p rfl rfl (Ev_move rfl) rfl ?_
    refine P_p rfl rfl (Ev_move rfl) rfl ?_
    refine P_p rfl rfl (Ev_move rfl) rfl ?_
    refine P_p rfl rfl (Ev_move rfl) rfl ?_
    refine P_p rfl rfl (Ev_move rfl) rfl ?_
    refine P_p rfl rfl (Ev_move rfl) rfl ?_
    obtain ⟨x53, h54, hx55⟩ := bnd_some hx51
    refine T_idxR (k := 0) rfl (by decide) (fun _ => rfl) h54 (fun b56 j58 hA59 hj60 hl61 hm63 hp62 => ?_)
    refine P_p rfl rfl (Ev_index rfl rfl hA59 (j := j58) hj60 hl61 slc58) rfl ?_
    refine P_q rfl rfl (Ev_loadP0 rfl hp62 (SubE.cons2 (i := 0) rfl (SubE.nil)) rfl one3) rfl ?_
    refine P_p rfl rfl (Ev_move rfl) rfl ?_
    refine P_p rfl rfl (Ev_move rfl) rfl ?_
    obtain ⟨x64, h65, hx66⟩ := bnd_some hx55
    refine T_idxR (k := 0) rfl (by decide) (fun _ => rfl) h65 (fun b67 j69 hA70 hj71 hl72 hm74 hp73 => ?_)
    refine P_p rfl rfl (Ev_index rfl rfl hA70 (j := j69) hj71 hl72 slc58) rfl ?_
    refine P_q rfl rfl (Ev_loadP0 rfl hp73 (SubE.cons2 (i := 0) rfl (SubE.nil)) rfl one3) rfl ?_
    obtain ⟨x75, h76, hx77⟩ := bnd_some hx66
    refine T_idxR (k := 0) rfl (by decide) (fun _ => rfl) h76 (fun b78 j80 hA81 hj82 hl83 hm85 hp84 => ?_)
    refine P_p rfl rfl (Ev_index rfl rfl hA81 (j := j80) hj82 hl83 slc58) rfl ?_
    refine P_h rfl rfl (Wh_storeP e_i64 (s49.1) (s49.2.1) (x53) rfl rfl rfl (.here) hA81 rfl hj82 hl83 (fun _ => rfl) (by decide) rfl one3.2 ?_) ?_
    rotate_left; exact P_stop
    obtain ⟨x86, h87, hx88⟩ := bnd_some hx77
    refine T_idxR (k := 0) rfl (by decide) (fun _ => rfl) h87 (fun b89 j91 hA92 hj93 hl94 hm96 hp95 => ?_)
    refine P_p rfl rfl (Ev_index rfl rfl hA92 (j := j91) hj93 hl94 slc58) rfl ?_
    refine P_h rfl rfl (Wh_storeP e_i64 (setI s49.1 s49.2.1 x53) (s49.2.2) (x64) rfl rfl rfl (.here) hA92 rfl hj93 hl94 (fun _ => rfl) (by decide) rfl one3.2 ?_) ?_
    rotate_left; exact P_stop
    refine P_done ?_
    refine T_inN ?_
    refine T_next ?_
    refine T_reg ?_
    refine T_val (Ev_move rfl) rfl ?_
    refine T_val (Ev_add_w64 rfl rfl) rfl ?_
    refine T_val (Ev_move rfl) rfl ?_
    refine T_val (Ev_sub_w64 rfl rfl) rfl ?_
    refine T_val (Ev_assign rfl) rfl ?_
    refine T_val (Ev_assign rfl) rfl ?_
    refine T_nil ?_
    exact T_roundP (setI (setI s49.1 s49.2.1 x53) s49.2.2 x64, w64 (s49.2.1 + 1), w64 (s49.2.2 - 1)) () hx88 trivial (by exact .cons rfl (.cons rfl (.cons rfl (.nil)))) (by exact .pick 0 rfl (.refl))
  · have hx52 := ite_f h50 hx49
    refine T_condF rfl ?_
    refine T_exit ?_
    refine T_outX ?_
    obtain rfl := exit_eq ht49 hx52
    refine T_outX ?_
    refine T_here ?_
    exact T_endK (rs := []) Tryz.results51 (.nil) (Ln := [.r (B0_0) ((p0).length) (d0_0) 3 1 ((s49.1).flatMap e_i64)]) ⟨rfl, by rw [ho49], trivial⟩ (.pick 0 rfl .refl)
theorem Wh_reverse {n : Nat} {N : Act → World → Prop} {Q : Exit → Act → World → Prop} {fr : List (Nat × Value)} {L L' : List Ent} (l : List Int) {d i m c : Nat} {A : Option Addr} {xs : List Operand} {ts : Array TypeId} {ty' : TypeId} {pos : String} {after : Array Edge} {guard : Option (Nat × Bool)}
    (hx : evos fr xs = some [.slice A m c]) (hb : l.length ≤ 1000000) (hL : SetE L i (.r A m c 3 1 (l.flatMap e_i64)) (.r A m c 3 1 ((l.reverse).flatMap e_i64)) L') (hd : Nat.blt d n = true)
    (k : T n N ((d, .tuple #[]) :: fr) L') : Wh Tryz.prog Q n ⟨some d, .call ⟨.value (.func 51), xs.toArray, ts⟩, ty', pos, after, guard⟩ fr L N := by
  obtain ⟨Lr, h1, h2⟩ := hL.perm
  intro a w ha hw
  have hm : l.length = m := by
    have h3 := (hw.ok _ hL.mem).1
    have h4 : (l.flatMap e_i64).length = l.length * 1 := flat_len (enc := e_i64) (fun _ => rfl) l
    omega
  have hc := reverse_ok l hm hb (B0_0 := A) (d0_0 := c) (K := [])
  simp only [Oper.wp, run_call hc.1 ha hx, Oper.upon_enter]
  refine (hc.2 Lr w SubE.nil (hw.perm h1)).mono ?_
  rintro e w' ⟨v, Ln, rfl, ⟨rfl, rfl, -⟩, hh⟩
  exact k _ _ (ha.put hd) (Heap.perm hh h2.symm)

noncomputable def mesh_Border (p0 : List S_api_Vertex) : Option ((List Int) × Int) :=
 bnd (mesh_vertices p0) fun r1 =>
 if r1 = 0 then (bnd (mesh_ranks p0) fun r7 =>
 if ((((r7).length : Nat) : Int)) < 2 then (some (r7, 0))
 else (bnd (mesh_half p0 r7) fun r17 =>
 gd ((r7).length ≤ 1000000) <|
 bnd (mesh_half p0 (List.reverse r7)) fun r33 =>
 gd (((r17).length + (r33).length) * 8 ≤ 140737488355328) <|
 some (r17 ++ r33, 0)))
 else (some (([] : List Int), r1))
set_option maxRecDepth 100000 in
theorem mesh_half_ok (p0 : List S_api_Vertex) (p1 : List Int) {K : List Ent} {A0_0 : Option Addr} {c0_0 : Nat} {A0_1 : Option Addr} {c0_1 : Nat} (ha0 : Has K A0_0 (p0).length c0_0 4 e_api_Vertex (p0)) (ha1 : Has K A0_1 (p1).length c0_1 1 e_i64 (p1)) {r : List Int} (hx : mesh_half p0 p1 = some r) (w : World) (hK : ∀ e ∈ K, Ent.ok w e) : CtL Tryz.prog 50 [.slice (A0_0) ((p0).length) (c0_0), .slice (A0_1) ((p1).length) (c0_1)] w fun v Ln => ∃ (A0 : Option Addr) (c0 : Nat), v = .slice (A0) ((r).length) (c0) ∧ Ln = [.r A0 (r).length c0 3 1 ((r).flatMap e_i64)] ∧ True := by
  have ha0' := Has.up0 ha0
  have ha1' := Has.up0 ha1
  refine CtL.mk 61 Tryz.func50 rfl Tryz.ntmps50 (by kernel_rfl) rfl ?_
  show T 61 _ [(0, .slice (A0_0) ((p0).length) (c0_0)), (1, .slice (A0_1) ((p1).length) (c0_1))] _
  unfold mesh_half at hx
  refine T_seq ?_
  refine T_reg ?_
  refine T_val (Ev_assign rfl) rfl ?_
  refine T_nil ?_
  refine T_next ?_
  refine T_seq ?_
  refine T_reg ?_
  refine T_val (Ev_assign rfl) rfl ?_
  refine T_nil ?_
  refine T_next ?_
  obtain ⟨j3, hj3, hx⟩ := jn_some hx
  refine T_cutP (τ := List Int) (γ := (Option Addr) × Nat) (J := j3) (out := r) (fun s3 y3 => [(5, .slice (y3.1) ((s3).length) (y3.2))]) (fun s3 y3 => [.r (y3.1) ((s3).length) (y3.2) 3 1 ((s3).flatMap e_i64)] ++ [.old w]) (fun s3 y3 => True) ?_ ?_
  · intro s3 y3 hx375 hG376
    subst hj3
    refine T_seq ?_
    refine T_reg ?_
    refine T_val (Ev_move rfl) rfl ?_
    refine T_val (Ev_move rfl) rfl ?_
    refine T_val (Ev_len rfl 3 Tryz.underlying58) rfl ?_
    refine T_val (Ev_sub_w64 rfl rfl) rfl ?_
    refine T_rowP (k := 0) rfl (by decide) (fun _ => rfl) (fun hn377 hs378 => ?_)
    obtain ⟨h380, hx381⟩ := gd_some hx375
    have hs379 := Has.subH hs378 h380.1 h380.2
    refine T_val (Ev_subH rfl rfl slc58 h380.1 (by have := Has.nc hs378; omega)) rfl ?_
    refine T_val (Ev_assign rfl) rfl ?_
    refine T_nil ?_
    refine T_next ?_
    refine T_retc ?_
    refine T_trunc (q := Int.toNat (w64 (((((s3).length : Nat) : Int)) - 1))) (.here) (by have := Has.len hs379; simp [subl] at this; omega) (by decide) (fun _ => rfl) ?_
    have hn382 : Int.toNat (w64 (((((s3).length : Nat) : Int)) - 1)) = (List.take (Int.toNat (w64 (((((s3).length : Nat) : Int)) - 1))) s3).length := by simp [setI_len, cpy_len, List.length_append] <;> omega
    refine T_ent (.here) (e' := .r (y3.1) ((List.take (Int.toNat (w64 (((((s3).length : Nat) : Int)) - 1))) s3).length) (y3.2) 3 1 ((List.take (Int.toNat (w64 (((((s3).length : Nat) : Int)) - 1))) s3).flatMap e_i64)) (by first | (rw [← hn382]; done) | rfl) ?_
    refine T_slot (s := 4) (v' := .slice (y3.1) ((List.take (Int.toNat (w64 (((((s3).length : Nat) : Int)) - 1))) s3).length) (y3.2)) rfl (by have hn383 : (Int.toNat (w64 (((((s3).length : Nat) : Int)) - 1))) = (List.take (Int.toNat (w64 (((((s3).length : Nat) : Int)) - 1))) s3).length := (by simp [setI_len, cpy_len, List.length_append] <;> omega); first | (rw [← hn383]; done) | rfl) ?_
    obtain rfl := Option.some.inj hx381
    exact T_retP (rs := [.tmp 4]) Tryz.results50 (.tmp rfl (.nil)) (Ln := [.r (y3.1) ((List.take (Int.toNat (w64 (((((s3).length : Nat) : Int)) - 1))) s3).length) (y3.2) 3 1 ((List.take (Int.toNat (w64 (((((s3).length : Nat) : Int)) - 1))) s3).flatMap e_i64)]) ⟨y3.1, y3.2, rfl, rfl, trivial⟩ (loCons rfl (loNil)) (by exact .pick 0 rfl (.refl))
  · skip
    refine T_seq ?_
    refine T_reg ?_
    refine T_val (Ev_move rfl) rfl ?_
    refine T_val (Ev_len rfl 3 Tryz.underlying58) rfl ?_
    refine T_val (Ev_move rfl) rfl ?_
    refine T_nil ?_
    refine T_next ?_
    refine T_block ?_
    obtain ⟨t188, hl188, ho188⟩ := bnd_some hx
    refine T_none 3 1 ?_
    have hn189 : 0 = (([] : List Int)).length := by simp [setI_len, cpy_len, List.length_append] <;> omega
    refine T_ent (.here) (e' := .r (none) ((([] : List Int)).length) (0) 3 1 ((([] : List Int)).flatMap e_i64)) (by first | (rw [← hn189]; done) | rfl) ?_
    refine T_loopP (σ := (List Int) × Int) (γ := (Option Addr) × Nat) hl188 (fun s188 y188 => [(0, .slice (A0_0) ((p0).length) (c0_0)), (5, .slice (y188.1) ((s188.1).length) (y188.2)), (8, .slice (A0_1) ((p1).length) (c0_1)), (9, .int .i64 ((((p1).length : Nat) : Int))), (10, .int .i64 (s188.2))]) (fun s188 y188 => [.r (y188.1) ((s188.1).length) (y188.2) 3 1 ((s188.1).flatMap e_i64)] ++ [.old w]) (fun s188 y188 => True) (none, 0) trivial (by exact .cons rfl (.cons rfl (.cons rfl (.cons rfl (.cons rfl (.nil)))))) (by exact .pick 0 rfl (.refl)) ?_
    intro s188 y188 hG188 x188 hx188 ht188
    unfold mesh_half_l3 at hx188
    refine T_seq ?_
    refine T_reg ?_
    refine T_val (Ev_lss rfl rfl) rfl ?_
    refine T_nil ?_
    refine T_next ?_
    refine T_seq ?_
    refine T_caseP (s := 11) rfl (fun h190 => ?_) (fun h190 => ?_)
    · have hx191 := ite_t h190 hx188
      refine T_condT rfl ?_
      refine T_skip ?_
      refine T_next ?_
      refine T_seq ?_
      refine T_block ?_
      refine T_seq ?_
      refine T_reg ?_
      obtain ⟨x193, h194, hx195⟩ := bnd_some hx191
      have hw203 := Has.low (E := []) ha1' hK
      obtain ⟨b196, o197, j198, hA199, hj200, hl201, hp202⟩ := Has.at_idx hw203 h194
      refine T_val (Ev_index rfl rfl hA199 (j := j198) hj200 hl201 slc58) rfl ?_
      refine T_val (Ev_loadP0 rfl hp202 (SubE.cons2 (i := 1) rfl (SubE.nil)) rfl one3) rfl ?_
      refine T_val (Ev_assign rfl) rfl ?_
      refine T_nil ?_
      refine T_next ?_
      obtain ⟨j18, hj18, hx195⟩ := jn_some hx195
      refine T_cutP (τ := List Int) (γ := (Option Addr) × Nat) (J := j18) (out := x188) (fun s18 y18 => [(0, .slice (A0_0) ((p0).length) (c0_0)), (5, .slice (y18.1) ((s18).length) (y18.2)), (7, .int .i64 (x193)), (8, .slice (A0_1) ((p1).length) (c0_1)), (9, .int .i64 ((((p1).length : Nat) : Int))), (10, .int .i64 (s188.2))]) (fun s18 y18 => [.r (y18.1) ((s18).length) (y18.2) 3 1 ((s18).flatMap e_i64)] ++ [.old w]) (fun s18 y18 => True) ?_ ?_
      · intro s18 y18 hx368 hG369
        subst hj18
        refine T_reg ?_
        refine T_val (Ev_move rfl) rfl ?_
        refine T_val (Ev_move rfl) rfl ?_
        refine T_x (Wx_buildSlice rfl (bls58_1_0i64 _) rfl (fun g370 => ?_))
        obtain ⟨h371, hx372⟩ := gd_some hx368
        refine T_h (Wh_appendP e_i64 (s18) [x193] rfl rfl rfl elm58 (fun _ => rfl) (i' := 0) rfl rfl rfl rfl h371 rfl (fun _ _ => .there (.here)) (fun _ _ => .drop .refl) (by decide) (fun A373 c374 => ?_))
        refine T_val (Ev_assign rfl) rfl ?_
        refine T_nil ?_
        refine T_inN ?_
        refine T_next ?_
        refine T_reg ?_
        refine T_val (Ev_add_w64 rfl rfl) rfl ?_
        refine T_val (Ev_move rfl) rfl ?_
        refine T_nil ?_
        exact T_roundP (s18 ++ [x193], w64 (s188.2 + 1)) (A373, c374) hx372 trivial (by exact .cons rfl (.cons rfl (.cons rfl (.cons rfl (.cons rfl (.nil)))))) (by exact .pick 0 rfl (.refl))
      · skip
        refine T_block ?_
        obtain ⟨t285, hl285, ho285⟩ := bnd_some hx195
        refine T_loopP (σ := List Int) (γ := (Option Addr) × Nat) hl285 (fun s285 y285 => [(0, .slice (A0_0) ((p0).length) (c0_0)), (5, .slice (y285.1) ((s285).length) (y285.2)), (7, .int .i64 (x193)), (8, .slice (A0_1) ((p1).length) (c0_1)), (9, .int .i64 ((((p1).length : Nat) : Int))), (10, .int .i64 (s188.2))]) (fun s285 y285 => [.r (y285.1) ((s285).length) (y285.2) 3 1 ((s285).flatMap e_i64)] ++ [.old w]) (fun s285 y285 => True) (y188.1, y188.2) trivial (by exact .cons rfl (.cons rfl (.cons rfl (.cons rfl (.cons rfl (.cons rfl (.nil))))))) (by exact .pick 0 rfl (.refl)) ?_
        intro s285 y285 hG285 x285 hx285 ht285
        unfold mesh_half_l5 at hx285
        refine T_seq ?_
        obtain ⟨j22, hj22, hx285⟩ := jn_some hx285
        refine T_cutP (τ := Bool) (γ := Unit) (J := j22) (out := x285) (fun s22 y22 => [(0, .slice (A0_0) ((p0).length) (c0_0)), (5, .slice (y285.1) ((s285).length) (y285.2)), (7, .int .i64 (x193)), (8, .slice (A0_1) ((p1).length) (c0_1)), (9, .int .i64 ((((p1).length : Nat) : Int))), (10, .int .i64 (s188.2)), (45, .bool (s22))]) (fun s22 y22 => [.r (y285.1) ((s285).length) (y285.2) 3 1 ((s285).flatMap e_i64)] ++ [.old w]) (fun s22 y22 => True) ?_ ?_
        · intro s22 y22 hx356 hG357
          subst hj22
          refine T_caseB (s := 45) rfl (fun h358 => ?_) (fun h358 => ?_)
          · have hx359 := ite_t h358 hx356
            refine T_condT rfl ?_
            refine T_skip ?_
            refine T_next ?_
            refine T_block ?_
            refine T_reg ?_
            refine T_val (Ev_move rfl) rfl ?_
            refine T_val (Ev_move rfl) rfl ?_
            refine T_val (Ev_len rfl 3 Tryz.underlying58) rfl ?_
            refine T_val (Ev_sub_w64 rfl rfl) rfl ?_
            refine T_rowP (k := 0) rfl (by decide) (fun _ => rfl) (fun hn361 hs362 => ?_)
            obtain ⟨h364, hx365⟩ := gd_some hx359
            have hs363 := Has.subH hs362 h364.1 h364.2
            refine T_val (Ev_subH rfl rfl slc58 h364.1 (by have := Has.nc hs362; omega)) rfl ?_
            refine T_val (Ev_assign rfl) rfl ?_
            refine T_nil ?_
            refine T_inN ?_
            refine T_trunc (q := Int.toNat (w64 (((((s285).length : Nat) : Int)) - 1))) (.here) (by have := Has.len hs363; simp [subl] at this; omega) (by decide) (fun _ => rfl) ?_
            have hn366 : Int.toNat (w64 (((((s285).length : Nat) : Int)) - 1)) = (List.take (Int.toNat (w64 (((((s285).length : Nat) : Int)) - 1))) s285).length := by simp [setI_len, cpy_len, List.length_append] <;> omega
            refine T_ent (.here) (e' := .r (y285.1) ((List.take (Int.toNat (w64 (((((s285).length : Nat) : Int)) - 1))) s285).length) (y285.2) 3 1 ((List.take (Int.toNat (w64 (((((s285).length : Nat) : Int)) - 1))) s285).flatMap e_i64)) (by first | (rw [← hn366]; done) | rfl) ?_
            refine T_slot (s := 5) (v' := .slice (y285.1) ((List.take (Int.toNat (w64 (((((s285).length : Nat) : Int)) - 1))) s285).length) (y285.2)) rfl (by have hn367 : (Int.toNat (w64 (((((s285).length : Nat) : Int)) - 1))) = (List.take (Int.toNat (w64 (((((s285).length : Nat) : Int)) - 1))) s285).length := (by simp [setI_len, cpy_len, List.length_append] <;> omega); first | (rw [← hn367]; done) | rfl) ?_
            exact T_roundP (List.take (Int.toNat (w64 (((((s285).length : Nat) : Int)) - 1))) s285) (y285.1, y285.2) hx365 trivial (by exact .cons rfl (.cons rfl (.cons rfl (.cons rfl (.cons rfl (.cons rfl (.nil))))))) (by exact .pick 0 rfl (.refl))
          · have hx360 := ite_bf h358 hx356
            refine T_condF rfl ?_
            refine T_exit ?_
            refine T_outX ?_
            obtain rfl := exit_eq ht285 hx360
            refine T_outX ?_
            refine T_here ?_
            exact T_metP s285 (y285.1, y285.2) ho285 trivial (by exact .cons rfl (.cons rfl (.cons rfl (.cons rfl (.cons rfl (.cons rfl (.nil))))))) (by exact .pick 0 rfl (.refl))
        · skip
          refine T_draw [0, 0, 0, 0, 0, 0, 0, 0, 0, 0, 1, 0, 1, 2, 0, 0, 0, 0, 0, 0, 1, 0, 1, 2, 0, 0, 0, 1, 2, 2, 0, 0] [[], [0], [0, 1], [0, 1, 2], [0, 1, 2, 3], [0, 1, 2, 3], [0, 1, 2, 3], [0, 1, 2, 3, 6], [0, 1, 2, 3, 6, 7], [0, 1, 2, 3, 5, 6, 7, 8], [0, 1, 2, 3, 5, 6, 7, 8, 9], [0, 1, 2, 3, 4, 5, 6, 7, 8, 9, 10], [0, 1, 2, 3, 4, 5, 6, 7, 8, 9, 10, 11], [0, 1, 2, 3, 4, 5, 6, 7, 8, 9, 10, 11, 12], [0, 1, 2, 3], [0, 1, 2, 3], [0, 1, 2, 3], [0, 1, 2, 3, 16], [0, 1, 2, 3, 16, 17], [0, 1, 2, 3, 15, 16, 17, 18], [0, 1, 2, 3, 15, 16, 17, 18, 19], [0, 1, 2, 3, 14, 15, 16, 17, 18, 19, 20], [0, 1, 2, 3, 14, 15, 16, 17, 18, 19, 20, 21], [0, 1, 2, 3, 4, 5, 6, 7, 8, 9, 10, 11, 12, 13, 14, 15, 16, 17, 18, 19, 20, 21, 22], [0, 1, 2, 3], [0, 1, 2, 3], [0, 1, 2, 3, 24, 25], [0, 1, 2, 3, 24, 25, 26], [0, 1, 2, 3, 4, 5, 6, 7, 8, 9, 10, 11, 12, 13, 14, 15, 16, 17, 18, 19, 20, 21, 22, 23, 24, 25, 26, 27], [0, 1, 2, 3, 4, 5, 6, 7, 8, 9, 10, 11, 12, 13, 14, 15, 16, 17, 18, 19, 20, 21, 22, 23, 24, 25, 26, 27, 28], [0, 1, 2, 3, 4, 5, 6, 7, 8, 9, 10, 11, 12, 13, 14, 15, 16, 17, 18, 19, 20, 21, 22, 23, 24, 25, 26, 27, 28, 29], [0, 1, 2, 3, 4, 5, 6, 7, 8, 9, 10, 11, 12, 13, 14, 15, 16, 17, 18, 19, 20, 21, 22, 23, 24, 25, 26, 27, 28, 29, 30]] (.q 0 (.q 1 (.q 2 (.q 3 (.q 4 (.q 5 (.q 6 (.q 7 (.q 8 (.q 9 (.q 10 (.q 11 (.q 12 (.q 14 (.q 15 (.q 16 (.q 17 (.q 18 (.q 19 (.q 20 (.q 21 (.q 22 (.q 24 (.q 25 (.q 26 (.q 27 (.e 13 (.e 23 (.e 28 (.e 29 (.q 30 (.q 31 (.done))) (.stop)) (.stop)) (.stop)) (.stop)))))))))))))))))))))))))))) mixed (by kernel_rfl) (by kernel_rfl) ?_
          refine P_p rfl rfl (Ev_move rfl) rfl ?_
          refine P_p rfl rfl (Ev_len rfl 3 Tryz.underlying58) rfl ?_
          refine P_p rfl rfl (Ev_gtr rfl rfl) rfl ?_
          refine P_p rfl rfl (Ev_move rfl) rfl ?_
          refine T_caseP (s := 17) rfl (fun h286 => ?_) (fun h286 => ?_)
          · have hx287 := ite_t h286 hx285
            refine P_pG rfl rfl rfl rfl rfl (Ev_move rfl) rfl ?_
            refine P_pG rfl rfl rfl rfl rfl (Ev_move rfl) rfl ?_
            refine P_pG rfl rfl rfl rfl rfl (Ev_move rfl) rfl ?_
            refine P_pG rfl rfl rfl rfl rfl (Ev_len rfl 3 Tryz.underlying58) rfl ?_
            refine P_pG rfl rfl rfl rfl rfl (Ev_sub_w64 rfl rfl) rfl ?_
            obtain ⟨x288, h289, hx290⟩ := bnd_some hx287
            refine T_idxR (k := 0) rfl (by decide) (fun _ => rfl) h289 (fun b291 j293 hA294 hj295 hl296 hm298 hp297 => ?_)
            refine P_pG rfl rfl rfl rfl rfl (Ev_index rfl rfl hA294 (j := j293) hj295 hl296 slc58) rfl ?_
            refine P_qG rfl rfl rfl rfl rfl (Ev_loadP0 rfl hp297 (SubE.cons2 (i := 0) rfl (SubE.nil)) rfl one3) rfl ?_
            obtain ⟨x299, h300, hx301⟩ := bnd_some hx290
            have hw309 := Has.low (E := []) ha0' hK
            obtain ⟨b302, o303, j304, hA305, hj306, hl307, hp308⟩ := Has.at_idx hw309 h300
            refine P_pG rfl rfl rfl rfl rfl (Ev_index rfl rfl hA305 (j := j304) hj306 hl307 slc22) rfl ?_
            refine P_qG rfl rfl rfl rfl rfl (Ev_loadPK0 rfl hp308 (SubE.cons2 (i := 1) rfl (SubE.nil)) rfl agg43) rfl ?_
            refine P_pG rfl rfl rfl rfl rfl (Ev_move rfl) rfl ?_
            refine P_pG rfl rfl rfl rfl rfl (Ev_move rfl) rfl ?_
            refine P_pG rfl rfl rfl rfl rfl (Ev_move rfl) rfl ?_
            refine P_pG rfl rfl rfl rfl rfl (Ev_len rfl 3 Tryz.underlying58) rfl ?_
            refine P_pG rfl rfl rfl rfl rfl (Ev_sub_w64 rfl rfl) rfl ?_
            obtain ⟨x310, h311, hx312⟩ := bnd_some hx301
            refine T_idxR (k := 0) rfl (by decide) (fun _ => rfl) h311 (fun b313 j315 hA316 hj317 hl318 hm320 hp319 => ?_)
            refine P_pG rfl rfl rfl rfl rfl (Ev_index rfl rfl hA316 (j := j315) hj317 hl318 slc58) rfl ?_
            refine P_qG rfl rfl rfl rfl rfl (Ev_loadP0 rfl hp319 (SubE.cons2 (i := 0) rfl (SubE.nil)) rfl one3) rfl ?_
            obtain ⟨x321, h322, hx323⟩ := bnd_some hx312
            have hw331 := Has.low (E := []) ha0' hK
            obtain ⟨b324, o325, j326, hA327, hj328, hl329, hp330⟩ := Has.at_idx hw331 h322
            refine P_pG rfl rfl rfl rfl rfl (Ev_index rfl rfl hA327 (j := j326) hj328 hl329 slc22) rfl ?_
            refine P_qG rfl rfl rfl rfl rfl (Ev_loadPK0 rfl hp330 (SubE.cons2 (i := 1) rfl (SubE.nil)) rfl agg43) rfl ?_
            refine P_pG rfl rfl rfl rfl rfl (Ev_move rfl) rfl ?_
            refine P_pG rfl rfl rfl rfl rfl (Ev_move rfl) rfl ?_
            obtain ⟨x332, h333, hx334⟩ := bnd_some hx323
            have hw342 := Has.low (E := []) ha0' hK
            obtain ⟨b335, o336, j337, hA338, hj339, hl340, hp341⟩ := Has.at_idx hw342 h333
            refine P_pG rfl rfl rfl rfl rfl (Ev_index rfl rfl hA338 (j := j337) hj339 hl340 slc22) rfl ?_
            refine P_qG rfl rfl rfl rfl rfl (Ev_loadPK0 rfl hp341 (SubE.cons2 (i := 1) rfl (SubE.nil)) rfl agg43) rfl ?_
            obtain ⟨r343, h344, hx345⟩ := bnd_some hx334
            refine P_xG rfl rfl rfl rfl (Wx_callL rfl (fun w1 hw1 => mesh_at_ok x299  h344 w1) rfl ?_) ?_
            rotate_left; exact P_stop
            rintro _ _ hlo ⟨rfl, rfl, -⟩
            refine T_app0 ?_
            obtain ⟨r346, h347, hx348⟩ := bnd_some hx345
            refine P_xG rfl rfl rfl rfl (Wx_callL rfl (fun w1 hw1 => mesh_at_ok x321  h347 w1) rfl ?_) ?_
            rotate_left; exact P_stop
            rintro _ _ hlo ⟨rfl, rfl, -⟩
            refine T_app0 ?_
            obtain ⟨r349, h350, hx351⟩ := bnd_some hx348
            refine P_xG rfl rfl rfl rfl (Wx_callL rfl (fun w1 hw1 => mesh_at_ok x332  h350 w1) rfl ?_) ?_
            rotate_left; exact P_stop
            rintro _ _ hlo ⟨rfl, rfl, -⟩
            refine T_app0 ?_
            obtain ⟨r352, h353, hx354⟩ := bnd_some hx351
            refine P_xG rfl rfl rfl rfl (Wx_callL rfl (fun w1 hw1 => mesh_turn_ok r343 r346 r349  h353 w1) rfl ?_) ?_
            rotate_left; exact P_stop
            rintro _ _ hlo ⟨rfl, rfl, -⟩
            refine T_app0 ?_
            refine P_pG rfl rfl rfl rfl rfl (Ev_leq rfl rfl) rfl ?_
            refine P_p rfl rfl (Ev_pickT rfl rfl) rfl ?_
            refine P_done ?_
            exact T_metP (decide (r352 ≤ 0)) () hx354 trivial (by exact .cons rfl (.cons rfl (.cons rfl (.cons rfl (.cons rfl (.cons rfl (.cons rfl (.nil)))))))) (by exact .pick 0 rfl (.refl))
          · have hx355 := ite_f h286 hx285
            refine P_skip rfl rfl rfl rfl rfl rfl ?_
            refine P_skip rfl rfl rfl rfl rfl rfl ?_
            refine P_skip rfl rfl rfl rfl rfl rfl ?_
            refine P_skip rfl rfl rfl rfl rfl rfl ?_
            refine P_skip rfl rfl rfl rfl rfl rfl ?_
            refine P_skip rfl rfl rfl rfl rfl rfl ?_
            refine P_skip rfl rfl rfl rfl rfl rfl ?_
            refine P_skip rfl rfl rfl rfl rfl rfl ?_
            refine P_skip rfl rfl rfl rfl rfl rfl ?_
            refine P_skip rfl rfl rfl rfl rfl rfl ?_
            refine P_skip rfl rfl rfl rfl rfl rfl ?_
            refine P_skip rfl rfl rfl rfl rfl rfl ?_
            refine P_skip rfl rfl rfl rfl rfl rfl ?_
            refine P_skip rfl rfl rfl rfl rfl rfl ?_
            refine P_skip rfl rfl rfl rfl rfl rfl ?_
            refine P_skip rfl rfl rfl rfl rfl rfl ?_
            refine P_skip rfl rfl rfl rfl rfl rfl ?_
            refine P_skip rfl rfl rfl rfl rfl rfl ?_
            refine P_skip rfl rfl rfl rfl rfl rfl ?_
            refine P_skip rfl rfl rfl rfl rfl rfl ?_
            refine P_skip rfl rfl rfl rfl rfl rfl ?_
            refine P_skip rfl rfl rfl rfl rfl rfl ?_
            refine P_skipE rfl rfl rfl rfl rfl rfl ?_ ?_
            rotate_left; exact P_stop
            refine P_skipE rfl rfl rfl rfl rfl rfl ?_ ?_
            rotate_left; exact P_stop
            refine P_skipE rfl rfl rfl rfl rfl rfl ?_ ?_
            rotate_left; exact P_stop
            refine P_skipE rfl rfl rfl rfl rfl rfl ?_ ?_
            rotate_left; exact P_stop
            refine P_skip rfl rfl rfl rfl rfl rfl ?_
            refine P_p rfl rfl (Ev_pickF rfl rfl) rfl ?_
            refine P_done ?_
            exact T_metP false () hx355 trivial (by exact .cons rfl (.cons rfl (.cons rfl (.cons rfl (.cons rfl (.cons rfl (.cons rfl (.nil)))))))) (by exact .pick 0 rfl (.refl))
    · have hx192 := ite_f h190 hx188
      refine T_condF rfl ?_
      refine T_exit ?_
      refine T_outX ?_
      obtain rfl := exit_eq ht188 hx192
      refine T_outX ?_
      refine T_here ?_
      exact T_metP s188.1 (y188.1, y188.2) ho188 trivial (by exact .cons rfl (.nil)) (by exact .pick 0 rfl (.refl))
set_option maxRecDepth 100000 in
theorem mesh_Border_ok (p0 : List S_api_Vertex) {K : List Ent} {A0_0 : Option Addr} {c0_0 : Nat} (ha0 : Has K A0_0 (p0).length c0_0 4 e_api_Vertex (p0)) {r : (List Int) × Int} (hx : mesh_Border p0 = some r) (w : World) (hK : ∀ e ∈ K, Ent.ok w e) : CtL Tryz.prog 24 [.slice (A0_0) ((p0).length) (c0_0)] w fun v Ln => ∃ (A0 : Option Addr) (c0 : Nat), v = .tuple #[.slice (A0) ((r.1).length) (c0), .int .i64 (r.2)] ∧ Ln = [.r A0 (r.1).length c0 3 1 ((r.1).flatMap e_i64)] ∧ True := by
  have ha0' := Has.up0 ha0
  refine CtL.mk 28 Tryz.func24 rfl Tryz.ntmps24 (by kernel_rfl) rfl ?_
  show T 28 _ [(0, .slice (A0_0) ((p0).length) (c0_0))] _
  unfold mesh_Border at hx
  refine T_seq ?_
  refine T_reg ?_
  refine T_val (Ev_assign rfl) rfl ?_
  refine T_val (Ev_assign rfl) rfl ?_
  refine T_nil ?_
  refine T_next ?_
  refine T_seq ?_
  refine T_seq ?_
  refine T_reg ?_
  refine T_val (Ev_move rfl) rfl ?_
  obtain ⟨r1, h2, hx3⟩ := bnd_some hx
  refine T_x (Wx_callL rfl (fun w1 hw1 => mesh_vertices_ok p0 (Has.len' ha0') h2 w1 (okApp (K := K) (K2 := []) hK (by exact (SubE.cons2 (i := 0) rfl (SubE.nil))) (by exact (SubE.nil)) hw1)) rfl ?_)
  rintro _ _ hlo ⟨rfl, rfl, -⟩
  refine T_app0 ?_
  refine T_val (Ev_assign rfl) rfl ?_
  refine T_nil ?_
  refine T_next ?_
  refine T_seq ?_
  refine T_reg ?_
  refine T_val (Ev_move rfl) rfl ?_
  refine T_val (Ev_neq rfl rfl) rfl ?_
  refine T_nil ?_
  refine T_next ?_
  refine T_caseNP (s := 10) rfl (fun h4 => ?_) (fun h4 => ?_)
  · have hx5 := ite_f h4 hx3
    refine T_condT rfl ?_
    refine T_seq ?_
    refine T_reg ?_
    refine T_val (Ev_move rfl) rfl ?_
    refine T_val (Ev_assign rfl) rfl ?_
    refine T_val (Ev_assign rfl) rfl ?_
    refine T_nil ?_
    refine T_next ?_
    refine T_retc ?_
    refine T_outR ?_
    refine T_none 3 1 ?_
    obtain rfl := Option.some.inj hx5
    exact T_retP (rs := [.tmp 2, .tmp 3]) Tryz.results24 (.tmp rfl (.tmp rfl (.nil))) (Ln := [.r (none) (0) (0) 3 1 ((([] : List Int)).flatMap e_i64)]) ⟨none, 0, rfl, rfl, trivial⟩ (loCons rfl (loNil)) (by exact .pick 0 rfl (.refl))
  · have hx6 := ite_t h4 hx3
    refine T_condF rfl ?_
    refine T_skip ?_
    refine T_next ?_
    refine T_seq ?_
    refine T_reg ?_
    refine T_val (Ev_move rfl) rfl ?_
    obtain ⟨r7, h8, hx9⟩ := bnd_some hx6
    refine T_x (Wx_callL rfl (fun w1 hw1 => mesh_ranks_ok p0 (Has.len' ha0') h8 w1 (okApp (K := K) (K2 := []) hK (by exact (SubE.cons2 (i := 0) rfl (SubE.nil))) (by exact (SubE.nil)) hw1)) rfl ?_)
    rintro _ _ hlo ⟨A10, c11, rfl, rfl, -⟩
    refine T_app1 ?_
    refine T_val (Ev_assign rfl) rfl ?_
    refine T_nil ?_
    refine T_next ?_
    refine T_seq ?_
    refine T_seq ?_
    refine T_reg ?_
    refine T_val (Ev_move rfl) rfl ?_
    refine T_val (Ev_len rfl 3 Tryz.underlying58) rfl ?_
    refine T_val (Ev_lss rfl rfl) rfl ?_
    refine T_nil ?_
    refine T_next ?_
    refine T_caseP (s := 16) rfl (fun h12 => ?_) (fun h12 => ?_)
    · have hx13 := ite_t h12 hx9
      refine T_condT rfl ?_
      refine T_seq ?_
      refine T_reg ?_
      refine T_val (Ev_move rfl) rfl ?_
      refine T_val (Ev_assign rfl) rfl ?_
      refine T_val (Ev_assign rfl) rfl ?_
      refine T_nil ?_
      refine T_next ?_
      refine T_retc ?_
      refine T_outR ?_
      obtain rfl := Option.some.inj hx13
      exact T_retP (rs := [.tmp 2, .tmp 3]) Tryz.results24 (.tmp rfl (.tmp rfl (.nil))) (Ln := [.r (A10) ((r7).length) (c11) 3 1 ((r7).flatMap e_i64)]) ⟨A10, c11, rfl, rfl, trivial⟩ (loCons rfl (loNil)) (by exact .pick 0 rfl (.refl))
    · have hx14 := ite_f h12 hx9
      refine T_condF rfl ?_
      refine T_skip ?_
      refine T_next ?_
      refine T_seq ?_
      refine T_reg ?_
      refine T_val (Ev_move rfl) rfl ?_
      refine T_val (Ev_move rfl) rfl ?_
      refine T_rowP (k := 0) rfl (by decide) (fun _ => rfl) (fun hn15 hs16 => ?_)
      obtain ⟨r17, h18, hx19⟩ := bnd_some hx14
      refine T_x (Wx_callL rfl (fun w1 hw1 => mesh_half_ok p0 r7 (Has.len' (Has.up (L := (K ++ [.r (A10) ((r7).length) (c11) 3 1 ((r7).flatMap e_i64)])) ha0' (SubE.app2 SubE.nil))) (Has.len' (Has.up (L := (K ++ [.r (A10) ((r7).length) (c11) 3 1 ((r7).flatMap e_i64)])) hs16 (SubE.appR2 (SubE.cons2 (i := 0) rfl (SubE.nil))))) h18 w1 (okApp (K := K) (K2 := [.r (A10) ((r7).length) (c11) 3 1 ((r7).flatMap e_i64)]) hK (by exact (SubE.cons2 (i := 1) rfl (SubE.nil))) (by exact (SubE.cons2 (i := 0) rfl (SubE.nil))) hw1)) rfl ?_)
      rintro _ _ hlo ⟨A20, c21, rfl, rfl, -⟩
      refine T_app1 ?_
      refine T_val (Ev_assign rfl) rfl ?_
      refine T_nil ?_
      refine T_next ?_
      refine T_seq ?_
      refine T_reg ?_
      refine T_val (Ev_move rfl) rfl ?_
      obtain ⟨h22, hx23⟩ := gd_some hx19
      refine T_h (Wh_reverse (r7) rfl h22 (.there (.here)) rfl ?_)
      refine T_nil ?_
      refine T_next ?_
      refine T_seq ?_
      refine T_reg ?_
      refine T_val (Ev_move rfl) rfl ?_
      refine T_val (Ev_move rfl) rfl ?_
      refine T_val (Ev_move rfl) rfl ?_
      have hn24 : (r7).length = (List.reverse r7).length := (by rw [List.length_reverse])
      refine T_ent (.there (.here)) (e' := .r (A10) ((List.reverse r7).length) (c11) 3 1 ((List.reverse r7).flatMap e_i64)) (by first | (rw [← hn24]; done) | rfl) ?_
      refine T_slot (s := 13) (v' := .slice (A10) ((List.reverse r7).length) (c11)) rfl (by have hn25 : ((r7).length) = (List.reverse r7).length := (by rw [List.length_reverse]); first | (rw [← hn25]; done) | rfl) ?_
      refine T_slot (s := 5) (v' := .slice (A10) ((List.reverse r7).length) (c11)) rfl (by have hn26 : ((r7).length) = (List.reverse r7).length := (by rw [List.length_reverse]); first | (rw [← hn26]; done) | rfl) ?_
      refine T_slot (s := 14) (v' := .slice (A10) ((List.reverse r7).length) (c11)) rfl (by have hn27 : ((r7).length) = (List.reverse r7).length := (by rw [List.length_reverse]); first | (rw [← hn27]; done) | rfl) ?_
      refine T_slot (s := 19) (v' := .slice (A10) ((List.reverse r7).length) (c11)) rfl (by have hn28 : ((r7).length) = (List.reverse r7).length := (by rw [List.length_reverse]); first | (rw [← hn28]; done) | rfl) ?_
      refine T_slot (s := 21) (v' := .slice (A10) ((List.reverse r7).length) (c11)) rfl (by have hn29 : ((r7).length) = (List.reverse r7).length := (by rw [List.length_reverse]); first | (rw [← hn29]; done) | rfl) ?_
      refine T_slot (s := 25) (v' := .slice (A10) ((List.reverse r7).length) (c11)) rfl (by have hn30 : ((r7).length) = (List.reverse r7).length := (by rw [List.length_reverse]); first | (rw [← hn30]; done) | rfl) ?_
      refine T_rowP (k := 1) rfl (by decide) (fun _ => rfl) (fun hn31 hs32 => ?_)
      obtain ⟨r33, h34, hx35⟩ := bnd_some hx23
      refine T_x (Wx_callL rfl (fun w1 hw1 => mesh_half_ok p0 (List.reverse r7) (Has.len' (Has.up (L := (K ++ [.r (A10) ((List.reverse r7).length) (c11) 3 1 ((List.reverse r7).flatMap e_i64)])) ha0' (SubE.app2 SubE.nil))) (Has.len' (Has.up (L := (K ++ [.r (A10) ((List.reverse r7).length) (c11) 3 1 ((List.reverse r7).flatMap e_i64)])) hs32 (SubE.appR2 (SubE.cons2 (i := 0) rfl (SubE.nil))))) h34 w1 (okApp (K := K) (K2 := [.r (A10) ((List.reverse r7).length) (c11) 3 1 ((List.reverse r7).flatMap e_i64)]) hK (by exact (SubE.cons2 (i := 2) rfl (SubE.nil))) (by exact (SubE.cons2 (i := 1) rfl (SubE.nil))) hw1)) rfl ?_)
      rintro _ _ hlo ⟨A36, c37, rfl, rfl, -⟩
      refine T_app1 ?_
      refine T_rowP (k := 0) rfl (by decide) (fun _ => rfl) (fun hn38 hs39 => ?_)
      obtain ⟨h40, hx41⟩ := gd_some hx35
      refine T_h (Wh_appendH e_i64 (r17) (r33) rfl rfl elm58 (fun _ => rfl) hs39 (SubE.cons2 (i := 0) rfl (SubE.nil)) (fun _ => rfl) h40 rfl (fun _ _ => .there (.here)) (by decide) (fun A42 c43 => ?_))
      refine T_val (Ev_assign rfl) rfl ?_
      refine T_val (Ev_assign rfl) rfl ?_
      refine T_nil ?_
      refine T_next ?_
      refine T_retc ?_
      obtain rfl := Option.some.inj hx41
      exact T_retP (rs := [.tmp 2, .tmp 3]) Tryz.results24 (.tmp rfl (.tmp rfl (.nil))) (Ln := [.r (A42) ((r17 ++ r33).length) (c43) 3 1 ((r17 ++ r33).flatMap e_i64)]) ⟨A42, c43, rfl, rfl, trivial⟩ (loCons rfl (loNil)) (by exact .pick 1 rfl (.drop 0 rfl (.drop 0 rfl (.refl))))
end Go.Proofs.YtlkgeeppfifeeaaGreat
