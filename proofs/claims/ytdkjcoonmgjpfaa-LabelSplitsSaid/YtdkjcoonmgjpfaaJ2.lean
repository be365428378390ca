/- Walks of the program, with their plain functions: the lowest ones of groups. -/
import Derived.Test.YtdkjcoonmgjpfaaJ1
namespace Go.Proofs.Ytdkjcoonmgjpfaa
open Go Go.RowKit
theorem one31 : OneOf Try.prog 31 := .mk Try.underlying31 rfl (show Try.prog.info? 31 = some Try.t31 from by kernel_rfl) (by kernel_rfl)
theorem one84 : OneOf Try.prog 84 := .mk Try.underlying84 rfl (show Try.prog.info? 84 = some Try.t84 from by kernel_rfl) (by kernel_rfl)
theorem bls22_1_0ai64i64 (x0 : Int) (x1 : Int) : BuildSliceOf Try.prog 22 1 [(0, .agg #[.int .i64 x0, .int .i64 x1])] 24 [.int .i64 x0, .int .i64 x1] := fun w => by kernel_rfl
theorem elm22 : ElemOf Try.prog 22 24 2 16 := ⟨Try.underlying22, ⟨Try.t24, .agg #[.int .i64 (0), .int .i64 (0)], by kernel_rfl, by kernel_rfl, by kernel_rfl, by kernel_rfl, rfl⟩, by decide⟩
def v_api_XY (x : S_api_XY) : Value := .agg #[.int .i64 (x.X), .int .i64 (x.Y)]
theorem v_api_XY_inj (x y : S_api_XY) (h : v_api_XY x = v_api_XY y) : x = y := by
  rcases x with ⟨_, _⟩; rcases y with ⟨_, _⟩; simp [v_api_XY] at h; simp [h]
theorem laidOut3 : laidOutB Try.prog = true := by kernel_rfl
theorem wide24 : (match Try.prog.underlying 24 with | some (.array _ _) | some (.struct _) => true | _ => false) = true := by kernel_rfl
set_option maxRecDepth 100000 in
theorem key24 : Maps.Keyed Try.prog 24 := Maps.Keyed.of_law (deep_law_laid laidOut3 (m := 3) (by omega) (of_decide_eq_true (by kernel_rfl)) (by kernel_rfl) wide24)
theorem isk24 (x : S_api_XY) (h : (-9223372036854775808 ≤ x.X ∧ x.X ≤ 9223372036854775807) ∧ (-9223372036854775808 ≤ x.Y ∧ x.Y ≤ 9223372036854775807)) : (keyOf Try.prog 24 (v_api_XY x)).isSome = true := by
  refine isk_struct (cs := [.int .i64 (x.X), .int .i64 (x.Y)]) (d := 132) (by kernel_rfl) Try.underlying24 (by kernel_rfl) (by kernel_rfl) (by kernel_rfl) (fun f hf => ?_)
  simp only [List.mem_cons, List.not_mem_nil, or_false] at hf
  rcases hf with rfl | rfl
  · exact ⟨.i64, x.X, Try.underlying3, by kernel_rfl, wf_i64 h.1⟩
  · exact ⟨.i64, x.Y, Try.underlying3, by kernel_rfl, wf_i64 h.2⟩
def v_api_Point (x : S_api_Point) : Value := .agg #[.int .i64 (x.Id), .int .i64 (x.X), .int .i64 (x.Y), .int .i64 (x.Z.Lo), .int .i64 (x.Z.Hi), .int .i64 (x.Wide), .int .i64 (x.Num), .int .i64 (x.Of), .int .i64 (x.Class)]
theorem v_api_Point_inj (x y : S_api_Point) (h : v_api_Point x = v_api_Point y) : x = y := by
  rcases x with ⟨_, _, _, ⟨_, _⟩, _, _, _, _⟩; rcases y with ⟨_, _, _, ⟨_, _⟩, _, _, _, _⟩; simp [v_api_Point] at h; simp [h]
noncomputable def label_lowestOf_1_l3 (p1 : List S_api_Point) (ky : S_api_Point → Option S_api_XY) : ((List (S_api_XY × S_api_Point)) × (List S_api_XY) × Int) → Option (Sum ((List (S_api_XY × S_api_Point)) × (List S_api_XY) × Int) ((List (S_api_XY × S_api_Point)) × (List S_api_XY))) := fun s55 =>
 if s55.2.2 < ((((p1).length : Nat) : Int)) then (jn (fun (s16 : (List (S_api_XY × S_api_Point)) × (List S_api_XY)) =>
 some (.inl (s16.1, s16.2, w64 (s55.2.2 + 1))))
 (fun j16 => bnd (idx p1 s55.2.2) fun x60 =>
 bnd (ky x60) fun x71 =>
 gd ((-9223372036854775808 ≤ x71.X ∧ x71.X ≤ 9223372036854775807) ∧ (-9223372036854775808 ≤ x71.Y ∧ x71.Y ≤ 9223372036854775807)) <|
 bnd (some ((mget s55.1 x71).getD ((⟨0, 0, 0, (⟨0, 0⟩ : S_api_Span), 0, 0, 0, 0⟩ : S_api_Point)))) fun x77 =>
 jn (fun (s20 : List S_api_XY) =>
 jn (fun (s22 : Bool) =>
 if s22 = true then (gd ((-9223372036854775808 ≤ x71.X ∧ x71.X ≤ 9223372036854775807) ∧ (-9223372036854775808 ≤ x71.Y ∧ x71.Y ≤ 9223372036854775807)) <|
 gd ((s55.1).length < 9223372036854775807) <|
 j16 ((x71, x60) :: s55.1, s20))
 else (j16 (s55.1, s20)))
 (fun j22 => if ((mget s55.1 x71).isSome) = true then (bnd (label_lower x60 x77) fun r94 =>
 j22 r94)
 else (j22 true)))
 (fun j20 => if ((mget s55.1 x71).isSome) = true then (j20 s55.2.1)
 else (gd (((s55.2.1).length + 1) * 16 ≤ 140737488355328) <|
 j20 (s55.2.1 ++ [x71])))))
 else (some (.inr (s55.1, s55.2.1)))
noncomputable def label_lowestOf_1_l13 {σ : Type} (s3 : (List (S_api_XY × S_api_Point)) × (List S_api_XY)) (st : σ → S_api_Point → Option σ) : (σ × Int) → Option (Sum (σ × Int) σ) := fun s137 =>
 if s137.2 < ((((s3.2).length : Nat) : Int)) then (bnd (idx s3.2 s137.2) fun x142 =>
 gd ((-9223372036854775808 ≤ x142.X ∧ x142.X ≤ 9223372036854775807) ∧ (-9223372036854775808 ≤ x142.Y ∧ x142.Y ≤ 9223372036854775807)) <|
 bnd (some ((mget s3.1 x142).getD ((⟨0, 0, 0, (⟨0, 0⟩ : S_api_Span), 0, 0, 0, 0⟩ : S_api_Point)))) fun x156 =>
 bnd (st s137.1 x156) fun x159 =>
 some (.inl (x159, w64 (s137.2 + 1))))
 else (some (.inr s137.1))
noncomputable def label_lowestOf_1 {σ : Type} (ky : S_api_Point → Option S_api_XY) (st : σ → S_api_Point → Option σ) (p1 : List S_api_Point) (ys : σ) : Option σ :=
 jn (fun (s3 : (List (S_api_XY × S_api_Point)) × (List S_api_XY)) =>
 bnd (lfix (label_lowestOf_1_l13 s3 st) (ys, 0)) fun t137 =>
 some t137)
 (fun j3 => bnd (lfix (label_lowestOf_1_l3 p1 ky) (([] : List (S_api_XY × S_api_Point)), ([] : List S_api_XY), 0)) fun t55 =>
 j3 t55)
noncomputable def label_seeds_1 (p0 : S_api_Point) (p1 : S_api_Terrain) : Option S_api_XY :=
 bnd (label_floor p0.X p1.Cell) fun r3 =>
 bnd (label_floor p0.Y p1.Cell) fun r6 =>
 some (⟨r3, r6⟩ : S_api_XY)
set_option maxRecDepth 100000 in
theorem label_lowestOf_1_ok {σ : Type} (ky : S_api_Point → Option S_api_XY) (st : σ → S_api_Point → Option σ) (p1 : List S_api_Point) (ys : σ) {kv : Value} {l : Nat} {Inv : σ → Ent → Prop} {ye : Ent} {K : List Ent} {A0_0 : Option Addr} {c0_0 : Nat} (ha0 : Has K A0_0 (p1).length c0_0 9 e_api_Point (p1)) {g0_1 : Nat} {g0_2 : Nat} (hp1 : Pt K g0_1 0 [.slice (A0_0) ((p1).length) (c0_0)]) (hp2 : Pt K g0_2 0 [kv]) (hkey : KeyOk Try.prog K kv v_api_Point v_api_XY ky) (hy : ∀ s x s' e, st s x = some s' → Inv s e → YldOk Try.prog l [v_api_Point x] e (Inv s')) (hi0 : Inv ys ye) {r : σ} (hx : label_lowestOf_1 ky st p1 ys = some r) : CtK Try.prog 71 [.func (.yield l) #[] #[], .pointer (some ⟨g0_1, 0, none⟩), .pointer (some ⟨g0_2, 0, none⟩)] K [ye] (fun _ Ln => ∃ e, Ln = [e] ∧ Inv r e) := by
  have ha0' := Has.up0 ha0
  have hp1' := Pt.up0 hp1
  have hp2' := Pt.up0 hp2
  refine CtK.mk 59 Try.func71 rfl Try.ntmps71 (by kernel_rfl) rfl ?_
  intro Lf hKf
  show T 59 _ [(0, .func (.yield l) #[] #[]), (1, .pointer (some ⟨g0_1, 0, none⟩)), (2, .pointer (some ⟨g0_2, 0, none⟩))] ([ye] ++ Lf)
  unfold label_lowestOf_1 at hx
  refine T_seq ?_
  refine T_reg ?_
  refine T_x (Wx_makeMap Try.prog 24 v_api_XY v_api_Point rfl (fun g1 => ?_))
  refine T_val (Ev_assign rfl) rfl ?_
  refine T_nil ?_
  refine T_next ?_
  refine T_seq ?_
  refine T_reg ?_
  refine T_val (Ev_assign rfl) rfl ?_
  refine T_nil ?_
  refine T_next ?_
  obtain ⟨j3, hj3, hx⟩ := jn_some hx
  refine T_cutP (τ := (List (S_api_XY × S_api_Point)) × (List S_api_XY)) (γ := (Option Addr) × Nat) (J := j3) (out := r) (fun s3 y3 => [(0, .func (.yield l) #[] #[]), (4, .map (some g1)), (5, .slice (y3.1) ((s3.2).length) (y3.2))]) (fun s3 y3 => [.r (y3.1) ((s3.2).length) (y3.2) 24 2 ((s3.2).flatMap e_api_XY), mapE Try.prog 24 v_api_XY v_api_Point g1 (s3.1), ye] ++ Lf) (fun s3 y3 => True) ?_ ?_
  · intro s3 y3 hx108 hG109
    subst hj3
    refine T_seq ?_
    refine T_reg ?_
    refine T_val (Ev_move rfl) rfl ?_
    refine T_val (Ev_len rfl 24 Try.underlying22) rfl ?_
    refine T_val (Ev_move rfl) rfl ?_
    refine T_nil ?_
    refine T_next ?_
    refine T_block ?_
    obtain ⟨t137, hl137, ho137⟩ := bnd_some hx108
    refine T_loopP (σ := σ × Int) (γ := Ent) hl137 (fun s137 y137 => [(0, .func (.yield l) #[] #[]), (4, .map (some g1)), (46, .slice (y3.1) ((s3.2).length) (y3.2)), (47, .int .i64 ((((s3.2).length : Nat) : Int))), (48, .int .i64 (s137.2))]) (fun s137 y137 => [.r (y3.1) ((s3.2).length) (y3.2) 24 2 ((s3.2).flatMap e_api_XY), mapE Try.prog 24 v_api_XY v_api_Point g1 (s3.1), y137] ++ Lf) (fun s137 y137 => Inv (s137.1) y137 ∧ True) ye ((by exact ⟨hi0, trivial⟩)) (by exact .cons rfl (.cons rfl (.cons rfl (.cons rfl (.cons rfl (.nil)))))) (by exact .pick 0 rfl (.pick 0 rfl (.pick 0 rfl (.refl)))) ?_
    intro s137 y137 hG137 x137 hx137 ht137
    unfold label_lowestOf_1_l13 at hx137
    obtain ⟨hi138, -⟩ := hG137
    refine T_seq ?_
    refine T_reg ?_
    refine T_val (Ev_lss rfl rfl) rfl ?_
    refine T_nil ?_
    refine T_next ?_
    refine T_seq ?_
    refine T_caseP (s := 49) rfl (fun h139 => ?_) (fun h139 => ?_)
    · have hx140 := ite_t h139 hx137
      refine T_condT rfl ?_
      refine T_skip ?_
      refine T_next ?_
      refine T_seq ?_
      refine T_block ?_
      refine T_seq ?_
      refine T_reg ?_
      obtain ⟨x142, h143, hx144⟩ := bnd_some hx140
      refine T_idxR (k := 0) rfl (by decide) (fun _ => rfl) h143 (fun b145 j147 hA148 hj149 hl150 hm152 hp151 => ?_)
      refine T_val (Ev_index rfl rfl hA148 (j := j147) hj149 hl150 slc22) rfl ?_
      refine T_val (Ev_loadPK0 rfl hp151 (SubE.cons2 (i := 0) rfl (SubE.nil)) rfl agg24) rfl ?_
      refine T_x (Wx_alloc zer24 rfl (fun g153 => ?_))
      refine T_h (Wh_store rfl rfl rfl (.here) (.put (.put (.done))) rfl (List.cons_ne_nil _ _) agg24.2 ?_)
      refine T_nil ?_
      refine T_next ?_
      refine T_seq ?_
      refine T_regY ?_
      refine I_val (Ev_move rfl) rfl ?_
      refine I_val (Ev_move rfl) rfl ?_
      refine I_val (Ev_loadK rfl (i := 0) rfl rfl agg24) rfl ?_
      obtain ⟨h154, hx155⟩ := gd_some hx144
      obtain ⟨x156, h157, hx158⟩ := bnd_some hx155
      refine I_val (Ev_lookG (x := x142) (i := 2) (vv := .agg #[.int .i64 (x156.Id), .int .i64 (x156.X), .int .i64 (x156.Y), .int .i64 (x156.Z.Lo), .int .i64 (x156.Z.Hi), .int .i64 (x156.Wide), .int .i64 (x156.Num), .int .i64 (x156.Of), .int .i64 (x156.Class)]) key24 Try.underlying92 (fun w => by kernel_rfl) v_api_XY_inj rfl rfl rfl rfl (isk24 x142 h154) h157 rfl) rfl ?_
      obtain ⟨x159, h160, hx161⟩ := bnd_some hx158
      refine I_yield (i := 3) rfl rfl rfl (hy _ _ _ _ h160 hi138) rfl (fun e162 hi163 => ?_)
      refine I_val (Ev_not rfl) rfl ?_
      refine I_nilY ?_
      refine T_next ?_
      refine T_condF rfl ?_
      refine T_skip ?_
      refine T_inN ?_
      refine T_next ?_
      refine T_reg ?_
      refine T_val (Ev_add_w64 rfl rfl) rfl ?_
      refine T_val (Ev_move rfl) rfl ?_
      refine T_nil ?_
      exact T_roundP (x159, w64 (s137.2 + 1)) e162 hx161 ((by exact ⟨hi163, trivial⟩)) (by exact .cons rfl (.cons rfl (.cons rfl (.cons rfl (.cons rfl (.nil)))))) (by exact .pick 2 rfl (.pick 2 rfl (.pick 0 rfl (.drop 0 rfl (.refl)))))
    · have hx141 := ite_f h139 hx137
      refine T_condF rfl ?_
      refine T_exit ?_
      refine T_outX ?_
      obtain rfl := exit_eq ht137 hx141
      refine T_outX ?_
      refine T_here ?_
      obtain rfl := Option.some.inj ho137
      exact T_endK (rs := []) Try.results71 (.nil) (Ln := [y137]) ⟨y137, rfl, hi138⟩ (by exact .pick 2 rfl (.drop 0 rfl (.drop 0 rfl (.refl))))
  · skip
    refine T_seq ?_
    refine T_reg ?_
    refine T_val (Ev_loadP0 rfl hp1' (SubE.appC (SubE.tail (SubE.tail (hKf))) (SubE.nil)) rfl one31) rfl ?_
    refine T_val (Ev_len rfl 53 Try.underlying31) rfl ?_
    refine T_val (Ev_move rfl) rfl ?_
    refine T_nil ?_
    refine T_next ?_
    refine T_block ?_
    obtain ⟨t55, hl55, ho55⟩ := bnd_some hx
    refine T_none 24 2 ?_
    have hn56 : 0 = (([] : List S_api_XY)).length := by simp [setI_len, cpy_len, List.length_append] <;> omega
    refine T_ent (.here) (e' := .r (none) ((([] : List S_api_XY)).length) (0) 24 2 ((([] : List S_api_XY)).flatMap e_api_XY)) (by first | (rw [← hn56]; done) | rfl) ?_
    refine T_loopP (σ := (List (S_api_XY × S_api_Point)) × (List S_api_XY) × Int) (γ := (Option Addr) × Nat) hl55 (fun s55 y55 => [(0, .func (.yield l) #[] #[]), (2, .pointer (some ⟨g0_2, 0, none⟩)), (4, .map (some g1)), (5, .slice (y55.1) ((s55.2.1).length) (y55.2)), (14, .slice (A0_0) ((p1).length) (c0_0)), (15, .int .i64 ((((p1).length : Nat) : Int))), (16, .int .i64 (s55.2.2))]) (fun s55 y55 => [.r (y55.1) ((s55.2.1).length) (y55.2) 24 2 ((s55.2.1).flatMap e_api_XY), mapE Try.prog 24 v_api_XY v_api_Point g1 (s55.1), ye] ++ Lf) (fun s55 y55 => True) (none, 0) trivial (by exact .cons rfl (.cons rfl (.cons rfl (.cons rfl (.cons rfl (.cons rfl (.cons rfl (.nil)))))))) (by exact .pick 0 rfl (.pick 0 rfl (.pick 0 rfl (.refl)))) ?_
    intro s55 y55 hG55 x55 hx55 ht55
    unfold label_lowestOf_1_l3 at hx55
    refine T_seq ?_
    refine T_reg ?_
    refine T_val (Ev_lss rfl rfl) rfl ?_
    refine T_nil ?_
    refine T_next ?_
    refine T_seq ?_
    refine T_caseP (s := 17) rfl (fun h57 => ?_) (fun h57 => ?_)
    · have hx58 := ite_t h57 hx55
      refine T_condT rfl ?_
      refine T_skip ?_
      refine T_next ?_
      obtain ⟨j16, hj16, hx58⟩ := jn_some hx58
      refine T_cutP (τ := (List (S_api_XY × S_api_Point)) × (List S_api_XY)) (γ := (Option Addr) × Nat) (J := j16) (out := x55) (fun s16 y16 => [(0, .func (.yield l) #[] #[]), (2, .pointer (some ⟨g0_2, 0, none⟩)), (4, .map (some g1)), (5, .slice (y16.1) ((s16.2).length) (y16.2)), (14, .slice (A0_0) ((p1).length) (c0_0)), (15, .int .i64 ((((p1).length : Nat) : Int))), (16, .int .i64 (s55.2.2))]) (fun s16 y16 => [.r (y16.1) ((s16.2).length) (y16.2) 24 2 ((s16.2).flatMap e_api_XY), mapE Try.prog 24 v_api_XY v_api_Point g1 (s16.1), ye] ++ Lf) (fun s16 y16 => True) ?_ ?_
      · intro s16 y16 hx106 hG107
        subst hj16
        refine T_reg ?_
        refine T_val (Ev_add_w64 rfl rfl) rfl ?_
        refine T_val (Ev_move rfl) rfl ?_
        refine T_nil ?_
        exact T_roundP (s16.1, s16.2, w64 (s55.2.2 + 1)) (y16.1, y16.2) hx106 trivial (by exact .cons rfl (.cons rfl (.cons rfl (.cons rfl (.cons rfl (.cons rfl (.cons rfl (.nil)))))))) (by exact .pick 0 rfl (.pick 0 rfl (.pick 0 rfl (.refl))))
      · skip
        refine T_block ?_
        refine T_seq ?_
        refine T_reg ?_
        obtain ⟨x60, h61, hx62⟩ := bnd_some hx58
        obtain ⟨b63, o64, j65, hA66, hj67, hl68, hp69⟩ := Has.at_idx ha0' h61
        refine T_val (Ev_index rfl rfl hA66 (j := j65) hj67 hl68 slc31) rfl ?_
        refine T_val (Ev_loadPK0 rfl hp69 (SubE.appC (SubE.tail (SubE.tail (SubE.tail (hKf)))) (SubE.nil)) rfl agg53) rfl ?_
        refine T_x (Wx_alloc zer53 rfl (fun g70 => ?_))
        refine T_h (Wh_store rfl rfl rfl (.here) (.put (.put (.put (.put (.put (.put (.put (.put (.put (.done)))))))))) rfl (List.cons_ne_nil _ _) agg53.2 ?_)
        refine T_nil ?_
        refine T_next ?_
        refine T_seq ?_
        refine T_reg ?_
        refine T_val (Ev_loadP0 rfl hp2' (SubE.appC (SubE.tail (SubE.tail (SubE.tail (SubE.tail (hKf))))) (SubE.nil)) rfl one84) rfl ?_
        refine T_val (Ev_loadK rfl (i := 0) rfl rfl agg53) rfl ?_
        obtain ⟨x71, h72, hx73⟩ := bnd_some hx62
        refine T_x (Wx_callKey (u := x60) hkey rfl rfl h72 (SubE.tail (SubE.tail (SubE.tail (SubE.tail hKf)))) rfl ?_)
        refine T_x (Wx_alloc zer24 rfl (fun g74 => ?_))
        refine T_h (Wh_store rfl rfl rfl (.here) (.put (.put (.done))) rfl (List.cons_ne_nil _ _) agg24.2 ?_)
        refine T_nil ?_
        refine T_next ?_
        refine T_seq ?_
        refine T_reg ?_
        refine T_val (Ev_move rfl) rfl ?_
        refine T_val (Ev_loadK rfl (i := 0) rfl rfl agg24) rfl ?_
        obtain ⟨h75, hx76⟩ := gd_some hx73
        obtain ⟨x77, h78, hx79⟩ := bnd_some hx76
        refine T_val (Ev_lookGOk (x := x71) (i := 3) (vv := .agg #[.int .i64 (x77.Id), .int .i64 (x77.X), .int .i64 (x77.Y), .int .i64 (x77.Z.Lo), .int .i64 (x77.Z.Hi), .int .i64 (x77.Wide), .int .i64 (x77.Num), .int .i64 (x77.Of), .int .i64 (x77.Class)]) key24 Try.underlying92 (fun w => by kernel_rfl) v_api_XY_inj rfl rfl rfl rfl (isk24 x71 h75) h78 rfl) rfl ?_
        refine T_val (Ev_move rfl) rfl ?_
        refine T_val (Ev_extract rfl rfl) rfl ?_
        refine T_val (Ev_extract rfl rfl) rfl ?_
        refine T_x (Wx_alloc zer53 rfl (fun g80 => ?_))
        refine T_h (Wh_store rfl rfl rfl (.here) (.put (.put (.put (.put (.put (.put (.put (.put (.put (.done)))))))))) rfl (List.cons_ne_nil _ _) agg53.2 ?_)
        refine T_val (Ev_assign rfl) rfl ?_
        refine T_nil ?_
        refine T_next ?_
        obtain ⟨j20, hj20, hx79⟩ := jn_some hx79
        refine T_cutP (τ := List S_api_XY) (γ := (Option Addr) × Nat) (J := j20) (out := x55) (fun s20 y20 => [(0, .func (.yield l) #[] #[]), (2, .pointer (some ⟨g0_2, 0, none⟩)), (4, .map (some g1)), (5, .slice (y20.1) ((s20).length) (y20.2)), (7, .pointer (some ⟨g70, 0, none⟩)), (8, .pointer (some ⟨g74, 0, none⟩)), (9, .pointer (some ⟨g80, 0, none⟩)), (10, .bool ((mget s55.1 x71).isSome)), (14, .slice (A0_0) ((p1).length) (c0_0)), (15, .int .i64 ((((p1).length : Nat) : Int))), (16, .int .i64 (s55.2.2))]) (fun s20 y20 => [.m g80 53 [.int .i64 (x77.Id), .int .i64 (x77.X), .int .i64 (x77.Y), .int .i64 (x77.Z.Lo), .int .i64 (x77.Z.Hi), .int .i64 (x77.Wide), .int .i64 (x77.Num), .int .i64 (x77.Of), .int .i64 (x77.Class)], .m g74 24 [.int .i64 (x71.X), .int .i64 (x71.Y)], .m g70 53 [.int .i64 (x60.Id), .int .i64 (x60.X), .int .i64 (x60.Y), .int .i64 (x60.Z.Lo), .int .i64 (x60.Z.Hi), .int .i64 (x60.Wide), .int .i64 (x60.Num), .int .i64 (x60.Of), .int .i64 (x60.Class)], .r (y20.1) ((s20).length) (y20.2) 24 2 ((s20).flatMap e_api_XY), mapE Try.prog 24 v_api_XY v_api_Point g1 (s55.1), ye] ++ Lf) (fun s20 y20 => True) ?_ ?_
        · intro s20 y20 hx89 hG90
          subst hj20
          obtain ⟨j22, hj22, hx89⟩ := jn_some hx89
          refine T_cutP (τ := Bool) (γ := Unit) (J := j22) (out := x55) (fun s22 y22 => [(0, .func (.yield l) #[] #[]), (2, .pointer (some ⟨g0_2, 0, none⟩)), (4, .map (some g1)), (5, .slice (y20.1) ((s20).length) (y20.2)), (7, .pointer (some ⟨g70, 0, none⟩)), (8, .pointer (some ⟨g74, 0, none⟩)), (14, .slice (A0_0) ((p1).length) (c0_0)), (15, .int .i64 ((((p1).length : Nat) : Int))), (16, .int .i64 (s55.2.2)), (41, .bool (s22))]) (fun s22 y22 => [.m g74 24 [.int .i64 (x71.X), .int .i64 (x71.Y)], .m g70 53 [.int .i64 (x60.Id), .int .i64 (x60.X), .int .i64 (x60.Y), .int .i64 (x60.Z.Lo), .int .i64 (x60.Z.Hi), .int .i64 (x60.Wide), .int .i64 (x60.Num), .int .i64 (x60.Of), .int .i64 (x60.Class)], .r (y20.1) ((s20).length) (y20.2) 24 2 ((s20).flatMap e_api_XY), mapE Try.prog 24 v_api_XY v_api_Point g1 (s55.1), ye] ++ Lf) (fun s22 y22 => True) ?_ ?_
          · intro s22 y22 hx97 hG98
            subst hj22
            refine T_caseB (s := 41) rfl (fun h99 => ?_) (fun h99 => ?_)
            · have hx100 := ite_t h99 hx97
              refine T_condT rfl ?_
              refine T_reg ?_
              refine T_val (Ev_move rfl) rfl ?_
              refine T_val (Ev_loadK rfl (i := 0) rfl rfl agg24) rfl ?_
              refine T_val (Ev_loadK rfl (i := 1) rfl rfl agg53) rfl ?_
              obtain ⟨h101, hx102⟩ := gd_some hx100
              obtain ⟨h103, hx104⟩ := gd_some hx102
              refine T_h (Wh_mapPut (x := x71) (y := x60) key24 Try.underlying92 rfl rfl rfl rfl rfl (.there (.there (.there (.here)))) (isk24 x71 h101) h103 ?_)
              refine T_nil ?_
              refine T_inN ?_
              exact T_metP ((x71, x60) :: s55.1, s20) (y20.1, y20.2) hx104 trivial (by exact .cons rfl (.cons rfl (.cons rfl (.cons rfl (.cons rfl (.cons rfl (.cons rfl (.nil)))))))) (by exact .pick 2 rfl (.pick 2 rfl (.pick 2 rfl (.drop 0 rfl (.drop 0 rfl (.refl))))))
            · have hx105 := ite_bf h99 hx97
              refine T_condF rfl ?_
              refine T_skip ?_
              refine T_inN ?_
              exact T_metP (s55.1, s20) (y20.1, y20.2) hx105 trivial (by exact .cons rfl (.cons rfl (.cons rfl (.cons rfl (.cons rfl (.cons rfl (.cons rfl (.nil)))))))) (by exact .pick 2 rfl (.pick 2 rfl (.pick 2 rfl (.drop 0 rfl (.drop 0 rfl (.refl))))))
          · skip
            refine T_reg ?_
            refine T_val (Ev_move rfl) rfl ?_
            refine T_val (Ev_not rfl) rfl ?_
            refine T_val (Ev_move rfl) rfl ?_
            refine T_caseNB (s := 37) rfl (fun h91 => ?_) (fun h91 => ?_)
            · have hx92 := ite_bf h91 hx89
              refine T_skipG rfl rfl rfl rfl rfl ?_
              refine T_skipG rfl rfl rfl rfl rfl ?_
              refine T_skipG rfl rfl rfl rfl rfl ?_
              refine T_val (Ev_pickT rfl rfl) rfl ?_
              refine T_nil ?_
              exact T_metP true () hx92 trivial (by exact .cons rfl (.cons rfl (.cons rfl (.cons rfl (.cons rfl (.cons rfl (.cons rfl (.cons rfl (.cons rfl (.cons rfl (.nil))))))))))) (by exact .pick 1 rfl (.pick 1 rfl (.pick 1 rfl (.pick 1 rfl (.pick 1 rfl (.drop 0 rfl (.refl)))))))
            · have hx93 := ite_t h91 hx89
              refine T_valG rfl rfl rfl (Ev_loadK rfl (i := 2) rfl rfl agg53) rfl ?_
              refine T_valG rfl rfl rfl (Ev_loadK rfl (i := 0) rfl rfl agg53) rfl ?_
              obtain ⟨r94, h95, hx96⟩ := bnd_some hx93
              refine T_xG rfl rfl rfl (Wx_callL rfl (fun w1 hw1 => label_lower_ok x60 x77  h95 w1) rfl ?_)
              rintro _ _ hlo ⟨rfl, rfl, -⟩
              refine T_app0 ?_
              refine T_val (Ev_pickF rfl rfl) rfl ?_
              refine T_nil ?_
              exact T_metP r94 () hx96 trivial (by exact .cons rfl (.cons rfl (.cons rfl (.cons rfl (.cons rfl (.cons rfl (.cons rfl (.cons rfl (.cons rfl (.cons rfl (.nil))))))))))) (by exact .pick 1 rfl (.pick 1 rfl (.pick 1 rfl (.pick 1 rfl (.pick 1 rfl (.drop 0 rfl (.refl)))))))
        · skip
          refine T_seq ?_
          refine T_reg ?_
          refine T_val (Ev_move rfl) rfl ?_
          refine T_val (Ev_not rfl) rfl ?_
          refine T_nil ?_
          refine T_next ?_
          refine T_caseNB (s := 30) rfl (fun h81 => ?_) (fun h81 => ?_)
          · have hx82 := ite_bf h81 hx79
            refine T_condT rfl ?_
            refine T_reg ?_
            refine T_val (Ev_move rfl) rfl ?_
            refine T_val (Ev_loadK rfl (i := 1) rfl rfl agg24) rfl ?_
            refine T_x (Wx_buildSlice rfl (bls22_1_0ai64i64 _ _) rfl (fun g83 => ?_))
            obtain ⟨h84, hx85⟩ := gd_some hx82
            refine T_h (Wh_appendP e_api_XY (s55.2.1) [x71] rfl rfl rfl elm22 (fun _ => rfl) (i' := 0) rfl rfl rfl rfl h84 rfl (fun _ _ => .there (.there (.there (.there (.here))))) (fun _ _ => .drop .refl) (by decide) (fun A86 c87 => ?_))
            refine T_val (Ev_assign rfl) rfl ?_
            refine T_nil ?_
            exact T_metP (s55.2.1 ++ [x71]) (A86, c87) hx85 trivial (by exact .cons rfl (.cons rfl (.cons rfl (.cons rfl (.cons rfl (.cons rfl (.cons rfl (.cons rfl (.cons rfl (.cons rfl (.cons rfl (.nil)))))))))))) (by exact .pick 0 rfl (.pick 0 rfl (.pick 0 rfl (.pick 0 rfl (.pick 0 rfl (.pick 0 rfl (.refl)))))))
          · have hx88 := ite_t h81 hx79
            refine T_condF rfl ?_
            refine T_skip ?_
            exact T_metP s55.2.1 (y55.1, y55.2) hx88 trivial (by exact .cons rfl (.cons rfl (.cons rfl (.cons rfl (.cons rfl (.cons rfl (.cons rfl (.cons rfl (.cons rfl (.cons rfl (.cons rfl (.nil)))))))))))) (by exact .pick 0 rfl (.pick 0 rfl (.pick 0 rfl (.pick 0 rfl (.pick 0 rfl (.pick 0 rfl (.refl)))))))
    · have hx59 := ite_f h57 hx55
      refine T_condF rfl ?_
      refine T_exit ?_
      refine T_outX ?_
      obtain rfl := exit_eq ht55 hx59
      refine T_outX ?_
      refine T_here ?_
      exact T_metP (s55.1, s55.2.1) (y55.1, y55.2) ho55 trivial (by exact .cons rfl (.cons rfl (.cons rfl (.nil)))) (by exact .pick 0 rfl (.pick 0 rfl (.pick 0 rfl (.refl))))
set_option maxRecDepth 100000 in
theorem label_seeds_1_ok (p0 : S_api_Point) (p1 : S_api_Terrain) {K : List Ent} {g0_1 : Nat} (hp1 : Pt K g0_1 0 [.int .i64 (p1.Cell), .int .i64 (p1.Reach), .int .i64 (p1.Slope), .int .i64 (p1.Link), .int .i64 (p1.Flat), .int .i64 (p1.Tall), .int .i64 (p1.High), .int .i64 (p1.Low), .int .i64 (p1.Brush), .int .i64 (p1.Few)]) {r : S_api_XY} (hx : label_seeds_1 p0 p1 = some r) (w : World) (hK : ∀ e ∈ K, Ent.ok w e) : CtL Try.prog 61 [.agg #[.int .i64 (p0.Id), .int .i64 (p0.X), .int .i64 (p0.Y), .int .i64 (p0.Z.Lo), .int .i64 (p0.Z.Hi), .int .i64 (p0.Wide), .int .i64 (p0.Num), .int .i64 (p0.Of), .int .i64 (p0.Class)], .pointer (some ⟨g0_1, 0, none⟩)] w fun v Ln => v = .agg #[.int .i64 (r.X), .int .i64 (r.Y)] ∧ Ln = [] ∧ True := by
  have hp1' := Pt.low (E := []) (Pt.up0 hp1) hK
  refine CtL.mk 15 Try.func61 rfl Try.ntmps61 (by kernel_rfl) rfl ?_
  show T 15 _ [(0, .agg #[.int .i64 (p0.Id), .int .i64 (p0.X), .int .i64 (p0.Y), .int .i64 (p0.Z.Lo), .int .i64 (p0.Z.Hi), .int .i64 (p0.Wide), .int .i64 (p0.Num), .int .i64 (p0.Of), .int .i64 (p0.Class)]), (1, .pointer (some ⟨g0_1, 0, none⟩))] _
  unfold label_seeds_1 at hx
  refine T_seq ?_
  refine T_reg ?_
  refine T_x (Wx_box rfl rfl rfl (fun g1 => ?_))
  refine T_x (Wx_alloc zer24 rfl (fun g2 => ?_))
  refine T_nil ?_
  refine T_next ?_
  refine T_seq ?_
  refine T_draw [0, 1, 0, 1, 2, 0, 1, 0, 1, 2, 0, 3] [[], [0], [], [2], [0, 1, 2, 3], [], [5], [], [7], [0, 1, 2, 3, 4, 5, 6, 7, 8], [0, 1, 2, 3, 4, 5, 6, 7, 8, 9], [0, 1, 2, 3, 4, 5, 6, 7, 8, 9, 10]] (.q 0 (.q 1 (.q 2 (.q 3 (.q 5 (.q 6 (.q 7 (.q 8 (.e 4 (.e 9 (.q 10 (.e 11 (.done) (.stop))) (.stop)) (.stop)))))))))) mixed (by kernel_rfl) (by kernel_rfl) ?_
  refine P_p rfl rfl (Ev_field rfl fld53_1 rfl) rfl ?_
  refine P_q rfl rfl (Ev_load1 rfl (i := 1) rfl rfl one3) rfl ?_
  refine P_p rfl rfl (Ev_field rfl fld33_0 rfl) rfl ?_
  refine P_q rfl rfl (Ev_loadP1 (d := 0) rfl hp1' (SubE.cons2 (i := 2) rfl (SubE.nil)) rfl one3) rfl ?_
  refine P_p rfl rfl (Ev_field rfl fld53_2 rfl) rfl ?_
  refine P_q rfl rfl (Ev_load1 rfl (i := 1) rfl rfl one3) rfl ?_
  refine P_p rfl rfl (Ev_field rfl fld33_0 rfl) rfl ?_
  refine P_q rfl rfl (Ev_loadP1 (d := 0) rfl hp1' (SubE.cons2 (i := 2) rfl (SubE.nil)) rfl one3) rfl ?_
  obtain ⟨r3, h4, hx5⟩ := bnd_some hx
  refine P_x rfl (Wx_callL rfl (fun w1 hw1 => label_floor_ok p0.X p1.Cell  h4 w1) rfl ?_) ?_
  rotate_left; exact P_stop
  rintro _ _ hlo ⟨rfl, rfl, -⟩
  refine T_app0 ?_
  obtain ⟨r6, h7, hx8⟩ := bnd_some hx5
  refine P_x rfl (Wx_callL rfl (fun w1 hw1 => label_floor_ok p0.Y p1.Cell  h7 w1) rfl ?_) ?_
  rotate_left; exact P_stop
  rintro _ _ hlo ⟨rfl, rfl, -⟩
  refine T_app0 ?_
  refine P_p rfl rfl (Ev_build rfl (bld24_0i641i64 _ _)) rfl ?_
  refine P_h rfl rfl (Wh_store rfl rfl rfl (.here) (.put (.put (.done))) rfl (List.cons_ne_nil _ _) agg24.2 ?_) ?_
  rotate_left; exact P_stop
  refine P_done ?_
  refine T_next ?_
  refine T_retc ?_
  obtain rfl := Option.some.inj hx8
  exact T_retP (rs := [.cell 3 24]) Try.results61 (.cell rfl (i := 0) rfl rfl agg24 (.nil)) (Ln := []) ⟨rfl, rfl, trivial⟩ (loNil) (by exact .drop 0 rfl (.drop 0 rfl (.refl)))
end Go.Proofs.Ytdkjcoonmgjpfaa
