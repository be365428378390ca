/- Walks of the program, with their plain functions: points, edits. -/
import Derived.Test.YtdkjcoonmgjpfaaJ2h
import Derived.Test.YtdkjcoonmgjpfaaFlow10
namespace Go.Proofs.Ytdkjcoonmgjpfaa
open Go Go.RowKit
theorem slc43 : SliceOf Try.prog 43 72 4 := .mk Try.underlying43 (show Try.prog.info? 72 = some Try.t72 from by kernel_rfl) (by kernel_rfl)
theorem agg72 : AggOf Try.prog 72 4 := .mk Try.underlying72 rfl (show Try.prog.info? 72 = some Try.t72 from by kernel_rfl) (by kernel_rfl)
theorem zer72 : ZeroOf Try.prog 72 [.int .i64 (0), .slice (none) (0) (0), .int .i64 (0), .int .i64 (0)] := ⟨_, Try.zeroValue72, rfl⟩
theorem fld72_1 : FieldOf Try.prog 72 1 1 := .mk Try.underlying72 rfl rfl (show Try.prog.info? 22 = some Try.t22 from by kernel_rfl) (show Try.t22.size = 1 from by kernel_rfl) rfl
theorem one22 : OneOf Try.prog 22 := .mk Try.underlying22 rfl (show Try.prog.info? 22 = some Try.t22 from by kernel_rfl) (by kernel_rfl)
theorem fld72_3 : FieldOf Try.prog 72 3 3 := .mk Try.underlying72 rfl rfl (show Try.prog.info? 3 = some Try.t3 from by kernel_rfl) (show Try.t3.size = 1 from by kernel_rfl) rfl
theorem fld72_2 : FieldOf Try.prog 72 2 2 := .mk Try.underlying72 rfl rfl (show Try.prog.info? 3 = some Try.t3 from by kernel_rfl) (show Try.t3.size = 1 from by kernel_rfl) rfl
theorem fld72_0 : FieldOf Try.prog 72 0 0 := .mk Try.underlying72 rfl rfl (show Try.prog.info? 3 = some Try.t3 from by kernel_rfl) (show Try.t3.size = 1 from by kernel_rfl) rfl
theorem bls35_0_  : BuildSliceOf Try.prog 35 0 [] 3 [] := fun w => by kernel_rfl
theorem slc35 : SliceOf Try.prog 35 3 1 := .mk Try.underlying35 (show Try.prog.info? 3 = some Try.t3 from by kernel_rfl) (by kernel_rfl)
noncomputable def label_ids_l3 (p0 : List S_api_Point) : ((List Int) × Int) → Option (Sum ((List Int) × Int) (List Int)) := fun s28 =>
 if s28.2 < ((((p0).length : Nat) : Int)) then (bnd (idx p0 s28.2) fun x34 =>
 gd (((s28.1).length + 1) * 8 ≤ 140737488355328) <|
 some (.inl (s28.1 ++ [x34.Id], w64 (s28.2 + 1))))
 else (some (.inr s28.1))
noncomputable def label_ids (p0 : List S_api_Point) : Option (List Int) :=
 gd ((0 : Int) ≤ ((((p0).length : Nat) : Int)) ∧ 8 * Int.toNat ((((p0).length : Nat) : Int)) ≤ 140737488355328) <|
 jn (fun (s3 : List Int) =>
 gd ((s3).length ≤ 1000000) <|
 some (sortI s3))
 (fun j3 => bnd (lfix (label_ids_l3 p0) (([] : List Int), 0)) fun t28 =>
 j3 t28)
noncomputable def label_Sunk (p0 : List S_api_Point) (p1 : S_api_Terrain) : Option ((List Int) × Int) :=
 bnd (label_checked p0 p1) fun r2 =>
 if r2 = 0 then (bnd (label_parted p0 p1) fun r8 =>
 bnd (label_ids r8.2) fun r17 =>
 some (r17, 0))
 else (some (([] : List Int), r2))
noncomputable def label_lasts_l3 (p0 : List S_api_Point) : ((List S_api_Point) × Int) → Option (Sum ((List S_api_Point) × Int) (List S_api_Point)) := fun s28 =>
 if s28.2 < ((((p0).length : Nat) : Int)) then (jn (fun (s12 : List S_api_Point) =>
 some (.inl (s12, w64 (s28.2 + 1))))
 (fun j12 => bnd (idx p0 s28.2) fun x33 =>
 if x33.Num = x33.Of then (gd (((s28.1).length + 1) * 72 ≤ 140737488355328) <|
 j12 (s28.1 ++ [x33]))
 else (j12 s28.1)))
 else (some (.inr s28.1))
noncomputable def label_lasts (p0 : List S_api_Point) : Option (List S_api_Point) :=
 jn (fun (s3 : List S_api_Point) =>
 bnd (collectP label_place s3) fun r61 =>
 some r61)
 (fun j3 => bnd (lfix (label_lasts_l3 p0) (([] : List S_api_Point), 0)) fun t28 =>
 j3 t28)
noncomputable def label_Lowest (p0 : List S_api_Point) : Option ((List Int) × Int) :=
 bnd (label_Valid p0) fun r1 =>
 if r1 = true then (bnd (label_lasts p0) fun r7 =>
 bnd (label_ids r7) fun r14 =>
 some (r14, 0))
 else (some (([] : List Int), 70))
noncomputable def label_candidates (p0 : List S_api_Point) (p1 : S_api_Terrain) : Option (List S_api_Point) :=
 bnd (label_parted p0 p1) fun r2 =>
 bnd (label_lasts r2.1) fun r11 =>
 some r11
noncomputable def label_Seeds (p0 : List S_api_Point) (p1 : S_api_Terrain) : Option ((List Int) × Int) :=
 bnd (label_checked p0 p1) fun r2 =>
 if r2 = 0 then (bnd (label_candidates p0 p1) fun r8 =>
 bnd (label_seeds r8 p1) fun r15 =>
 some (r15, 0))
 else (some (([] : List Int), r2))
noncomputable def label_isClass (p0 : Int) : Option Bool :=
 jn (fun (s4 : Bool) =>
 if s4 = true then (some true)
 else (some false))
 (fun j4 => if p0 = 0 then (j4 true)
 else (if p0 = 1 then (j4 true)
 else (if p0 = 2 then (j4 true)
 else (if p0 = 5 then (j4 true)
 else (if p0 = 6 then (j4 true)
 else (j4 (decide (p0 = 7))))))))
def n_api_Edit (K : List Ent) (x : S_api_Edit) (ys : List Value) : Prop := ∃ (A0 : Option Addr) (c0 : Nat), ys = [.int .i64 (x.Id), .slice (A0) ((x.Ring).length) (c0), .int .i64 (x.From), .int .i64 (x.To)] ∧ Has K A0 (x.Ring).length c0 2 e_api_XY (x.Ring)
theorem n_api_Edit_mono {K L : List Ent} {x : S_api_Edit} {ys : List Value} (hK : SubE K L) (h : n_api_Edit K x ys) : n_api_Edit L x ys := by
  obtain ⟨A0, c0, h0, h1⟩ := h
  exact ⟨A0, c0, h0, Has.up h1 hK⟩
noncomputable def label_validEdits_l4 (p0 : List S_api_Edit) : Int → Option (Sum Int (Sum Unit Int)) := fun s69 =>
 if s69 < ((((p0).length : Nat) : Int)) then (bnd (idx p0 s69) fun x73 =>
 jn (fun (s19 : Bool) =>
 if s19 = true then (some (.inr (.inr (73))))
 else (some (.inl (w64 (s69 + 1)))))
 (fun j19 => if 0 < ((((x73.Ring).length : Nat) : Int)) then (bnd (label_validRing x73.Ring) fun r92 =>
 if r92 = true then (bnd (label_isClass x73.To) fun r98 =>
 if r98 = true then (if 0 < ((((x73.Ring).length : Nat) : Int)) then (if x73.From = (-1) then (j19 false)
 else (bnd (label_isClass x73.From) fun r108 =>
 j19 (!(r108))))
 else (j19 false))
 else (j19 true))
 else (j19 true))
 else (bnd (label_isClass x73.To) fun r114 =>
 if r114 = true then (if 0 < ((((x73.Ring).length : Nat) : Int)) then (if x73.From = (-1) then (j19 false)
 else (bnd (label_isClass x73.From) fun r124 =>
 j19 (!(r124))))
 else (j19 false))
 else (j19 true))))
 else (some (.inr (.inl ())))
noncomputable def label_validEdits (p0 : List S_api_Edit) : Option Int :=
 if 64 < ((((p0).length : Nat) : Int)) then (some 2)
 else (jn (fun (s5 : Unit) =>
 some 0)
 (fun j5 => bnd (lfix (label_validEdits_l4 p0) 0) fun t69 =>
 (match t69 with
 | (.inl z69) => j5 z69
 | (.inr (z69)) => some z69
 )))
noncomputable def label_applies (p0 : S_api_Edit) (p1 : S_api_Point) (p2 : Int) : Option Bool :=
 if ((((p0.Ring).length : Nat) : Int)) = 0 then (some (decide (p0.Id = p1.Id)))
 else (jn (fun (s5 : Bool) =>
 some s5)
 (fun j5 => if p0.From = (-1) then (bnd (label_place p1) fun r8 =>
 bnd (label_inRing p0.Ring r8) fun r11 =>
 j5 r11)
 else (if p0.From = p2 then (bnd (label_place p1) fun r17 =>
 bnd (label_inRing p0.Ring r17) fun r20 =>
 j5 r20)
 else (j5 false))))
noncomputable def clone_Int (p0 : List Int) : Option (List Int) := gd (p0.length * 8 ≤ 140737488355328) <| some p0
set_option maxRecDepth 100000 in
theorem clone_Int_ok (p0 : List Int) {K : List Ent} {A0_0 : Option Addr} {c0_0 : Nat} (ha0 : Has K A0_0 p0.length c0_0 1 e_i64 p0) {r : List Int} (hx : clone_Int p0 = some r) (w : World) (hK : ∀ e ∈ K, Ent.ok w e) :
    CtL Try.prog 64 [.slice A0_0 p0.length c0_0] w (fun v Ln => ∃ (A0 : Option Addr) (c0 : Nat), v = .slice A0 (r).length c0 ∧ Ln = [.r A0 (r).length c0 3 1 ((r).flatMap e_i64)] ∧ True) := by
  obtain ⟨hb, hx⟩ := gd_some hx
  obtain rfl := Option.some.inj hx
  have ha : Has [.old w] A0_0 p0.length c0_0 1 e_i64 p0 := Has.low (E := []) (by rw [List.append_nil]; exact ha0) hK
  refine CtL.mk 8 Try.func64 rfl Try.ntmps64 (by kernel_rfl) rfl ?_
  show T 8 _ [(0, .slice A0_0 p0.length c0_0)] _
  refine T_seq ?_
  refine T_reg ?_
  refine T_val (Ev_assign rfl) rfl ?_
  refine T_nil ?_
  refine T_next ?_
  refine T_seq ?_
  refine T_seq ?_
  refine T_reg ?_
  refine T_val (Ev_move rfl) rfl ?_
  refine T_val (Ev_eqlNil Try.underlying35 rfl rfl) rfl ?_
  refine T_nil ?_
  refine T_next ?_
  cases hA : A0_0 with
  | none =>
    subst hA
    have h0 : p0 = [] := by
      cases p0 with
      | nil => rfl
      | cons x r => obtain ⟨b, o, h, _⟩ := ha.at_ (by simp); cases h
    subst h0
    refine T_condT rfl ?_
    refine T_seq ?_
    refine T_reg ?_
    refine T_val (Ev_assign rfl) rfl ?_
    refine T_nil ?_
    refine T_next ?_
    refine T_retc ?_
    refine T_outR ?_
    refine T_none 3 1 ?_
    exact T_retP (rs := [.tmp 2]) Try.results64 (.tmp rfl .nil) (Ln := [.r none 0 0 3 1 []]) ⟨none, 0, rfl, rfl, trivial⟩ (loCons rfl loNil) (.pick 0 rfl (.pick 0 rfl .refl))
  | some a =>
    subst hA
    refine T_condF rfl ?_
    refine T_skip ?_
    refine T_next ?_
    refine T_seq ?_
    refine T_reg ?_
    refine T_x (Wx_buildSlice rfl (bls35_0_) rfl (fun g5 => ?_))
    refine T_val (Ev_move rfl) rfl ?_
    refine T_mr (enc := e_i64) (sz := 1) (([] : List Int)) (.here) rfl rfl (fun _ => rfl) (by decide) ?_
    refine T_h (Wh_appendH e_i64 ([] : List Int) p0 rfl rfl elm35 (fun _ => rfl) ha (SubE.cons2 (i := 1) rfl SubE.nil) (fun _ => rfl) (by rw [List.length_nil, Nat.zero_add]; exact hb) rfl (fun _ _ => .here) (by decide) (fun A1 c1 => ?_))
    refine T_val (Ev_assign rfl) rfl ?_
    refine T_nil ?_
    refine T_next ?_
    refine T_retc ?_
    exact T_retP (rs := [.tmp 2]) Try.results64 (.tmp rfl .nil) (Ln := [.r A1 p0.length c1 3 1 (p0.flatMap e_i64)]) ⟨A1, c1, rfl, rfl, trivial⟩ (loCons rfl loNil) (.pick 0 rfl (.pick 0 rfl .refl))

noncomputable def label_corrected_l6 (p2 : List S_api_Edit) (s130 : (List Int) × Int) (x134 : S_api_Point) : ((List Int) × Int) → Option (Sum ((List Int) × Int) (List Int)) := fun s199 =>
 if s199.2 < ((((p2).length : Nat) : Int)) then (jn (fun (s32 : List Int) =>
 some (.inl (s32, w64 (s199.2 + 1))))
 (fun j32 => bnd (idx p2 s199.2) fun x203 =>
 bnd (idx s199.1 s130.2) fun x220 =>
 bnd (label_applies x203 x134 x220) fun r231 =>
 if r231 = true then (bnd (idx s199.1 s130.2) fun x236 =>
 j32 (setI s199.1 s130.2 x203.To))
 else (j32 s199.1)))
 else (some (.inr s199.1))
noncomputable def label_corrected_l3 (p0 : List S_api_Point) (p2 : List S_api_Edit) : ((List Int) × Int) → Option (Sum ((List Int) × Int) (List Int)) := fun s130 =>
 if s130.2 < ((((p0).length : Nat) : Int)) then (jn (fun (s22 : List Int) =>
 some (.inl (s22, w64 (s130.2 + 1))))
 (fun j22 => bnd (idx p0 s130.2) fun x134 =>
 bnd (lfix (label_corrected_l6 p2 s130 x134) (s130.1, 0)) fun t199 =>
 j22 t199))
 else (some (.inr s130.1))
noncomputable def label_corrected (p0 : List S_api_Point) (p1 : List Int) (p2 : List S_api_Edit) : Option (List Int) :=
 bnd (clone_Int p1) fun r1 =>
 jn (fun (s3 : List Int) =>
 some s3)
 (fun j3 => bnd (lfix (label_corrected_l3 p0 p2) (r1, 0)) fun t130 =>
 j3 t130)
noncomputable def label_Correct (p0 : List S_api_Point) (p1 : List Int) (p2 : List S_api_Edit) : Option ((List Int) × Int) :=
 bnd (label_Valid p0) fun r1 =>
 if r1 = true then (if ((((p1).length : Nat) : Int)) = ((((p0).length : Nat) : Int)) then (bnd (label_validEdits p2) fun r10 =>
 if r10 = 0 then (bnd (label_corrected p0 p1 p2) fun r16 =>
 some (r16, 0))
 else (some (([] : List Int), r10)))
 else (some (([] : List Int), 2)))
 else (some (([] : List Int), 70))
set_option maxRecDepth 100000 in
theorem label_ids_ok (p0 : List S_api_Point) {K : List Ent} {A0_0 : Option Addr} {c0_0 : Nat} (ha0 : Has K A0_0 (p0).length c0_0 9 e_api_Point (p0)) {r : List Int} (hx : label_ids p0 = some r) (w : World) (hK : ∀ e ∈ K, Ent.ok w e) : CtL Try.prog 35 [.slice (A0_0) ((p0).length) (c0_0)] w fun v Ln => ∃ (A0 : Option Addr) (c0 : Nat), v = .slice (A0) ((r).length) (c0) ∧ Ln = [.r A0 (r).length c0 3 1 ((r).flatMap e_i64)] ∧ True := by
  have ha0' := Has.up0 ha0
  refine CtL.mk 24 Try.func35 rfl Try.ntmps35 (by kernel_rfl) rfl ?_
  show T 24 _ [(0, .slice (A0_0) ((p0).length) (c0_0))] _
  unfold label_ids at hx
  refine T_seq ?_
  refine T_reg ?_
  refine T_val (Ev_assign rfl) rfl ?_
  refine T_nil ?_
  refine T_next ?_
  refine T_seq ?_
  refine T_reg ?_
  refine T_val (Ev_move rfl) rfl ?_
  refine T_val (Ev_len rfl 53 Try.underlying31) rfl ?_
  obtain ⟨h2, hx3⟩ := gd_some hx
  refine T_x (Wx_make0 (z := .int .i64 (0)) rfl rfl (m := Int.toNat ((((p0).length : Nat) : Int))) rfl (by omega) Try.underlying35 (show Try.prog.info? 3 = some Try.t3 from by kernel_rfl) (by kernel_rfl) rfl (by kernel_rfl) (by show 8 * _ ≤ _; omega) (by omega) rfl (fun A1 c4 => ?_))
  refine T_val (Ev_assign rfl) rfl ?_
  refine T_nil ?_
  refine T_next ?_
  obtain ⟨j3, hj3, hx3⟩ := jn_some hx3
  refine T_cutP (τ := List Int) (γ := (Option Addr) × Nat) (J := j3) (out := r) (fun s3 y3 => [(3, .slice (y3.1) ((s3).length) (y3.2))]) (fun s3 y3 => [.r (y3.1) ((s3).length) (y3.2) 3 1 ((s3).flatMap e_i64)] ++ [.old w]) (fun s3 y3 => True) ?_ ?_
  · intro s3 y3 hx51 hG52
    subst hj3
    refine T_seq ?_
    refine T_reg ?_
    refine T_val (Ev_move rfl) rfl ?_
    obtain ⟨h53, hx54⟩ := gd_some hx51
    refine T_h (Wh_sort (s3) rfl h53 (.here) rfl ?_)
    refine T_nil ?_
    refine T_next ?_
    refine T_seq ?_
    refine T_reg ?_
    refine T_val (Ev_move rfl) rfl ?_
    refine T_val (Ev_assign rfl) rfl ?_
    refine T_nil ?_
    refine T_next ?_
    refine T_retc ?_
    have hn55 : (s3).length = (sortI s3).length := (by rw [sortI_len])
    refine T_ent (.here) (e' := .r (y3.1) ((sortI s3).length) (y3.2) 3 1 ((sortI s3).flatMap e_i64)) (by first | (rw [← hn55]; done) | rfl) ?_
    refine T_slot (s := 2) (v' := .slice (y3.1) ((sortI s3).length) (y3.2)) rfl (by have hn56 : ((s3).length) = (sortI s3).length := (by rw [sortI_len]); first | (rw [← hn56]; done) | rfl) ?_
    obtain rfl := Option.some.inj hx54
    exact T_retP (rs := [.tmp 2]) Try.results35 (.tmp rfl (.nil)) (Ln := [.r (y3.1) ((sortI s3).length) (y3.2) 3 1 ((sortI s3).flatMap e_i64)]) ⟨y3.1, y3.2, rfl, rfl, trivial⟩ (loCons rfl (loNil)) (by exact .pick 0 rfl (.refl))
  · skip
    refine T_seq ?_
    refine T_reg ?_
    refine T_val (Ev_move rfl) rfl ?_
    refine T_val (Ev_len rfl 53 Try.underlying31) rfl ?_
    refine T_val (Ev_move rfl) rfl ?_
    refine T_nil ?_
    refine T_next ?_
    refine T_block ?_
    obtain ⟨t28, hl28, ho28⟩ := bnd_some hx3
    have hn29 : 0 = (([] : List Int)).length := by simp [setI_len, cpy_len, List.length_append] <;> omega
    refine T_ent (.here) (e' := .r (A1) ((([] : List Int)).length) (c4) 3 1 ((([] : List Int)).flatMap e_i64)) (by first | (rw [← hn29]; done) | rfl) ?_
    refine T_slot (s := 3) (v' := .slice (A1) ((([] : List Int)).length) (c4)) rfl (by have hn30 : (0) = (([] : List Int)).length := (by simp [setI_len, cpy_len, List.length_append] <;> omega); first | (rw [← hn30]; done) | rfl) ?_
    refine T_loopP (σ := (List Int) × Int) (γ := (Option Addr) × Nat) hl28 (fun s28 y28 => [(3, .slice (y28.1) ((s28.1).length) (y28.2)), (9, .slice (A0_0) ((p0).length) (c0_0)), (10, .int .i64 ((((p0).length : Nat) : Int))), (11, .int .i64 (s28.2))]) (fun s28 y28 => [.r (y28.1) ((s28.1).length) (y28.2) 3 1 ((s28.1).flatMap e_i64)] ++ [.old w]) (fun s28 y28 => True) (A1, c4) trivial (by exact .cons rfl (.cons rfl (.cons rfl (.cons rfl (.nil))))) (by exact .pick 0 rfl (.refl)) ?_
    intro s28 y28 hG28 x28 hx28 ht28
    unfold label_ids_l3 at hx28
    refine T_seq ?_
    refine T_reg ?_
    refine T_val (Ev_lss rfl rfl) rfl ?_
    refine T_nil ?_
    refine T_next ?_
    refine T_seq ?_
    refine T_caseP (s := 12) rfl (fun h31 => ?_) (fun h31 => ?_)
    · have hx32 := ite_t h31 hx28
      refine T_condT rfl ?_
      refine T_skip ?_
      refine T_next ?_
      refine T_seq ?_
      refine T_block ?_
      refine T_seq ?_
      refine T_reg ?_
      obtain ⟨x34, h35, hx36⟩ := bnd_some hx32
      have hw44 := Has.low (E := []) ha0' hK
      obtain ⟨b37, o38, j39, hA40, hj41, hl42, hp43⟩ := Has.at_idx hw44 h35
      refine T_val (Ev_index rfl rfl hA40 (j := j39) hj41 hl42 slc31) rfl ?_
      refine T_val (Ev_loadPK0 rfl hp43 (SubE.cons2 (i := 1) rfl (SubE.nil)) rfl agg53) rfl ?_
      refine T_x (Wx_alloc zer53 rfl (fun g45 => ?_))
      refine T_h (Wh_store rfl rfl rfl (.here) (.put (.put (.put (.put (.put (.put (.put (.put (.put (.done)))))))))) rfl (List.cons_ne_nil _ _) agg53.2 ?_)
      refine T_nil ?_
      refine T_next ?_
      refine T_reg ?_
      refine T_val (Ev_move rfl) rfl ?_
      refine T_val (Ev_field rfl fld53_0 rfl) rfl ?_
      refine T_val (Ev_load1 rfl (i := 0) rfl rfl one3) rfl ?_
      refine T_x (Wx_buildSlice rfl (bls35_1_0i64 _) rfl (fun g46 => ?_))
      obtain ⟨h47, hx48⟩ := gd_some hx36
      refine T_h (Wh_appendP e_i64 (s28.1) [x34.Id] rfl rfl rfl elm35 (fun _ => rfl) (i' := 0) rfl rfl rfl rfl h47 rfl (fun _ _ => .there (.there (.here))) (fun _ _ => .drop .refl) (by decide) (fun A49 c50 => ?_))
      refine T_val (Ev_assign rfl) rfl ?_
      refine T_nil ?_
      refine T_inN ?_
      refine T_next ?_
      refine T_reg ?_
      refine T_val (Ev_add_w64 rfl rfl) rfl ?_
      refine T_val (Ev_move rfl) rfl ?_
      refine T_nil ?_
      exact T_roundP (s28.1 ++ [x34.Id], w64 (s28.2 + 1)) (A49, c50) hx48 trivial (by exact .cons rfl (.cons rfl (.cons rfl (.cons rfl (.nil))))) (by exact .pick 1 rfl (.drop 0 rfl (.refl)))
    · have hx33 := ite_f h31 hx28
      refine T_condF rfl ?_
      refine T_exit ?_
      refine T_outX ?_
      obtain rfl := exit_eq ht28 hx33
      refine T_outX ?_
      refine T_here ?_
      exact T_metP s28.1 (y28.1, y28.2) ho28 trivial (by exact .cons rfl (.nil)) (by exact .pick 0 rfl (.refl))
set_option maxRecDepth 100000 in
theorem label_Sunk_ok (p0 : List S_api_Point) (p1 : S_api_Terrain) {K : List Ent} {A0_0 : Option Addr} {c0_0 : Nat} (ha0 : Has K A0_0 (p0).length c0_0 9 e_api_Point (p0)) {r : (List Int) × Int} (hx : label_Sunk p0 p1 = some r) (w : World) (hK : ∀ e ∈ K, Ent.ok w e) : CtL Try.prog 12 [.slice (A0_0) ((p0).length) (c0_0), .agg #[.int .i64 (p1.Cell), .int .i64 (p1.Reach), .int .i64 (p1.Slope), .int .i64 (p1.Link), .int .i64 (p1.Flat), .int .i64 (p1.Tall), .int .i64 (p1.High), .int .i64 (p1.Low), .int .i64 (p1.Brush), .int .i64 (p1.Few)]] w fun v Ln => ∃ (A0 : Option Addr) (c0 : Nat), v = .tuple #[.slice (A0) ((r.1).length) (c0), .int .i64 (r.2)] ∧ Ln = [.r A0 (r.1).length c0 3 1 ((r.1).flatMap e_i64)] ∧ True := by
  have ha0' := Has.up0 ha0
  refine CtL.mk 23 Try.func12 rfl Try.ntmps12 (by kernel_rfl) rfl ?_
  show T 23 _ [(0, .slice (A0_0) ((p0).length) (c0_0)), (1, .agg #[.int .i64 (p1.Cell), .int .i64 (p1.Reach), .int .i64 (p1.Slope), .int .i64 (p1.Link), .int .i64 (p1.Flat), .int .i64 (p1.Tall), .int .i64 (p1.High), .int .i64 (p1.Low), .int .i64 (p1.Brush), .int .i64 (p1.Few)])] _
  unfold label_Sunk at hx
  refine T_seq ?_
  refine T_reg ?_
  refine T_x (Wx_box rfl rfl rfl (fun g1 => ?_))
  refine T_val (Ev_assign rfl) rfl ?_
  refine T_val (Ev_assign rfl) rfl ?_
  refine T_nil ?_
  refine T_next ?_
  refine T_seq ?_
  refine T_seq ?_
  refine T_reg ?_
  refine T_val (Ev_move rfl) rfl ?_
  refine T_val (Ev_loadK rfl (i := 0) rfl rfl agg33) rfl ?_
  obtain ⟨r2, h3, hx4⟩ := bnd_some hx
  refine T_x (Wx_callL rfl (fun w1 hw1 => label_checked_ok p0 p1 (Has.len' ha0') h3 w1 (okApp (K := K) (K2 := []) hK (by exact (SubE.cons2 (i := 1) rfl (SubE.nil))) (by exact (SubE.nil)) hw1)) rfl ?_)
  rintro _ _ hlo ⟨rfl, rfl, -⟩
  refine T_app0 ?_
  refine T_val (Ev_assign rfl) rfl ?_
  refine T_nil ?_
  refine T_next ?_
  refine T_seq ?_
  refine T_reg ?_
  refine T_val (Ev_move rfl) rfl ?_
  refine T_val (Ev_neq rfl rfl) rfl ?_
  refine T_nil ?_
  refine T_next ?_
  refine T_caseNP (s := 13) rfl (fun h5 => ?_) (fun h5 => ?_)
  · have hx6 := ite_f h5 hx4
    refine T_condT rfl ?_
    refine T_seq ?_
    refine T_reg ?_
    refine T_val (Ev_move rfl) rfl ?_
    refine T_val (Ev_assign rfl) rfl ?_
    refine T_val (Ev_assign rfl) rfl ?_
    refine T_nil ?_
    refine T_next ?_
    refine T_retc ?_
    refine T_outR ?_
    refine T_none 3 1 ?_
    obtain rfl := Option.some.inj hx6
    exact T_retP (rs := [.tmp 4, .tmp 5]) Try.results12 (.tmp rfl (.tmp rfl (.nil))) (Ln := [.r (none) (0) (0) 3 1 ((([] : List Int)).flatMap e_i64)]) ⟨none, 0, rfl, rfl, trivial⟩ (loCons rfl (loNil)) (by exact .pick 0 rfl (.drop 0 rfl (.refl)))
  · have hx7 := ite_t h5 hx4
    refine T_condF rfl ?_
    refine T_skip ?_
    refine T_next ?_
    refine T_seq ?_
    refine T_reg ?_
    refine T_val (Ev_move rfl) rfl ?_
    refine T_val (Ev_loadK rfl (i := 0) rfl rfl agg33) rfl ?_
    obtain ⟨r8, h9, hx10⟩ := bnd_some hx7
    refine T_x (Wx_callL rfl (fun w1 hw1 => label_parted_ok p0 p1 (Has.len' ha0') h9 w1 (okApp (K := K) (K2 := []) hK (by exact (SubE.cons2 (i := 1) rfl (SubE.nil))) (by exact (SubE.nil)) hw1)) rfl ?_)
    rintro _ _ hlo ⟨A11, c12, A13, c14, rfl, rfl, -⟩
    refine T_app2 ?_
    refine T_val (Ev_move rfl) rfl ?_
    refine T_val (Ev_extract rfl rfl) rfl ?_
    refine T_val (Ev_extract rfl rfl) rfl ?_
    refine T_val (Ev_assign rfl) rfl ?_
    refine T_val (Ev_assign rfl) rfl ?_
    refine T_nil ?_
    refine T_next ?_
    refine T_seq ?_
    refine T_reg ?_
    refine T_val (Ev_move rfl) rfl ?_
    refine T_rowP (k := 1) rfl (by decide) (fun _ => rfl) (fun hn15 hs16 => ?_)
    obtain ⟨r17, h18, hx19⟩ := bnd_some hx10
    refine T_x (Wx_callL rfl (fun w1 hw1 => label_ids_ok r8.2 (Has.len' hs16) h18 w1 (okAll (K := ([.r (A13) ((r8.2).length) (c14) 53 9 ((r8.2).flatMap e_api_Point)] : List Ent)) (by exact (SubE.cons2 (i := 1) rfl (SubE.nil))) hw1)) rfl ?_)
    rintro _ _ hlo ⟨A20, c21, rfl, rfl, -⟩
    refine T_app1 ?_
    refine T_val (Ev_assign rfl) rfl ?_
    refine T_val (Ev_assign rfl) rfl ?_
    refine T_nil ?_
    refine T_next ?_
    refine T_retc ?_
    obtain rfl := Option.some.inj hx19
    exact T_retP (rs := [.tmp 4, .tmp 5]) Try.results12 (.tmp rfl (.tmp rfl (.nil))) (Ln := [.r (A20) ((r17).length) (c21) 3 1 ((r17).flatMap e_i64)]) ⟨A20, c21, rfl, rfl, trivial⟩ (loCons rfl (loNil)) (by exact .pick 0 rfl (.drop 0 rfl (.drop 0 rfl (.drop 0 rfl (.refl)))))
set_option maxRecDepth 100000 in
theorem label_lasts_ok (p0 : List S_api_Point) {K : List Ent} {A0_0 : Option Addr} {c0_0 : Nat} (ha0 : Has K A0_0 (p0).length c0_0 9 e_api_Point (p0)) {r : List S_api_Point} (hx : label_lasts p0 = some r) (w : World) (hK : ∀ e ∈ K, Ent.ok w e) : CtL Try.prog 39 [.slice (A0_0) ((p0).length) (c0_0)] w fun v Ln => ∃ (A0 : Option Addr) (c0 : Nat), v = .slice (A0) ((r).length) (c0) ∧ Ln = [.r A0 (r).length c0 53 9 ((r).flatMap e_api_Point)] ∧ True := by
  have ha0' := Has.up0 ha0
  refine CtL.mk 25 Try.func39 rfl Try.ntmps39 (by kernel_rfl) rfl ?_
  show T 25 _ [(0, .slice (A0_0) ((p0).length) (c0_0))] _
  unfold label_lasts at hx
  refine T_seq ?_
  refine T_reg ?_
  refine T_val (Ev_assign rfl) rfl ?_
  refine T_nil ?_
  refine T_next ?_
  refine T_seq ?_
  refine T_reg ?_
  refine T_val (Ev_assign rfl) rfl ?_
  refine T_nil ?_
  refine T_next ?_
  obtain ⟨j3, hj3, hx⟩ := jn_some hx
  refine T_cutP (τ := List S_api_Point) (γ := (Option Addr) × Nat) (J := j3) (out := r) (fun s3 y3 => [(3, .slice (y3.1) ((s3).length) (y3.2))]) (fun s3 y3 => [.r (y3.1) ((s3).length) (y3.2) 53 9 ((s3).flatMap e_api_Point)] ++ [.old w]) (fun s3 y3 => True) ?_ ?_
  · intro s3 y3 hx55 hG56
    subst hj3
    refine T_seq ?_
    refine T_reg ?_
    refine T_val (Ev_move rfl) rfl ?_
    refine T_x (Wx_callL rfl (fun w1 _ => lowestOf_ok (y3.1) ((s3).length) (y3.2) 60 [] w1) rfl ?_)
    rintro _ _ hlo ⟨g57, g58, rfl, rfl⟩
    refine T_app2 ?_
    refine T_rowP (k := 2) rfl (by decide) (fun _ => rfl) (fun hn59 hs60 => ?_)
    obtain ⟨r61, h62, hx63⟩ := bnd_some hx55
    refine T_x (Wx_callL rfl (fun w1 hw1 => collect_ok label_place s3 (Has.up (L := ([.r (y3.1) ((s3).length) (y3.2) 53 9 ((s3).flatMap e_api_Point), .m g57 31 [.slice (y3.1) ((s3).length) (y3.2)], .m g58 84 [.func (.func 60) #[] #[]]] : List Ent)) hs60 (SubE.cons2 (i := 0) rfl (SubE.nil))) (Pt.m0 (.tail _ (.head _))) (Pt.m0 (.tail _ (.tail _ (.head _)))) (placeKey.up (K := []) SubE.nil) h62 w1 (okAll (K := ([.r (y3.1) ((s3).length) (y3.2) 53 9 ((s3).flatMap e_api_Point), .m g57 31 [.slice (y3.1) ((s3).length) (y3.2)], .m g58 84 [.func (.func 60) #[] #[]]] : List Ent)) (by exact (SubE.cons2 (i := 2) rfl (SubE.cons2 (i := 1) rfl (SubE.cons2 (i := 0) rfl (SubE.nil))))) hw1)) rfl ?_)
    rintro _ _ hlo ⟨A64, c65, rfl, rfl⟩
    refine T_app1 ?_
    refine T_val (Ev_assign rfl) rfl ?_
    refine T_nil ?_
    refine T_next ?_
    refine T_retc ?_
    obtain rfl := Option.some.inj hx63
    exact T_retP (rs := [.tmp 2]) Try.results39 (.tmp rfl (.nil)) (Ln := [.r (A64) ((r61).length) (c65) 53 9 ((r61).flatMap e_api_Point)]) ⟨A64, c65, rfl, rfl, trivial⟩ (loCons rfl (loNil)) (by exact .pick 0 rfl (.drop 0 rfl (.drop 0 rfl (.drop 0 rfl (.refl)))))
  · skip
    refine T_seq ?_
    refine T_reg ?_
    refine T_val (Ev_move rfl) rfl ?_
    refine T_val (Ev_len rfl 53 Try.underlying31) rfl ?_
    refine T_val (Ev_move rfl) rfl ?_
    refine T_nil ?_
    refine T_next ?_
    refine T_block ?_
    obtain ⟨t28, hl28, ho28⟩ := bnd_some hx
    refine T_none 53 9 ?_
    have hn29 : 0 = (([] : List S_api_Point)).length := by simp [setI_len, cpy_len, List.length_append] <;> omega
    refine T_ent (.here) (e' := .r (none) ((([] : List S_api_Point)).length) (0) 53 9 ((([] : List S_api_Point)).flatMap e_api_Point)) (by first | (rw [← hn29]; done) | rfl) ?_
    refine T_loopP (σ := (List S_api_Point) × Int) (γ := (Option Addr) × Nat) hl28 (fun s28 y28 => [(3, .slice (y28.1) ((s28.1).length) (y28.2)), (6, .slice (A0_0) ((p0).length) (c0_0)), (7, .int .i64 ((((p0).length : Nat) : Int))), (8, .int .i64 (s28.2))]) (fun s28 y28 => [.r (y28.1) ((s28.1).length) (y28.2) 53 9 ((s28.1).flatMap e_api_Point)] ++ [.old w]) (fun s28 y28 => True) (none, 0) trivial (by exact .cons rfl (.cons rfl (.cons rfl (.cons rfl (.nil))))) (by exact .pick 0 rfl (.refl)) ?_
    intro s28 y28 hG28 x28 hx28 ht28
    unfold label_lasts_l3 at hx28
    refine T_seq ?_
    refine T_reg ?_
    refine T_val (Ev_lss rfl rfl) rfl ?_
    refine T_nil ?_
    refine T_next ?_
    refine T_seq ?_
    refine T_caseP (s := 9) rfl (fun h30 => ?_) (fun h30 => ?_)
    · have hx31 := ite_t h30 hx28
      refine T_condT rfl ?_
      refine T_skip ?_
      refine T_next ?_
      obtain ⟨j12, hj12, hx31⟩ := jn_some hx31
      refine T_cutP (τ := List S_api_Point) (γ := (Option Addr) × Nat) (J := j12) (out := x28) (fun s12 y12 => [(3, .slice (y12.1) ((s12).length) (y12.2)), (6, .slice (A0_0) ((p0).length) (c0_0)), (7, .int .i64 ((((p0).length : Nat) : Int))), (8, .int .i64 (s28.2))]) (fun s12 y12 => [.r (y12.1) ((s12).length) (y12.2) 53 9 ((s12).flatMap e_api_Point)] ++ [.old w]) (fun s12 y12 => True) ?_ ?_
      · intro s12 y12 hx53 hG54
        subst hj12
        refine T_reg ?_
        refine T_val (Ev_add_w64 rfl rfl) rfl ?_
        refine T_val (Ev_move rfl) rfl ?_
        refine T_nil ?_
        exact T_roundP (s12, w64 (s28.2 + 1)) (y12.1, y12.2) hx53 trivial (by exact .cons rfl (.cons rfl (.cons rfl (.cons rfl (.nil))))) (by exact .pick 0 rfl (.refl))
      · skip
        refine T_block ?_
        refine T_seq ?_
        refine T_reg ?_
        obtain ⟨x33, h34, hx35⟩ := bnd_some hx31
        have hw43 := Has.low (E := []) ha0' hK
        obtain ⟨b36, o37, j38, hA39, hj40, hl41, hp42⟩ := Has.at_idx hw43 h34
        refine T_val (Ev_index rfl rfl hA39 (j := j38) hj40 hl41 slc31) rfl ?_
        refine T_val (Ev_loadPK0 rfl hp42 (SubE.cons2 (i := 1) rfl (SubE.nil)) rfl agg53) rfl ?_
        refine T_x (Wx_alloc zer53 rfl (fun g44 => ?_))
        refine T_h (Wh_store rfl rfl rfl (.here) (.put (.put (.put (.put (.put (.put (.put (.put (.put (.done)))))))))) rfl (List.cons_ne_nil _ _) agg53.2 ?_)
        refine T_nil ?_
        refine T_next ?_
        refine T_seq ?_
        refine T_reg ?_
        refine T_val (Ev_field rfl fld53_5 rfl) rfl ?_
        refine T_val (Ev_load1 rfl (i := 0) rfl rfl one3) rfl ?_
        refine T_val (Ev_field rfl fld53_6 rfl) rfl ?_
        refine T_val (Ev_load1 rfl (i := 0) rfl rfl one3) rfl ?_
        refine T_val (Ev_eql rfl rfl) rfl ?_
        refine T_nil ?_
        refine T_next ?_
        refine T_caseP (s := 16) rfl (fun h45 => ?_) (fun h45 => ?_)
        · have hx46 := ite_t h45 hx35
          refine T_condT rfl ?_
          refine T_reg ?_
          refine T_val (Ev_move rfl) rfl ?_
          refine T_val (Ev_loadK rfl (i := 0) rfl rfl agg53) rfl ?_
          refine T_x (Wx_buildSlice rfl (bls31_1_0ai64i64i64i64i64i64i64i64i64 _ _ _ _ _ _ _ _ _) rfl (fun g47 => ?_))
          obtain ⟨h48, hx49⟩ := gd_some hx46
          refine T_h (Wh_appendP e_api_Point (s28.1) [x33] rfl rfl rfl elm31 (fun _ => rfl) (i' := 0) rfl rfl rfl rfl h48 rfl (fun _ _ => .there (.there (.here))) (fun _ _ => .drop .refl) (by decide) (fun A50 c51 => ?_))
          refine T_val (Ev_assign rfl) rfl ?_
          refine T_nil ?_
          refine T_inN ?_
          exact T_metP (s28.1 ++ [x33]) (A50, c51) hx49 trivial (by exact .cons rfl (.cons rfl (.cons rfl (.cons rfl (.nil))))) (by exact .pick 1 rfl (.drop 0 rfl (.refl)))
        · have hx52 := ite_f h45 hx35
          refine T_condF rfl ?_
          refine T_skip ?_
          refine T_inN ?_
          exact T_metP s28.1 (y28.1, y28.2) hx52 trivial (by exact .cons rfl (.cons rfl (.cons rfl (.cons rfl (.nil))))) (by exact .pick 1 rfl (.drop 0 rfl (.refl)))
    · have hx32 := ite_f h30 hx28
      refine T_condF rfl ?_
      refine T_exit ?_
      refine T_outX ?_
      obtain rfl := exit_eq ht28 hx32
      refine T_outX ?_
      refine T_here ?_
      exact T_metP s28.1 (y28.1, y28.2) ho28 trivial (by exact .cons rfl (.nil)) (by exact .pick 0 rfl (.refl))
set_option maxRecDepth 100000 in
theorem label_Lowest_ok (p0 : List S_api_Point) {K : List Ent} {A0_0 : Option Addr} {c0_0 : Nat} (ha0 : Has K A0_0 (p0).length c0_0 9 e_api_Point (p0)) {r : (List Int) × Int} (hx : label_Lowest p0 = some r) (w : World) (hK : ∀ e ∈ K, Ent.ok w e) : CtL Try.prog 14 [.slice (A0_0) ((p0).length) (c0_0)] w fun v Ln => ∃ (A0 : Option Addr) (c0 : Nat), v = .tuple #[.slice (A0) ((r.1).length) (c0), .int .i64 (r.2)] ∧ Ln = [.r A0 (r.1).length c0 3 1 ((r.1).flatMap e_i64)] ∧ True := by
  have ha0' := Has.up0 ha0
  refine CtL.mk 10 Try.func14 rfl Try.ntmps14 (by kernel_rfl) rfl ?_
  show T 10 _ [(0, .slice (A0_0) ((p0).length) (c0_0))] _
  unfold label_Lowest at hx
  refine T_seq ?_
  refine T_reg ?_
  refine T_val (Ev_assign rfl) rfl ?_
  refine T_val (Ev_assign rfl) rfl ?_
  refine T_nil ?_
  refine T_next ?_
  refine T_seq ?_
  refine T_seq ?_
  refine T_reg ?_
  refine T_val (Ev_move rfl) rfl ?_
  obtain ⟨r1, h2, hx3⟩ := bnd_some hx
  refine T_x (Wx_callL rfl (fun w1 hw1 => label_Valid_ok p0 (Has.len' ha0') h2 w1 (okApp (K := K) (K2 := []) hK (by exact (SubE.cons2 (i := 0) rfl (SubE.nil))) (by exact (SubE.nil)) hw1)) rfl ?_)
  rintro _ _ hlo ⟨rfl, rfl, -⟩
  refine T_app0 ?_
  refine T_val (Ev_not rfl) rfl ?_
  refine T_nil ?_
  refine T_next ?_
  refine T_caseNB (s := 6) rfl (fun h4 => ?_) (fun h4 => ?_)
  · have hx5 := ite_bf h4 hx3
    refine T_condT rfl ?_
    refine T_seq ?_
    refine T_reg ?_
    refine T_val (Ev_assign rfl) rfl ?_
    refine T_val (Ev_assign rfl) rfl ?_
    refine T_nil ?_
    refine T_next ?_
    refine T_retc ?_
    refine T_outR ?_
    refine T_none 3 1 ?_
    obtain rfl := Option.some.inj hx5
    exact T_retP (rs := [.tmp 2, .tmp 3]) Try.results14 (.tmp rfl (.tmp rfl (.nil))) (Ln := [.r (none) (0) (0) 3 1 ((([] : List Int)).flatMap e_i64)]) ⟨none, 0, rfl, rfl, trivial⟩ (loCons rfl (loNil)) (by exact .pick 0 rfl (.refl))
  · have hx6 := ite_t h4 hx3
    refine T_condF rfl ?_
    refine T_skip ?_
    refine T_next ?_
    refine T_seq ?_
    refine T_reg ?_
    refine T_val (Ev_move rfl) rfl ?_
    obtain ⟨r7, h8, hx9⟩ := bnd_some hx6
    refine T_x (Wx_callL rfl (fun w1 hw1 => label_lasts_ok p0 (Has.len' ha0') h8 w1 (okApp (K := K) (K2 := []) hK (by exact (SubE.cons2 (i := 0) rfl (SubE.nil))) (by exact (SubE.nil)) hw1)) rfl ?_)
    rintro _ _ hlo ⟨A10, c11, rfl, rfl, -⟩
    refine T_app1 ?_
    refine T_rowP (k := 0) rfl (by decide) (fun _ => rfl) (fun hn12 hs13 => ?_)
    obtain ⟨r14, h15, hx16⟩ := bnd_some hx9
    refine T_x (Wx_callL rfl (fun w1 hw1 => label_ids_ok r7 (Has.len' hs13) h15 w1 (okAll (K := ([.r (A10) ((r7).length) (c11) 53 9 ((r7).flatMap e_api_Point)] : List Ent)) (by exact (SubE.cons2 (i := 0) rfl (SubE.nil))) hw1)) rfl ?_)
    rintro _ _ hlo ⟨A17, c18, rfl, rfl, -⟩
    refine T_app1 ?_
    refine T_val (Ev_assign rfl) rfl ?_
    refine T_val (Ev_assign rfl) rfl ?_
    refine T_nil ?_
    refine T_next ?_
    refine T_retc ?_
    obtain rfl := Option.some.inj hx16
    exact T_retP (rs := [.tmp 2, .tmp 3]) Try.results14 (.tmp rfl (.tmp rfl (.nil))) (Ln := [.r (A17) ((r14).length) (c18) 3 1 ((r14).flatMap e_i64)]) ⟨A17, c18, rfl, rfl, trivial⟩ (loCons rfl (loNil)) (by exact .pick 0 rfl (.drop 0 rfl (.refl)))
set_option maxRecDepth 100000 in
theorem label_candidates_ok (p0 : List S_api_Point) (p1 : S_api_Terrain) {K : List Ent} {A0_0 : Option Addr} {c0_0 : Nat} (ha0 : Has K A0_0 (p0).length c0_0 9 e_api_Point (p0)) {r : List S_api_Point} (hx : label_candidates p0 p1 = some r) (w : World) (hK : ∀ e ∈ K, Ent.ok w e) : CtL Try.prog 46 [.slice (A0_0) ((p0).length) (c0_0), .agg #[.int .i64 (p1.Cell), .int .i64 (p1.Reach), .int .i64 (p1.Slope), .int .i64 (p1.Link), .int .i64 (p1.Flat), .int .i64 (p1.Tall), .int .i64 (p1.High), .int .i64 (p1.Low), .int .i64 (p1.Brush), .int .i64 (p1.Few)]] w fun v Ln => ∃ (A0 : Option Addr) (c0 : Nat), v = .slice (A0) ((r).length) (c0) ∧ Ln = [.r A0 (r).length c0 53 9 ((r).flatMap e_api_Point)] ∧ True := by
  have ha0' := Has.up0 ha0
  refine CtL.mk 15 Try.func46 rfl Try.ntmps46 (by kernel_rfl) rfl ?_
  show T 15 _ [(0, .slice (A0_0) ((p0).length) (c0_0)), (1, .agg #[.int .i64 (p1.Cell), .int .i64 (p1.Reach), .int .i64 (p1.Slope), .int .i64 (p1.Link), .int .i64 (p1.Flat), .int .i64 (p1.Tall), .int .i64 (p1.High), .int .i64 (p1.Low), .int .i64 (p1.Brush), .int .i64 (p1.Few)])] _
  unfold label_candidates at hx
  refine T_seq ?_
  refine T_reg ?_
  refine T_x (Wx_box rfl rfl rfl (fun g1 => ?_))
  refine T_val (Ev_assign rfl) rfl ?_
  refine T_nil ?_
  refine T_next ?_
  refine T_seq ?_
  refine T_reg ?_
  refine T_val (Ev_move rfl) rfl ?_
  refine T_val (Ev_loadK rfl (i := 0) rfl rfl agg33) rfl ?_
  obtain ⟨r2, h3, hx4⟩ := bnd_some hx
  refine T_x (Wx_callL rfl (fun w1 hw1 => label_parted_ok p0 p1 (Has.len' ha0') h3 w1 (okApp (K := K) (K2 := []) hK (by exact (SubE.cons2 (i := 1) rfl (SubE.nil))) (by exact (SubE.nil)) hw1)) rfl ?_)
  rintro _ _ hlo ⟨A5, c6, A7, c8, rfl, rfl, -⟩
  refine T_app2 ?_
  refine T_val (Ev_move rfl) rfl ?_
  refine T_val (Ev_extract rfl rfl) rfl ?_
  refine T_val (Ev_extract rfl rfl) rfl ?_
  refine T_val (Ev_assign rfl) rfl ?_
  refine T_val (Ev_assign rfl) rfl ?_
  refine T_nil ?_
  refine T_next ?_
  refine T_seq ?_
  refine T_reg ?_
  refine T_val (Ev_move rfl) rfl ?_
  refine T_rowP (k := 0) rfl (by decide) (fun _ => rfl) (fun hn9 hs10 => ?_)
  obtain ⟨r11, h12, hx13⟩ := bnd_some hx4
  refine T_x (Wx_callL rfl (fun w1 hw1 => label_lasts_ok r2.1 (Has.len' hs10) h12 w1 (okAll (K := ([.r (A5) ((r2.1).length) (c6) 53 9 ((r2.1).flatMap e_api_Point)] : List Ent)) (by exact (SubE.cons2 (i := 0) rfl (SubE.nil))) hw1)) rfl ?_)
  rintro _ _ hlo ⟨A14, c15, rfl, rfl, -⟩
  refine T_app1 ?_
  refine T_val (Ev_assign rfl) rfl ?_
  refine T_nil ?_
  refine T_next ?_
  refine T_retc ?_
  obtain rfl := Option.some.inj hx13
  exact T_retP (rs := [.tmp 4]) Try.results46 (.tmp rfl (.nil)) (Ln := [.r (A14) ((r11).length) (c15) 53 9 ((r11).flatMap e_api_Point)]) ⟨A14, c15, rfl, rfl, trivial⟩ (loCons rfl (loNil)) (by exact .pick 0 rfl (.drop 0 rfl (.drop 0 rfl (.drop 0 rfl (.refl)))))
set_option maxRecDepth 100000 in
theorem label_Seeds_ok (p0 : List S_api_Point) (p1 : S_api_Terrain) {K : List Ent} {A0_0 : Option Addr} {c0_0 : Nat} (ha0 : Has K A0_0 (p0).length c0_0 9 e_api_Point (p0)) {r : (List Int) × Int} (hx : label_Seeds p0 p1 = some r) (w : World) (hK : ∀ e ∈ K, Ent.ok w e) : CtL Try.prog 21 [.slice (A0_0) ((p0).length) (c0_0), .agg #[.int .i64 (p1.Cell), .int .i64 (p1.Reach), .int .i64 (p1.Slope), .int .i64 (p1.Link), .int .i64 (p1.Flat), .int .i64 (p1.Tall), .int .i64 (p1.High), .int .i64 (p1.Low), .int .i64 (p1.Brush), .int .i64 (p1.Few)]] w fun v Ln => ∃ (A0 : Option Addr) (c0 : Nat), v = .tuple #[.slice (A0) ((r.1).length) (c0), .int .i64 (r.2)] ∧ Ln = [.r A0 (r.1).length c0 3 1 ((r.1).flatMap e_i64)] ∧ True := by
  have ha0' := Has.up0 ha0
  refine CtL.mk 18 Try.func21 rfl Try.ntmps21 (by kernel_rfl) rfl ?_
  show T 18 _ [(0, .slice (A0_0) ((p0).length) (c0_0)), (1, .agg #[.int .i64 (p1.Cell), .int .i64 (p1.Reach), .int .i64 (p1.Slope), .int .i64 (p1.Link), .int .i64 (p1.Flat), .int .i64 (p1.Tall), .int .i64 (p1.High), .int .i64 (p1.Low), .int .i64 (p1.Brush), .int .i64 (p1.Few)])] _
  unfold label_Seeds at hx
  refine T_seq ?_
  refine T_reg ?_
  refine T_x (Wx_box rfl rfl rfl (fun g1 => ?_))
  refine T_val (Ev_assign rfl) rfl ?_
  refine T_val (Ev_assign rfl) rfl ?_
  refine T_nil ?_
  refine T_next ?_
  refine T_seq ?_
  refine T_seq ?_
  refine T_reg ?_
  refine T_val (Ev_move rfl) rfl ?_
  refine T_val (Ev_loadK rfl (i := 0) rfl rfl agg33) rfl ?_
  obtain ⟨r2, h3, hx4⟩ := bnd_some hx
  refine T_x (Wx_callL rfl (fun w1 hw1 => label_checked_ok p0 p1 (Has.len' ha0') h3 w1 (okApp (K := K) (K2 := []) hK (by exact (SubE.cons2 (i := 1) rfl (SubE.nil))) (by exact (SubE.nil)) hw1)) rfl ?_)
  rintro _ _ hlo ⟨rfl, rfl, -⟩
  refine T_app0 ?_
  refine T_val (Ev_assign rfl) rfl ?_
  refine T_nil ?_
  refine T_next ?_
  refine T_seq ?_
  refine T_reg ?_
  refine T_val (Ev_move rfl) rfl ?_
  refine T_val (Ev_neq rfl rfl) rfl ?_
  refine T_nil ?_
  refine T_next ?_
  refine T_caseNP (s := 11) rfl (fun h5 => ?_) (fun h5 => ?_)
  · have hx6 := ite_f h5 hx4
    refine T_condT rfl ?_
    refine T_seq ?_
    refine T_reg ?_
    refine T_val (Ev_move rfl) rfl ?_
    refine T_val (Ev_assign rfl) rfl ?_
    refine T_val (Ev_assign rfl) rfl ?_
    refine T_nil ?_
    refine T_next ?_
    refine T_retc ?_
    refine T_outR ?_
    refine T_none 3 1 ?_
    obtain rfl := Option.some.inj hx6
    exact T_retP (rs := [.tmp 4, .tmp 5]) Try.results21 (.tmp rfl (.tmp rfl (.nil))) (Ln := [.r (none) (0) (0) 3 1 ((([] : List Int)).flatMap e_i64)]) ⟨none, 0, rfl, rfl, trivial⟩ (loCons rfl (loNil)) (by exact .pick 0 rfl (.drop 0 rfl (.refl)))
  · have hx7 := ite_t h5 hx4
    refine T_condF rfl ?_
    refine T_skip ?_
    refine T_next ?_
    refine T_seq ?_
    refine T_draw [0, 1, 2, 1, 2, 2, 2] [[], [], [0, 1], [], [0, 1, 2, 3], [0, 1, 2, 3, 4], [0, 1, 2, 3, 4, 5]] (.q 0 (.q 1 (.q 3 (.e 2 (.e 4 (.e 5 (.e 6 (.done) (.stop)) (.stop)) (.stop)) (.stop))))) mixed (by kernel_rfl) (by kernel_rfl) ?_
    refine P_p rfl rfl (Ev_move rfl) rfl ?_
    refine P_q rfl rfl (Ev_loadK rfl (i := 0) rfl rfl agg33) rfl ?_
    refine P_q rfl rfl (Ev_loadK rfl (i := 0) rfl rfl agg33) rfl ?_
    obtain ⟨r8, h9, hx10⟩ := bnd_some hx7
    refine P_x rfl (Wx_callL rfl (fun w1 hw1 => label_candidates_ok p0 p1 (Has.len' ha0') h9 w1 (okApp (K := K) (K2 := []) hK (by exact (SubE.cons2 (i := 1) rfl (SubE.nil))) (by exact (SubE.nil)) hw1)) rfl ?_) ?_
    rotate_left; exact P_stop
    rintro _ _ hlo ⟨A11, c12, rfl, rfl, -⟩
    refine T_app1 ?_
    refine T_rowP (k := 0) rfl (by decide) (fun _ => rfl) (fun hn13 hs14 => ?_)
    obtain ⟨r15, h16, hx17⟩ := bnd_some hx10
    refine P_x rfl (Wx_callL rfl (fun w1 hw1 => label_seeds_ok r8 p1 (Has.len' hs14) h16 w1 (okAll (K := ([.r (A11) ((r8).length) (c12) 53 9 ((r8).flatMap e_api_Point)] : List Ent)) (by exact (SubE.cons2 (i := 0) rfl (SubE.nil))) hw1)) rfl ?_) ?_
    rotate_left; exact P_stop
    rintro _ _ hlo ⟨A18, c19, rfl, rfl, -⟩
    refine T_app1 ?_
    refine P_x rfl (Wx_val (Ev_assign rfl) rfl ?_) ?_
    rotate_left; exact P_stop
    refine P_x rfl (Wx_val (Ev_assign rfl) rfl ?_) ?_
    rotate_left; exact P_stop
    refine P_done ?_
    refine T_next ?_
    refine T_retc ?_
    obtain rfl := Option.some.inj hx17
    exact T_retP (rs := [.tmp 4, .tmp 5]) Try.results21 (.tmp rfl (.tmp rfl (.nil))) (Ln := [.r (A18) ((r15).length) (c19) 3 1 ((r15).flatMap e_i64)]) ⟨A18, c19, rfl, rfl, trivial⟩ (loCons rfl (loNil)) (by exact .pick 0 rfl (.drop 0 rfl (.drop 0 rfl (.refl))))
set_option maxRecDepth 100000 in
theorem label_isClass_ok (p0 : Int)  {r : Bool} (hx : label_isClass p0 = some r) (w : World) : CtL Try.prog 63 [.int .i64 (p0)] w fun v Ln => v = .bool (r) ∧ Ln = [] ∧ True := by
  refine CtL.mk 11 Try.func63 rfl Try.ntmps63 (by kernel_rfl) rfl ?_
  show T 11 _ [(0, .int .i64 (p0))] _
  unfold label_isClass at hx
  refine T_seq ?_
  refine T_reg ?_
  refine T_val (Ev_assign rfl) rfl ?_
  refine T_nil ?_
  refine T_next ?_
  refine T_seq ?_
  refine T_seq ?_
  refine T_reg ?_
  refine T_val (Ev_move rfl) rfl ?_
  refine T_nil ?_
  refine T_next ?_
  refine T_block ?_
  obtain ⟨j4, hj4, hx⟩ := jn_some hx
  refine T_cutP (τ := Bool) (γ := Unit) (J := j4) (out := r) (fun s4 y4 => [(4, .bool (s4))]) (fun s4 y4 => [] ++ [.old w]) (fun s4 y4 => True) ?_ ?_
  · intro s4 y4 hx16 hG17
    subst hj4
    refine T_caseB (s := 4) rfl (fun h18 => ?_) (fun h18 => ?_)
    · have hx19 := ite_t h18 hx16
      refine T_condT rfl ?_
      refine T_seq ?_
      refine T_reg ?_
      refine T_val (Ev_assign rfl) rfl ?_
      refine T_nil ?_
      refine T_next ?_
      refine T_retc ?_
      refine T_inR ?_
      refine T_outR ?_
      obtain rfl := Option.some.inj hx19
      exact T_retP (rs := [.tmp 2]) Try.results63 (.tmp rfl (.nil)) (Ln := []) ⟨rfl, rfl, trivial⟩ (loNil) (by exact .refl)
    · have hx20 := ite_bf h18 hx16
      refine T_condF rfl ?_
      refine T_skip ?_
      refine T_inN ?_
      refine T_next ?_
      refine T_seq ?_
      refine T_reg ?_
      refine T_val (Ev_assign rfl) rfl ?_
      refine T_nil ?_
      refine T_next ?_
      refine T_retc ?_
      obtain rfl := Option.some.inj hx20
      exact T_retP (rs := [.tmp 2]) Try.results63 (.tmp rfl (.nil)) (Ln := []) ⟨rfl, rfl, trivial⟩ (loNil) (by exact .refl)
  · skip
    refine T_seq ?_
    refine T_reg ?_
    refine T_val (Ev_eql rfl rfl) rfl ?_
    refine T_val (Ev_assign rfl) rfl ?_
    refine T_nil ?_
    refine T_next ?_
    refine T_caseP (s := 4) rfl (fun h1 => ?_) (fun h1 => ?_)
    · have hx2 := ite_t h1 hx
      refine T_condT rfl ?_
      refine T_skip ?_
      exact T_metP true () hx2 trivial (by exact .cons rfl (.nil)) (by exact .refl)
    · have hx3 := ite_f h1 hx
      refine T_condF rfl ?_
      refine T_seq ?_
      refine T_reg ?_
      refine T_val (Ev_eql rfl rfl) rfl ?_
      refine T_val (Ev_assign rfl) rfl ?_
      refine T_nil ?_
      refine T_next ?_
      refine T_caseP (s := 4) rfl (fun h4 => ?_) (fun h4 => ?_)
      · have hx5 := ite_t h4 hx3
        refine T_condT rfl ?_
        refine T_skip ?_
        exact T_metP true () hx5 trivial (by exact .cons rfl (.nil)) (by exact .refl)
      · have hx6 := ite_f h4 hx3
        refine T_condF rfl ?_
        refine T_seq ?_
        refine T_reg ?_
        refine T_val (Ev_eql rfl rfl) rfl ?_
        refine T_val (Ev_assign rfl) rfl ?_
        refine T_nil ?_
        refine T_next ?_
        refine T_caseP (s := 4) rfl (fun h7 => ?_) (fun h7 => ?_)
        · have hx8 := ite_t h7 hx6
          refine T_condT rfl ?_
          refine T_skip ?_
          exact T_metP true () hx8 trivial (by exact .cons rfl (.nil)) (by exact .refl)
        · have hx9 := ite_f h7 hx6
          refine T_condF rfl ?_
          refine T_seq ?_
          refine T_reg ?_
          refine T_val (Ev_eql rfl rfl) rfl ?_
          refine T_val (Ev_assign rfl) rfl ?_
          refine T_nil ?_
          refine T_next ?_
          refine T_caseP (s := 4) rfl (fun h10 => ?_) (fun h10 => ?_)
          · have hx11 := ite_t h10 hx9
            refine T_condT rfl ?_
            refine T_skip ?_
            exact T_metP true () hx11 trivial (by exact .cons rfl (.nil)) (by exact .refl)
          · have hx12 := ite_f h10 hx9
            refine T_condF rfl ?_
            refine T_seq ?_
            refine T_reg ?_
            refine T_val (Ev_eql rfl rfl) rfl ?_
            refine T_val (Ev_assign rfl) rfl ?_
            refine T_nil ?_
            refine T_next ?_
            refine T_caseP (s := 4) rfl (fun h13 => ?_) (fun h13 => ?_)
            · have hx14 := ite_t h13 hx12
              refine T_condT rfl ?_
              refine T_skip ?_
              exact T_metP true () hx14 trivial (by exact .cons rfl (.nil)) (by exact .refl)
            · have hx15 := ite_f h13 hx12
              refine T_condF rfl ?_
              refine T_reg ?_
              refine T_val (Ev_eql rfl rfl) rfl ?_
              refine T_val (Ev_assign rfl) rfl ?_
              refine T_nil ?_
              exact T_metP (decide (p0 = 7)) () hx15 trivial (by exact .cons rfl (.nil)) (by exact .refl)
set_option maxRecDepth 100000 in
theorem label_validEdits_ok (p0 : List S_api_Edit) {K : List Ent} {A0_0 : Option Addr} {c0_0 : Nat} (ha0 : HasN K A0_0 (p0).length c0_0 4 n_api_Edit (p0)) {r : Int} (hx : label_validEdits p0 = some r) (w : World) (hK : ∀ e ∈ K, Ent.ok w e) : CtL Try.prog 50 [.slice (A0_0) ((p0).length) (c0_0)] w fun v Ln => v = .int .i64 (r) ∧ Ln = [] ∧ True := by
  have ha0' := HasN.up0 ha0
  refine CtL.mk 47 Try.func50 rfl Try.ntmps50 (by kernel_rfl) rfl ?_
  show T 47 _ [(0, .slice (A0_0) ((p0).length) (c0_0))] _
  unfold label_validEdits at hx
  refine T_seq ?_
  refine T_reg ?_
  refine T_val (Ev_assign rfl) rfl ?_
  refine T_nil ?_
  refine T_next ?_
  refine T_seq ?_
  refine T_seq ?_
  refine T_reg ?_
  refine T_val (Ev_move rfl) rfl ?_
  refine T_val (Ev_len rfl 72 Try.underlying43) rfl ?_
  refine T_val (Ev_gtr rfl rfl) rfl ?_
  refine T_nil ?_
  refine T_next ?_
  refine T_caseP (s := 8) rfl (fun h1 => ?_) (fun h1 => ?_)
  · have hx2 := ite_t h1 hx
    refine T_condT rfl ?_
    refine T_seq ?_
    refine T_reg ?_
    refine T_val (Ev_assign rfl) rfl ?_
    refine T_nil ?_
    refine T_next ?_
    refine T_retc ?_
    refine T_outR ?_
    obtain rfl := Option.some.inj hx2
    exact T_retP (rs := [.tmp 2]) Try.results50 (.tmp rfl (.nil)) (Ln := []) ⟨rfl, rfl, trivial⟩ (loNil) (by exact .refl)
  · have hx3 := ite_f h1 hx
    refine T_condF rfl ?_
    refine T_skip ?_
    refine T_next ?_
    obtain ⟨j5, hj5, hx3⟩ := jn_some hx3
    refine T_cutP (τ := Unit) (γ := Unit) (J := j5) (out := r) (fun s5 y5 => []) (fun s5 y5 => [] ++ [.old w]) (fun s5 y5 => True) ?_ ?_
    · intro s5 y5 hx134 hG135
      subst hj5
      refine T_seq ?_
      refine T_reg ?_
      refine T_val (Ev_assign rfl) rfl ?_
      refine T_nil ?_
      refine T_next ?_
      refine T_retc ?_
      obtain rfl := Option.some.inj hx134
      exact T_retP (rs := [.tmp 2]) Try.results50 (.tmp rfl (.nil)) (Ln := []) ⟨rfl, rfl, trivial⟩ (loNil) (by exact .refl)
    · skip
      refine T_seq ?_
      refine T_reg ?_
      refine T_val (Ev_move rfl) rfl ?_
      refine T_val (Ev_len rfl 72 Try.underlying43) rfl ?_
      refine T_val (Ev_move rfl) rfl ?_
      refine T_nil ?_
      refine T_next ?_
      refine T_block ?_
      obtain ⟨t69, hl69, ho69⟩ := bnd_some hx3
      refine T_loopP (σ := Int) (γ := Unit) hl69 (fun s69 y69 => [(9, .slice (A0_0) ((p0).length) (c0_0)), (10, .int .i64 ((((p0).length : Nat) : Int))), (11, .int .i64 (s69))]) (fun s69 y69 => [] ++ [.old w]) (fun s69 y69 => True) () trivial (by exact .cons rfl (.cons rfl (.cons rfl (.nil)))) (by exact .refl) ?_
      intro s69 y69 hG69 x69 hx69 ht69
      unfold label_validEdits_l4 at hx69
      refine T_seq ?_
      refine T_reg ?_
      refine T_val (Ev_lss rfl rfl) rfl ?_
      refine T_nil ?_
      refine T_next ?_
      refine T_seq ?_
      refine T_caseP (s := 12) rfl (fun h70 => ?_) (fun h70 => ?_)
      · have hx71 := ite_t h70 hx69
        refine T_condT rfl ?_
        refine T_skip ?_
        refine T_next ?_
        refine T_seq ?_
        refine T_block ?_
        refine T_seq ?_
        refine T_reg ?_
        obtain ⟨x73, h74, hx75⟩ := bnd_some hx71
        obtain ⟨b76, o77, j78, ys86, hA79, hj80, hl81, hp82, hr87⟩ := HasN.at_idx ha0' h74
        obtain ⟨A83, c84, rfl, hs85⟩ := hr87
        have hp88 := Pt.low (E := []) hp82 hK
        refine T_val (Ev_index rfl rfl hA79 (j := j78) hj80 hl81 slc43) rfl ?_
        refine T_val (Ev_loadPK0 rfl hp88 (SubE.cons2 (i := 0) rfl (SubE.nil)) rfl agg72) rfl ?_
        refine T_x (Wx_alloc zer72 rfl (fun g89 => ?_))
        refine T_h (Wh_store rfl rfl rfl (.here) (.put (.put (.put (.put (.done))))) rfl (List.cons_ne_nil _ _) agg72.2 ?_)
        refine T_nil ?_
        refine T_next ?_
        refine T_seq ?_
        refine T_reg ?_
        refine T_val (Ev_field rfl fld72_1 rfl) rfl ?_
        refine T_val (Ev_load1 rfl (i := 0) rfl rfl one22) rfl ?_
        refine T_val (Ev_len rfl 24 Try.underlying22) rfl ?_
        refine T_val (Ev_gtr rfl rfl) rfl ?_
        refine T_val (Ev_assign rfl) rfl ?_
        refine T_nil ?_
        refine T_next ?_
        obtain ⟨j19, hj19, hx75⟩ := jn_some hx75
        refine T_cutP (τ := Bool) (γ := Unit) (J := j19) (out := x69) (fun s19 y19 => [(9, .slice (A0_0) ((p0).length) (c0_0)), (10, .int .i64 ((((p0).length : Nat) : Int))), (11, .int .i64 (s69)), (45, .bool (s19))]) (fun s19 y19 => [] ++ [.old w]) (fun s19 y19 => True) ?_ ?_
        · intro s19 y19 hx129 hG130
          subst hj19
          refine T_caseB (s := 45) rfl (fun h131 => ?_) (fun h131 => ?_)
          · have hx132 := ite_t h131 hx129
            refine T_condT rfl ?_
            refine T_seq ?_
            refine T_reg ?_
            refine T_val (Ev_assign rfl) rfl ?_
            refine T_nil ?_
            refine T_next ?_
            refine T_retc ?_
            refine T_inR ?_
            refine T_outR ?_
            obtain rfl := exit_eq ht69 hx132
            refine T_outR ?_
            refine T_inR ?_
            refine T_outR ?_
            obtain rfl := Option.some.inj ho69
            exact T_retP (rs := [.tmp 2]) Try.results50 (.tmp rfl (.nil)) (Ln := []) ⟨rfl, rfl, trivial⟩ (loNil) (by exact .refl)
          · have hx133 := ite_bf h131 hx129
            refine T_condF rfl ?_
            refine T_skip ?_
            refine T_inN ?_
            refine T_next ?_
            refine T_reg ?_
            refine T_val (Ev_add_w64 rfl rfl) rfl ?_
            refine T_val (Ev_move rfl) rfl ?_
            refine T_nil ?_
            exact T_roundP (w64 (s69 + 1)) () hx133 trivial (by exact .cons rfl (.cons rfl (.cons rfl (.nil)))) (by exact .refl)
        · skip
          refine T_reg ?_
          refine T_val (Ev_move rfl) rfl ?_
          refine T_val (Ev_move rfl) rfl ?_
          refine T_caseP (s := 20) rfl (fun h90 => ?_) (fun h90 => ?_)
          · have hx91 := ite_t h90 hx75
            refine T_valG rfl rfl rfl (Ev_field rfl fld72_1 rfl) rfl ?_
            refine T_valG rfl rfl rfl (Ev_load1 rfl (i := 0) rfl rfl one22) rfl ?_
            obtain ⟨r92, h93, hx94⟩ := bnd_some hx91
            refine T_xG rfl rfl rfl (Wx_callL rfl (fun w1 hw1 => label_validRing_ok x73.Ring (Has.len' hs85) h93 w1 (okApp (K := K) (K2 := []) hK (by exact (SubE.cons2 (i := 1) rfl (SubE.nil))) (by exact (SubE.nil)) hw1)) rfl ?_)
            rintro _ _ hlo ⟨rfl, rfl, -⟩
            refine T_app0 ?_
            refine T_valG rfl rfl rfl (Ev_not rfl) rfl ?_
            refine T_val (Ev_pickT rfl rfl) rfl ?_
            refine T_val (Ev_move rfl) rfl ?_
            refine T_caseNB (s := 26) rfl (fun h95 => ?_) (fun h95 => ?_)
            · have hx96 := ite_bf h95 hx94
              refine T_skipG rfl rfl rfl rfl rfl ?_
              refine T_skipG rfl rfl rfl rfl rfl ?_
              refine T_skipG rfl rfl rfl rfl rfl ?_
              refine T_skipG rfl rfl rfl rfl rfl ?_
              refine T_val (Ev_pickT rfl rfl) rfl ?_
              refine T_val (Ev_move rfl) rfl ?_
              refine T_skipG rfl rfl rfl rfl rfl ?_
              refine T_skipG rfl rfl rfl rfl rfl ?_
              refine T_skipU rfl rfl rfl rfl ?_
              refine T_skipU rfl rfl rfl rfl ?_
              refine T_skipU rfl rfl rfl rfl ?_
              refine T_skipG rfl rfl rfl rfl rfl ?_
              refine T_skipG rfl rfl rfl rfl rfl ?_
              refine T_skipU rfl rfl rfl rfl ?_
              refine T_skipU rfl rfl rfl rfl ?_
              refine T_skipU rfl rfl rfl rfl ?_
              refine T_skipU rfl rfl rfl rfl ?_
              refine T_skipG rfl rfl rfl rfl rfl ?_
              refine T_val (Ev_pickT rfl rfl) rfl ?_
              refine T_nil ?_
              exact T_metP true () hx96 trivial (by exact .cons rfl (.cons rfl (.cons rfl (.cons rfl (.nil))))) (by exact .drop 0 rfl (.refl))
            · have hx97 := ite_t h95 hx94
              refine T_valG rfl rfl rfl (Ev_field rfl fld72_3 rfl) rfl ?_
              refine T_valG rfl rfl rfl (Ev_load1 rfl (i := 0) rfl rfl one3) rfl ?_
              obtain ⟨r98, h99, hx100⟩ := bnd_some hx97
              refine T_xG rfl rfl rfl (Wx_callL rfl (fun w1 hw1 => label_isClass_ok x73.To  h99 w1) rfl ?_)
              rintro _ _ hlo ⟨rfl, rfl, -⟩
              refine T_app0 ?_
              refine T_valG rfl rfl rfl (Ev_not rfl) rfl ?_
              refine T_val (Ev_pickF rfl rfl) rfl ?_
              refine T_val (Ev_move rfl) rfl ?_
              refine T_caseNB (s := 32) rfl (fun h101 => ?_) (fun h101 => ?_)
              · have hx102 := ite_bf h101 hx100
                refine T_skipG rfl rfl rfl rfl rfl ?_
                refine T_skipG rfl rfl rfl rfl rfl ?_
                refine T_skipU rfl rfl rfl rfl ?_
                refine T_skipU rfl rfl rfl rfl ?_
                refine T_skipU rfl rfl rfl rfl ?_
                refine T_skipG rfl rfl rfl rfl rfl ?_
                refine T_skipG rfl rfl rfl rfl rfl ?_
                refine T_skipU rfl rfl rfl rfl ?_
                refine T_skipU rfl rfl rfl rfl ?_
                refine T_skipU rfl rfl rfl rfl ?_
                refine T_skipU rfl rfl rfl rfl ?_
                refine T_skipG rfl rfl rfl rfl rfl ?_
                refine T_val (Ev_pickT rfl rfl) rfl ?_
                refine T_nil ?_
                exact T_metP true () hx102 trivial (by exact .cons rfl (.cons rfl (.cons rfl (.cons rfl (.nil))))) (by exact .drop 0 rfl (.refl))
              · have hx103 := ite_t h101 hx100
                refine T_valG rfl rfl rfl (Ev_move rfl) rfl ?_
                refine T_valG rfl rfl rfl (Ev_move rfl) rfl ?_
                refine T_caseP (s := 34) rfl (fun h104 => ?_) (fun h104 => ?_)
                · have hx105 := ite_t h104 hx103
                  refine T_valG rfl rfl rfl (Ev_field rfl fld72_2 rfl) rfl ?_
                  refine T_valG rfl rfl rfl (Ev_load1 rfl (i := 0) rfl rfl one3) rfl ?_
                  refine T_valG rfl rfl rfl (Ev_neq rfl rfl) rfl ?_
                  refine T_valG rfl rfl rfl (Ev_pickT rfl rfl) rfl ?_
                  refine T_valG rfl rfl rfl (Ev_move rfl) rfl ?_
                  refine T_caseNP (s := 39) rfl (fun h106 => ?_) (fun h106 => ?_)
                  · have hx107 := ite_f h106 hx105
                    refine T_valG rfl rfl rfl (Ev_field rfl fld72_2 rfl) rfl ?_
                    refine T_valG rfl rfl rfl (Ev_load1 rfl (i := 0) rfl rfl one3) rfl ?_
                    obtain ⟨r108, h109, hx110⟩ := bnd_some hx107
                    refine T_xG rfl rfl rfl (Wx_callL rfl (fun w1 hw1 => label_isClass_ok x73.From  h109 w1) rfl ?_)
                    rintro _ _ hlo ⟨rfl, rfl, -⟩
                    refine T_app0 ?_
                    refine T_valG rfl rfl rfl (Ev_not rfl) rfl ?_
                    refine T_valG rfl rfl rfl (Ev_pickT rfl rfl) rfl ?_
                    refine T_val (Ev_pickF rfl rfl) rfl ?_
                    refine T_nil ?_
                    exact T_metP (!(r108)) () hx110 trivial (by exact .cons rfl (.cons rfl (.cons rfl (.cons rfl (.nil))))) (by exact .drop 0 rfl (.refl))
                  · have hx111 := ite_t h106 hx105
                    refine T_skipG rfl rfl rfl rfl rfl ?_
                    refine T_skipG rfl rfl rfl rfl rfl ?_
                    refine T_skipG rfl rfl rfl rfl rfl ?_
                    refine T_skipG rfl rfl rfl rfl rfl ?_
                    refine T_valG rfl rfl rfl (Ev_pickF rfl rfl) rfl ?_
                    refine T_val (Ev_pickF rfl rfl) rfl ?_
                    refine T_nil ?_
                    exact T_metP false () hx111 trivial (by exact .cons rfl (.cons rfl (.cons rfl (.cons rfl (.nil))))) (by exact .drop 0 rfl (.refl))
                · have hx112 := ite_f h104 hx103
                  refine T_skipG rfl rfl rfl rfl rfl ?_
                  refine T_skipG rfl rfl rfl rfl rfl ?_
                  refine T_skipG rfl rfl rfl rfl rfl ?_
                  refine T_valG rfl rfl rfl (Ev_pickF rfl rfl) rfl ?_
                  refine T_valG rfl rfl rfl (Ev_move rfl) rfl ?_
                  refine T_skipG rfl rfl rfl rfl rfl ?_
                  refine T_skipG rfl rfl rfl rfl rfl ?_
                  refine T_skipG rfl rfl rfl rfl rfl ?_
                  refine T_skipG rfl rfl rfl rfl rfl ?_
                  refine T_valG rfl rfl rfl (Ev_pickF rfl rfl) rfl ?_
                  refine T_val (Ev_pickF rfl rfl) rfl ?_
                  refine T_nil ?_
                  exact T_metP false () hx112 trivial (by exact .cons rfl (.cons rfl (.cons rfl (.cons rfl (.nil))))) (by exact .drop 0 rfl (.refl))
          · have hx113 := ite_f h90 hx75
            refine T_skipG rfl rfl rfl rfl rfl ?_
            refine T_skipG rfl rfl rfl rfl rfl ?_
            refine T_skipG rfl rfl rfl rfl rfl ?_
            refine T_skipG rfl rfl rfl rfl rfl ?_
            refine T_val (Ev_pickF rfl rfl) rfl ?_
            refine T_val (Ev_move rfl) rfl ?_
            refine T_valG rfl rfl rfl (Ev_field rfl fld72_3 rfl) rfl ?_
            refine T_valG rfl rfl rfl (Ev_load1 rfl (i := 0) rfl rfl one3) rfl ?_
            obtain ⟨r114, h115, hx116⟩ := bnd_some hx113
            refine T_xG rfl rfl rfl (Wx_callL rfl (fun w1 hw1 => label_isClass_ok x73.To  h115 w1) rfl ?_)
            rintro _ _ hlo ⟨rfl, rfl, -⟩
            refine T_app0 ?_
            refine T_valG rfl rfl rfl (Ev_not rfl) rfl ?_
            refine T_val (Ev_pickF rfl rfl) rfl ?_
            refine T_val (Ev_move rfl) rfl ?_
            refine T_caseNB (s := 32) rfl (fun h117 => ?_) (fun h117 => ?_)
            · have hx118 := ite_bf h117 hx116
              refine T_skipG rfl rfl rfl rfl rfl ?_
              refine T_skipG rfl rfl rfl rfl rfl ?_
              refine T_skipU rfl rfl rfl rfl ?_
              refine T_skipU rfl rfl rfl rfl ?_
              refine T_skipU rfl rfl rfl rfl ?_
              refine T_skipG rfl rfl rfl rfl rfl ?_
              refine T_skipG rfl rfl rfl rfl rfl ?_
              refine T_skipU rfl rfl rfl rfl ?_
              refine T_skipU rfl rfl rfl rfl ?_
              refine T_skipU rfl rfl rfl rfl ?_
              refine T_skipU rfl rfl rfl rfl ?_
              refine T_skipG rfl rfl rfl rfl rfl ?_
              refine T_val (Ev_pickT rfl rfl) rfl ?_
              refine T_nil ?_
              exact T_metP true () hx118 trivial (by exact .cons rfl (.cons rfl (.cons rfl (.cons rfl (.nil))))) (by exact .drop 0 rfl (.refl))
            · have hx119 := ite_t h117 hx116
              refine T_valG rfl rfl rfl (Ev_move rfl) rfl ?_
              refine T_valG rfl rfl rfl (Ev_move rfl) rfl ?_
              refine T_caseP (s := 34) rfl (fun h120 => ?_) (fun h120 => ?_)
              · have hx121 := ite_t h120 hx119
                refine T_valG rfl rfl rfl (Ev_field rfl fld72_2 rfl) rfl ?_
                refine T_valG rfl rfl rfl (Ev_load1 rfl (i := 0) rfl rfl one3) rfl ?_
                refine T_valG rfl rfl rfl (Ev_neq rfl rfl) rfl ?_
                refine T_valG rfl rfl rfl (Ev_pickT rfl rfl) rfl ?_
                refine T_valG rfl rfl rfl (Ev_move rfl) rfl ?_
                refine T_caseNP (s := 39) rfl (fun h122 => ?_) (fun h122 => ?_)
                · have hx123 := ite_f h122 hx121
                  refine T_valG rfl rfl rfl (Ev_field rfl fld72_2 rfl) rfl ?_
                  refine T_valG rfl rfl rfl (Ev_load1 rfl (i := 0) rfl rfl one3) rfl ?_
                  obtain ⟨r124, h125, hx126⟩ := bnd_some hx123
                  refine T_xG rfl rfl rfl (Wx_callL rfl (fun w1 hw1 => label_isClass_ok x73.From  h125 w1) rfl ?_)
                  rintro _ _ hlo ⟨rfl, rfl, -⟩
                  refine T_app0 ?_
                  refine T_valG rfl rfl rfl (Ev_not rfl) rfl ?_
                  refine T_valG rfl rfl rfl (Ev_pickT rfl rfl) rfl ?_
                  refine T_val (Ev_pickF rfl rfl) rfl ?_
                  refine T_nil ?_
                  exact T_metP (!(r124)) () hx126 trivial (by exact .cons rfl (.cons rfl (.cons rfl (.cons rfl (.nil))))) (by exact .drop 0 rfl (.refl))
                · have hx127 := ite_t h122 hx121
                  refine T_skipG rfl rfl rfl rfl rfl ?_
                  refine T_skipG rfl rfl rfl rfl rfl ?_
                  refine T_skipG rfl rfl rfl rfl rfl ?_
                  refine T_skipG rfl rfl rfl rfl rfl ?_
                  refine T_valG rfl rfl rfl (Ev_pickF rfl rfl) rfl ?_
                  refine T_val (Ev_pickF rfl rfl) rfl ?_
                  refine T_nil ?_
                  exact T_metP false () hx127 trivial (by exact .cons rfl (.cons rfl (.cons rfl (.cons rfl (.nil))))) (by exact .drop 0 rfl (.refl))
              · have hx128 := ite_f h120 hx119
                refine T_skipG rfl rfl rfl rfl rfl ?_
                refine T_skipG rfl rfl rfl rfl rfl ?_
                refine T_skipG rfl rfl rfl rfl rfl ?_
                refine T_valG rfl rfl rfl (Ev_pickF rfl rfl) rfl ?_
                refine T_valG rfl rfl rfl (Ev_move rfl) rfl ?_
                refine T_skipG rfl rfl rfl rfl rfl ?_
                refine T_skipG rfl rfl rfl rfl rfl ?_
                refine T_skipG rfl rfl rfl rfl rfl ?_
                refine T_skipG rfl rfl rfl rfl rfl ?_
                refine T_valG rfl rfl rfl (Ev_pickF rfl rfl) rfl ?_
                refine T_val (Ev_pickF rfl rfl) rfl ?_
                refine T_nil ?_
                exact T_metP false () hx128 trivial (by exact .cons rfl (.cons rfl (.cons rfl (.cons rfl (.nil))))) (by exact .drop 0 rfl (.refl))
      · have hx72 := ite_f h70 hx69
        refine T_condF rfl ?_
        refine T_exit ?_
        refine T_outX ?_
        obtain rfl := exit_eq ht69 hx72
        refine T_outX ?_
        refine T_here ?_
        exact T_metP () () ho69 trivial (by exact .nil) (by exact .refl)
set_option maxRecDepth 100000 in
theorem label_applies_ok (p0 : S_api_Edit) (p1 : S_api_Point) (p2 : Int) {K : List Ent} {A0_0 : Option Addr} {c0_0 : Nat} (ha0 : Has K A0_0 (p0.Ring).length c0_0 2 e_api_XY (p0.Ring)) {r : Bool} (hx : label_applies p0 p1 p2 = some r) (w : World) (hK : ∀ e ∈ K, Ent.ok w e) : CtL Try.prog 65 [.agg #[.int .i64 (p0.Id), .slice (A0_0) ((p0.Ring).length) (c0_0), .int .i64 (p0.From), .int .i64 (p0.To)], .agg #[.int .i64 (p1.Id), .int .i64 (p1.X), .int .i64 (p1.Y), .int .i64 (p1.Z.Lo), .int .i64 (p1.Z.Hi), .int .i64 (p1.Wide), .int .i64 (p1.Num), .int .i64 (p1.Of), .int .i64 (p1.Class)], .int .i64 (p2)] w fun v Ln => v = .bool (r) ∧ Ln = [] ∧ True := by
  have ha0' := Has.up0 ha0
  refine CtL.mk 32 Try.func65 rfl Try.ntmps65 (by kernel_rfl) rfl ?_
  show T 32 _ [(0, .agg #[.int .i64 (p0.Id), .slice (A0_0) ((p0.Ring).length) (c0_0), .int .i64 (p0.From), .int .i64 (p0.To)]), (1, .agg #[.int .i64 (p1.Id), .int .i64 (p1.X), .int .i64 (p1.Y), .int .i64 (p1.Z.Lo), .int .i64 (p1.Z.Hi), .int .i64 (p1.Wide), .int .i64 (p1.Num), .int .i64 (p1.Of), .int .i64 (p1.Class)]), (2, .int .i64 (p2))] _
  unfold label_applies at hx
  refine T_seq ?_
  refine T_reg ?_
  refine T_x (Wx_box rfl rfl rfl (fun g1 => ?_))
  refine T_x (Wx_box rfl rfl rfl (fun g2 => ?_))
  refine T_val (Ev_assign rfl) rfl ?_
  refine T_nil ?_
  refine T_next ?_
  refine T_seq ?_
  refine T_seq ?_
  refine T_reg ?_
  refine T_val (Ev_field rfl fld72_1 rfl) rfl ?_
  refine T_val (Ev_load1 rfl (i := 1) rfl rfl one22) rfl ?_
  refine T_val (Ev_len rfl 24 Try.underlying22) rfl ?_
  refine T_val (Ev_eql rfl rfl) rfl ?_
  refine T_nil ?_
  refine T_next ?_
  refine T_caseP (s := 10) rfl (fun h3 => ?_) (fun h3 => ?_)
  · have hx4 := ite_t h3 hx
    refine T_condT rfl ?_
    refine T_seq ?_
    refine T_reg ?_
    refine T_val (Ev_field rfl fld72_0 rfl) rfl ?_
    refine T_val (Ev_load1 rfl (i := 1) rfl rfl one3) rfl ?_
    refine T_val (Ev_field rfl fld53_0 rfl) rfl ?_
    refine T_val (Ev_load1 rfl (i := 0) rfl rfl one3) rfl ?_
    refine T_val (Ev_eql rfl rfl) rfl ?_
    refine T_val (Ev_assign rfl) rfl ?_
    refine T_nil ?_
    refine T_next ?_
    refine T_retc ?_
    refine T_outR ?_
    obtain rfl := Option.some.inj hx4
    exact T_retP (rs := [.tmp 6]) Try.results65 (.tmp rfl (.nil)) (Ln := []) ⟨rfl, rfl, trivial⟩ (loNil) (by exact .drop 0 rfl (.drop 0 rfl (.refl)))
  · have hx5 := ite_f h3 hx
    refine T_condF rfl ?_
    refine T_skip ?_
    refine T_next ?_
    obtain ⟨j5, hj5, hx5⟩ := jn_some hx5
    refine T_cutP (τ := Bool) (γ := Unit) (J := j5) (out := r) (fun s5 y5 => [(6, .bool (s5))]) (fun s5 y5 => [] ++ [.old w]) (fun s5 y5 => True) ?_ ?_
    · intro s5 y5 hx24 hG25
      subst hj5
      refine T_retc ?_
      obtain rfl := Option.some.inj hx24
      exact T_retP (rs := [.tmp 6]) Try.results65 (.tmp rfl (.nil)) (Ln := []) ⟨rfl, rfl, trivial⟩ (loNil) (by exact .refl)
    · skip
      refine T_draw [0, 1, 0, 0, 0, 1, 0, 0, 0, 0, 0, 1, 1, 2, 2, 0, 2] [[], [0], [0, 1], [0, 1, 2], [0, 1, 2, 3], [0, 1, 2, 3, 4], [0, 1, 2, 3], [0, 1, 2, 3, 4, 5, 6], [0, 1, 2, 3, 4, 5, 6, 7], [0, 1, 2, 3, 4, 5, 6, 7, 8], [0, 1, 2, 3, 4, 5, 6, 7, 8, 9], [0, 1, 2, 3, 4, 5, 6, 7, 8, 9, 10], [0, 1, 2, 3, 4, 5, 6, 7, 8, 9], [0, 1, 2, 3, 4, 5, 6, 7, 8, 9, 12], [0, 1, 2, 3, 4, 5, 6, 7, 8, 9, 10, 11, 12, 13], [0, 1, 2, 3, 4, 5, 6, 7, 8, 9, 10, 11, 12, 13, 14], [0, 1, 2, 3, 4, 5, 6, 7, 8, 9, 10, 11, 12, 13, 14, 15]] (.q 0 (.q 1 (.q 2 (.q 3 (.q 4 (.q 5 (.q 6 (.q 7 (.q 8 (.q 9 (.q 10 (.q 11 (.q 12 (.e 13 (.e 14 (.q 15 (.e 16 (.done) (.stop))) (.stop)) (.stop))))))))))))))) mixed (by kernel_rfl) (by kernel_rfl) ?_
      refine P_p rfl rfl (Ev_field rfl fld72_2 rfl) rfl ?_
      refine P_q rfl rfl (Ev_load1 rfl (i := 1) rfl rfl one3) rfl ?_
      refine P_p rfl rfl (Ev_eql rfl rfl) rfl ?_
      refine P_p rfl rfl (Ev_move rfl) rfl ?_
      refine T_caseP (s := 19) rfl (fun h6 => ?_) (fun h6 => ?_)
      · have hx7 := ite_t h6 hx5
        refine P_skip rfl rfl rfl rfl rfl rfl ?_
        refine P_skip rfl rfl rfl rfl rfl rfl ?_
        refine P_skip rfl rfl rfl rfl rfl rfl ?_
        refine P_skip rfl rfl rfl rfl rfl rfl ?_
        refine P_p rfl rfl (Ev_pickT rfl rfl) rfl ?_
        refine P_p rfl rfl (Ev_move rfl) rfl ?_
        refine P_pG rfl rfl rfl rfl rfl (Ev_field rfl fld72_1 rfl) rfl ?_
        refine P_qG rfl rfl rfl rfl rfl (Ev_load1 rfl (i := 1) rfl rfl one22) rfl ?_
        refine P_qG rfl rfl rfl rfl rfl (Ev_loadK rfl (i := 0) rfl rfl agg53) rfl ?_
        obtain ⟨r8, h9, hx10⟩ := bnd_some hx7
        refine P_xG rfl rfl rfl rfl (Wx_callL rfl (fun w1 hw1 => label_place_ok p1  h9 w1) rfl ?_) ?_
        rotate_left; exact P_stop
        rintro _ _ hlo ⟨rfl, rfl, -⟩
        refine T_app0 ?_
        obtain ⟨r11, h12, hx13⟩ := bnd_some hx10
        refine P_xG rfl rfl rfl rfl (Wx_callL rfl (fun w1 hw1 => label_inRing_ok p0.Ring r8 (Has.len' ha0') h12 w1 (okApp (K := K) (K2 := []) hK (by exact (SubE.cons2 (i := 2) rfl (SubE.nil))) (by exact (SubE.nil)) hw1)) rfl ?_) ?_
        rotate_left; exact P_stop
        rintro _ _ hlo ⟨rfl, rfl, -⟩
        refine T_app0 ?_
        refine P_p rfl rfl (Ev_pickT rfl rfl) rfl ?_
        refine P_x rfl (Wx_val (Ev_assign rfl) rfl ?_) ?_
        rotate_left; exact P_stop
        refine P_done ?_
        exact T_metP r11 () hx13 trivial (by exact .cons rfl (.nil)) (by exact .drop 0 rfl (.drop 0 rfl (.refl)))
      · have hx14 := ite_f h6 hx5
        refine P_pG rfl rfl rfl rfl rfl (Ev_field rfl fld72_2 rfl) rfl ?_
        refine P_qG rfl rfl rfl rfl rfl (Ev_load1 rfl (i := 1) rfl rfl one3) rfl ?_
        refine P_pG rfl rfl rfl rfl rfl (Ev_move rfl) rfl ?_
        refine P_pG rfl rfl rfl rfl rfl (Ev_eql rfl rfl) rfl ?_
        refine P_p rfl rfl (Ev_pickF rfl rfl) rfl ?_
        refine P_p rfl rfl (Ev_move rfl) rfl ?_
        refine T_caseP (s := 25) rfl (fun h15 => ?_) (fun h15 => ?_)
        · have hx16 := ite_t h15 hx14
          refine P_pG rfl rfl rfl rfl rfl (Ev_field rfl fld72_1 rfl) rfl ?_
          refine P_qG rfl rfl rfl rfl rfl (Ev_load1 rfl (i := 1) rfl rfl one22) rfl ?_
          refine P_qG rfl rfl rfl rfl rfl (Ev_loadK rfl (i := 0) rfl rfl agg53) rfl ?_
          obtain ⟨r17, h18, hx19⟩ := bnd_some hx16
          refine P_xG rfl rfl rfl rfl (Wx_callL rfl (fun w1 hw1 => label_place_ok p1  h18 w1) rfl ?_) ?_
          rotate_left; exact P_stop
          rintro _ _ hlo ⟨rfl, rfl, -⟩
          refine T_app0 ?_
          obtain ⟨r20, h21, hx22⟩ := bnd_some hx19
          refine P_xG rfl rfl rfl rfl (Wx_callL rfl (fun w1 hw1 => label_inRing_ok p0.Ring r17 (Has.len' ha0') h21 w1 (okApp (K := K) (K2 := []) hK (by exact (SubE.cons2 (i := 2) rfl (SubE.nil))) (by exact (SubE.nil)) hw1)) rfl ?_) ?_
          rotate_left; exact P_stop
          rintro _ _ hlo ⟨rfl, rfl, -⟩
          refine T_app0 ?_
          refine P_p rfl rfl (Ev_pickT rfl rfl) rfl ?_
          refine P_x rfl (Wx_val (Ev_assign rfl) rfl ?_) ?_
          rotate_left; exact P_stop
          refine P_done ?_
          exact T_metP r20 () hx22 trivial (by exact .cons rfl (.nil)) (by exact .drop 0 rfl (.drop 0 rfl (.refl)))
        · have hx23 := ite_f h15 hx14
          refine P_skip rfl rfl rfl rfl rfl rfl ?_
          refine P_skip rfl rfl rfl rfl rfl rfl ?_
          refine P_skip rfl rfl rfl rfl rfl rfl ?_
          refine P_skipE rfl rfl rfl rfl rfl rfl ?_ ?_
          rotate_left; exact P_stop
          refine P_skipE rfl rfl rfl rfl rfl rfl ?_ ?_
          rotate_left; exact P_stop
          refine P_p rfl rfl (Ev_pickF rfl rfl) rfl ?_
          refine P_x rfl (Wx_val (Ev_assign rfl) rfl ?_) ?_
          rotate_left; exact P_stop
          refine P_done ?_
          exact T_metP false () hx23 trivial (by exact .cons rfl (.nil)) (by exact .drop 0 rfl (.drop 0 rfl (.refl)))
set_option maxRecDepth 100000 in
theorem label_corrected_ok (p0 : List S_api_Point) (p1 : List Int) (p2 : List S_api_Edit) {K : List Ent} {A0_0 : Option Addr} {c0_0 : Nat} {A0_1 : Option Addr} {c0_1 : Nat} {A0_2 : Option Addr} {c0_2 : Nat} (ha0 : Has K A0_0 (p0).length c0_0 9 e_api_Point (p0)) (ha1 : Has K A0_1 (p1).length c0_1 1 e_i64 (p1)) (ha2 : HasN K A0_2 (p2).length c0_2 4 n_api_Edit (p2)) {r : List Int} (hx : label_corrected p0 p1 p2 = some r) (w : World) (hK : ∀ e ∈ K, Ent.ok w e) : CtL Try.prog 51 [.slice (A0_0) ((p0).length) (c0_0), .slice (A0_1) ((p1).length) (c0_1), .slice (A0_2) ((p2).length) (c0_2)] w fun v Ln => ∃ (A0 : Option Addr) (c0 : Nat), v = .slice (A0) ((r).length) (c0) ∧ Ln = [.r A0 (r).length c0 3 1 ((r).flatMap e_i64)] ∧ True := by
  have ha0' := Has.up0 ha0
  have ha1' := Has.up0 ha1
  have ha2' := HasN.up0 ha2
  refine CtL.mk 42 Try.func51 rfl Try.ntmps51 (by kernel_rfl) rfl ?_
  show T 42 _ [(0, .slice (A0_0) ((p0).length) (c0_0)), (1, .slice (A0_1) ((p1).length) (c0_1)), (2, .slice (A0_2) ((p2).length) (c0_2))] _
  unfold label_corrected at hx
  refine T_seq ?_
  refine T_reg ?_
  refine T_val (Ev_assign rfl) rfl ?_
  refine T_nil ?_
  refine T_next ?_
  refine T_seq ?_
  refine T_reg ?_
  refine T_val (Ev_move rfl) rfl ?_
  obtain ⟨r1, h2, hx3⟩ := bnd_some hx
  refine T_x (Wx_callL rfl (fun w1 hw1 => clone_Int_ok p1 (Has.len' ha1') h2 w1 (okApp (K := K) (K2 := []) hK (by exact (SubE.cons2 (i := 0) rfl (SubE.nil))) (by exact (SubE.nil)) hw1)) rfl ?_)
  rintro _ _ hlo ⟨A4, c5, rfl, rfl, -⟩
  refine T_app1 ?_
  refine T_val (Ev_assign rfl) rfl ?_
  refine T_nil ?_
  refine T_next ?_
  obtain ⟨j3, hj3, hx3⟩ := jn_some hx3
  refine T_cutP (τ := List Int) (γ := (Option Addr) × Nat) (J := j3) (out := r) (fun s3 y3 => [(7, .slice (y3.1) ((s3).length) (y3.2))]) (fun s3 y3 => [.r (y3.1) ((s3).length) (y3.2) 3 1 ((s3).flatMap e_i64)] ++ [.old w]) (fun s3 y3 => True) ?_ ?_
  · intro s3 y3 hx254 hG255
    subst hj3
    refine T_seq ?_
    refine T_reg ?_
    refine T_val (Ev_move rfl) rfl ?_
    refine T_val (Ev_assign rfl) rfl ?_
    refine T_nil ?_
    refine T_next ?_
    refine T_retc ?_
    obtain rfl := Option.some.inj hx254
    exact T_retP (rs := [.tmp 6]) Try.results51 (.tmp rfl (.nil)) (Ln := [.r (y3.1) ((s3).length) (y3.2) 3 1 ((s3).flatMap e_i64)]) ⟨y3.1, y3.2, rfl, rfl, trivial⟩ (loCons rfl (loNil)) (by exact .pick 0 rfl (.refl))
  · skip
    refine T_seq ?_
    refine T_reg ?_
    refine T_val (Ev_move rfl) rfl ?_
    refine T_val (Ev_len rfl 53 Try.underlying31) rfl ?_
    refine T_val (Ev_move rfl) rfl ?_
    refine T_nil ?_
    refine T_next ?_
    refine T_block ?_
    obtain ⟨t130, hl130, ho130⟩ := bnd_some hx3
    refine T_loopP (σ := (List Int) × Int) (γ := (Option Addr) × Nat) hl130 (fun s130 y130 => [(2, .slice (A0_2) ((p2).length) (c0_2)), (7, .slice (y130.1) ((s130.1).length) (y130.2)), (14, .slice (A0_0) ((p0).length) (c0_0)), (15, .int .i64 ((((p0).length : Nat) : Int))), (16, .int .i64 (s130.2))]) (fun s130 y130 => [.r (y130.1) ((s130.1).length) (y130.2) 3 1 ((s130.1).flatMap e_i64)] ++ [.old w]) (fun s130 y130 => True) (A4, c5) trivial (by exact .cons rfl (.cons rfl (.cons rfl (.cons rfl (.cons rfl (.nil)))))) (by exact .pick 0 rfl (.refl)) ?_
    intro s130 y130 hG130 x130 hx130 ht130
    unfold label_corrected_l3 at hx130
    refine T_seq ?_
    refine T_reg ?_
    refine T_val (Ev_lss rfl rfl) rfl ?_
    refine T_nil ?_
    refine T_next ?_
    refine T_seq ?_
    refine T_caseP (s := 17) rfl (fun h131 => ?_) (fun h131 => ?_)
    · have hx132 := ite_t h131 hx130
      refine T_condT rfl ?_
      refine T_skip ?_
      refine T_next ?_
      obtain ⟨j22, hj22, hx132⟩ := jn_some hx132
      refine T_cutP (τ := List Int) (γ := (Option Addr) × Nat) (J := j22) (out := x130) (fun s22 y22 => [(2, .slice (A0_2) ((p2).length) (c0_2)), (7, .slice (y22.1) ((s22).length) (y22.2)), (14, .slice (A0_0) ((p0).length) (c0_0)), (15, .int .i64 ((((p0).length : Nat) : Int))), (16, .int .i64 (s130.2))]) (fun s22 y22 => [.r (y22.1) ((s22).length) (y22.2) 3 1 ((s22).flatMap e_i64)] ++ [.old w]) (fun s22 y22 => True) ?_ ?_
      · intro s22 y22 hx252 hG253
        subst hj22
        refine T_reg ?_
        refine T_val (Ev_add_w64 rfl rfl) rfl ?_
        refine T_val (Ev_move rfl) rfl ?_
        refine T_nil ?_
        exact T_roundP (s22, w64 (s130.2 + 1)) (y22.1, y22.2) hx252 trivial (by exact .cons rfl (.cons rfl (.cons rfl (.cons rfl (.cons rfl (.nil)))))) (by exact .pick 0 rfl (.refl))
      · skip
        refine T_block ?_
        refine T_seq ?_
        refine T_reg ?_
        refine T_val (Ev_move rfl) rfl ?_
        obtain ⟨x134, h135, hx136⟩ := bnd_some hx132
        have hw144 := Has.low (E := []) ha0' hK
        obtain ⟨b137, o138, j139, hA140, hj141, hl142, hp143⟩ := Has.at_idx hw144 h135
        refine T_val (Ev_index rfl rfl hA140 (j := j139) hj141 hl142 slc31) rfl ?_
        refine T_val (Ev_loadPK0 rfl hp143 (SubE.cons2 (i := 1) rfl (SubE.nil)) rfl agg53) rfl ?_
        refine T_x (Wx_alloc zer53 rfl (fun g145 => ?_))
        refine T_val (Ev_assign rfl) rfl ?_
        refine T_h (Wh_store rfl rfl rfl (.here) (.put (.put (.put (.put (.put (.put (.put (.put (.put (.done)))))))))) rfl (List.cons_ne_nil _ _) agg53.2 ?_)
        refine T_nil ?_
        refine T_next ?_
        refine T_seq ?_
        refine T_reg ?_
        refine T_val (Ev_move rfl) rfl ?_
        refine T_val (Ev_len rfl 72 Try.underlying43) rfl ?_
        refine T_val (Ev_move rfl) rfl ?_
        refine T_nil ?_
        refine T_next ?_
        refine T_block ?_
        obtain ⟨t199, hl199, ho199⟩ := bnd_some hx136
        refine T_loopP (σ := (List Int) × Int) (γ := (Option Addr) × Nat) hl199 (fun s199 y199 => [(2, .slice (A0_2) ((p2).length) (c0_2)), (7, .slice (y199.1) ((s199.1).length) (y199.2)), (8, .int .i64 (s130.2)), (9, .pointer (some ⟨g145, 0, none⟩)), (14, .slice (A0_0) ((p0).length) (c0_0)), (15, .int .i64 ((((p0).length : Nat) : Int))), (16, .int .i64 (s130.2)), (21, .slice (A0_2) ((p2).length) (c0_2)), (22, .int .i64 ((((p2).length : Nat) : Int))), (23, .int .i64 (s199.2))]) (fun s199 y199 => [.m g145 53 [.int .i64 (x134.Id), .int .i64 (x134.X), .int .i64 (x134.Y), .int .i64 (x134.Z.Lo), .int .i64 (x134.Z.Hi), .int .i64 (x134.Wide), .int .i64 (x134.Num), .int .i64 (x134.Of), .int .i64 (x134.Class)], .r (y199.1) ((s199.1).length) (y199.2) 3 1 ((s199.1).flatMap e_i64)] ++ [.old w]) (fun s199 y199 => True) (y130.1, y130.2) trivial (by exact .cons rfl (.cons rfl (.cons rfl (.cons rfl (.cons rfl (.cons rfl (.cons rfl (.cons rfl (.cons rfl (.cons rfl (.nil))))))))))) (by exact .pick 0 rfl (.pick 0 rfl (.refl))) ?_
        intro s199 y199 hG199 x199 hx199 ht199
        unfold label_corrected_l6 at hx199
        refine T_seq ?_
        refine T_reg ?_
        refine T_val (Ev_lss rfl rfl) rfl ?_
        refine T_nil ?_
        refine T_next ?_
        refine T_seq ?_
        refine T_caseP (s := 24) rfl (fun h200 => ?_) (fun h200 => ?_)
        · have hx201 := ite_t h200 hx199
          refine T_condT rfl ?_
          refine T_skip ?_
          refine T_next ?_
          obtain ⟨j32, hj32, hx201⟩ := jn_some hx201
          refine T_cutP (τ := List Int) (γ := (Option Addr) × Nat) (J := j32) (out := x199) (fun s32 y32 => [(2, .slice (A0_2) ((p2).length) (c0_2)), (7, .slice (y32.1) ((s32).length) (y32.2)), (8, .int .i64 (s130.2)), (9, .pointer (some ⟨g145, 0, none⟩)), (14, .slice (A0_0) ((p0).length) (c0_0)), (15, .int .i64 ((((p0).length : Nat) : Int))), (16, .int .i64 (s130.2)), (21, .slice (A0_2) ((p2).length) (c0_2)), (22, .int .i64 ((((p2).length : Nat) : Int))), (23, .int .i64 (s199.2))]) (fun s32 y32 => [.m g145 53 [.int .i64 (x134.Id), .int .i64 (x134.X), .int .i64 (x134.Y), .int .i64 (x134.Z.Lo), .int .i64 (x134.Z.Hi), .int .i64 (x134.Wide), .int .i64 (x134.Num), .int .i64 (x134.Of), .int .i64 (x134.Class)], .r (y32.1) ((s32).length) (y32.2) 3 1 ((s32).flatMap e_i64)] ++ [.old w]) (fun s32 y32 => True) ?_ ?_
          · intro s32 y32 hx248 hG249
            subst hj32
            refine T_reg ?_
            refine T_val (Ev_add_w64 rfl rfl) rfl ?_
            refine T_val (Ev_move rfl) rfl ?_
            refine T_nil ?_
            exact T_roundP (s32, w64 (s199.2 + 1)) (y32.1, y32.2) hx248 trivial (by exact .cons rfl (.cons rfl (.cons rfl (.cons rfl (.cons rfl (.cons rfl (.cons rfl (.cons rfl (.cons rfl (.cons rfl (.nil))))))))))) (by exact .pick 0 rfl (.pick 0 rfl (.refl)))
          · skip
            refine T_block ?_
            refine T_seq ?_
            refine T_reg ?_
            obtain ⟨x203, h204, hx205⟩ := bnd_some hx201
            obtain ⟨b206, o207, j208, ys216, hA209, hj210, hl211, hp212, hr217⟩ := HasN.at_idx ha2' h204
            obtain ⟨A213, c214, rfl, hs215⟩ := hr217
            have hp218 := Pt.low (E := []) hp212 hK
            refine T_val (Ev_index rfl rfl hA209 (j := j208) hj210 hl211 slc43) rfl ?_
            refine T_val (Ev_loadPK0 rfl hp218 (SubE.cons2 (i := 2) rfl (SubE.nil)) rfl agg72) rfl ?_
            refine T_x (Wx_alloc zer72 rfl (fun g219 => ?_))
            refine T_h (Wh_store rfl rfl rfl (.here) (.put (.put (.put (.put (.done))))) rfl (List.cons_ne_nil _ _) agg72.2 ?_)
            refine T_nil ?_
            refine T_next ?_
            refine T_seq ?_
            refine T_draw [1, 1, 0, 0, 0, 1, 2] [[], [], [], [], [2, 3], [2, 3, 4], [0, 1, 2, 3, 4, 5]] (.q 0 (.q 1 (.q 2 (.q 3 (.q 4 (.q 5 (.e 6 (.done) (.stop)))))))) mixed (by kernel_rfl) (by kernel_rfl) ?_
            refine P_q rfl rfl (Ev_loadK rfl (i := 0) rfl rfl agg72) rfl ?_
            refine P_q rfl rfl (Ev_loadK rfl (i := 1) rfl rfl agg53) rfl ?_
            refine P_p rfl rfl (Ev_move rfl) rfl ?_
            refine P_p rfl rfl (Ev_move rfl) rfl ?_
            obtain ⟨x220, h221, hx222⟩ := bnd_some hx205
            refine T_idxR (k := 2) rfl (by decide) (fun _ => rfl) h221 (fun b223 j225 hA226 hj227 hl228 hm230 hp229 => ?_)
            refine P_p rfl rfl (Ev_index rfl rfl hA226 (j := j225) hj227 hl228 slc35) rfl ?_
            refine P_q rfl rfl (Ev_loadP0 rfl hp229 (SubE.cons2 (i := 2) rfl (SubE.nil)) rfl one3) rfl ?_
            obtain ⟨r231, h232, hx233⟩ := bnd_some hx222
            refine P_x rfl (Wx_callL rfl (fun w1 hw1 => label_applies_ok x203 x134 x220 (Has.len' hs215) h232 w1 (okApp (K := K) (K2 := []) hK (by exact (SubE.cons2 (i := 3) rfl (SubE.nil))) (by exact (SubE.nil)) hw1)) rfl ?_) ?_
            rotate_left; exact P_stop
            rintro _ _ hlo ⟨rfl, rfl, -⟩
            refine T_app0 ?_
            refine P_done ?_
            refine T_next ?_
            refine T_caseB (s := 33) rfl (fun h234 => ?_) (fun h234 => ?_)
            · have hx235 := ite_t h234 hx233
              refine T_condT rfl ?_
              refine T_reg ?_
              refine T_val (Ev_move rfl) rfl ?_
              refine T_val (Ev_move rfl) rfl ?_
              refine T_val (Ev_field rfl fld72_3 rfl) rfl ?_
              refine T_val (Ev_load1 rfl (i := 0) rfl rfl one3) rfl ?_
              obtain ⟨x236, h237, hx238⟩ := bnd_some hx235
              refine T_idxR (k := 2) rfl (by decide) (fun _ => rfl) h237 (fun b239 j241 hA242 hj243 hl244 hm246 hp245 => ?_)
              refine T_val (Ev_index rfl rfl hA242 (j := j241) hj243 hl244 slc35) rfl ?_
              refine T_h (Wh_storeP e_i64 (s199.1) (s130.2) (x203.To) rfl rfl rfl (.there (.there (.here))) hA242 rfl hj243 hl244 (fun _ => rfl) (by decide) rfl one3.2 ?_)
              refine T_nil ?_
              refine T_inN ?_
              have hn250 : (s199.1).length = (setI s199.1 s130.2 x203.To).length := by simp [setI_len, cpy_len, List.length_append] <;> omega
              refine T_ent (.there (.there (.here))) (e' := .r (y199.1) ((setI s199.1 s130.2 x203.To).length) (y199.2) 3 1 ((setI s199.1 s130.2 x203.To).flatMap e_i64)) (by first | (rw [← hn250]; done) | rfl) ?_
              refine T_slot (s := 7) (v' := .slice (y199.1) ((setI s199.1 s130.2 x203.To).length) (y199.2)) rfl (by have hn251 : ((s199.1).length) = (setI s199.1 s130.2 x203.To).length := (by simp [setI_len, cpy_len, List.length_append] <;> omega); first | (rw [← hn251]; done) | rfl) ?_
              exact T_metP (setI s199.1 s130.2 x203.To) (y199.1, y199.2) hx238 trivial (by exact .cons rfl (.cons rfl (.cons rfl (.cons rfl (.cons rfl (.cons rfl (.cons rfl (.cons rfl (.cons rfl (.cons rfl (.nil))))))))))) (by exact .pick 1 rfl (.pick 1 rfl (.drop 0 rfl (.refl))))
            · have hx247 := ite_bf h234 hx233
              refine T_condF rfl ?_
              refine T_skip ?_
              refine T_inN ?_
              exact T_metP s199.1 (y199.1, y199.2) hx247 trivial (by exact .cons rfl (.cons rfl (.cons rfl (.cons rfl (.cons rfl (.cons rfl (.cons rfl (.cons rfl (.cons rfl (.cons rfl (.nil))))))))))) (by exact .pick 1 rfl (.pick 1 rfl (.drop 0 rfl (.refl))))
        · have hx202 := ite_f h200 hx199
          refine T_condF rfl ?_
          refine T_exit ?_
          refine T_outX ?_
          obtain rfl := exit_eq ht199 hx202
          refine T_outX ?_
          refine T_here ?_
          refine T_inN ?_
          exact T_metP s199.1 (y199.1, y199.2) ho199 trivial (by exact .cons rfl (.cons rfl (.cons rfl (.cons rfl (.cons rfl (.nil)))))) (by exact .pick 1 rfl (.drop 0 rfl (.refl)))
    · have hx133 := ite_f h131 hx130
      refine T_condF rfl ?_
      refine T_exit ?_
      refine T_outX ?_
      obtain rfl := exit_eq ht130 hx133
      refine T_outX ?_
      refine T_here ?_
      exact T_metP s130.1 (y130.1, y130.2) ho130 trivial (by exact .cons rfl (.nil)) (by exact .pick 0 rfl (.refl))
set_option maxRecDepth 100000 in
theorem label_Correct_ok (p0 : List S_api_Point) (p1 : List Int) (p2 : List S_api_Edit) {K : List Ent} {A0_0 : Option Addr} {c0_0 : Nat} {A0_1 : Option Addr} {c0_1 : Nat} {A0_2 : Option Addr} {c0_2 : Nat} (ha0 : Has K A0_0 (p0).length c0_0 9 e_api_Point (p0)) (ha1 : Has K A0_1 (p1).length c0_1 1 e_i64 (p1)) (ha2 : HasN K A0_2 (p2).length c0_2 4 n_api_Edit (p2)) {r : (List Int) × Int} (hx : label_Correct p0 p1 p2 = some r) (w : World) (hK : ∀ e ∈ K, Ent.ok w e) : CtL Try.prog 24 [.slice (A0_0) ((p0).length) (c0_0), .slice (A0_1) ((p1).length) (c0_1), .slice (A0_2) ((p2).length) (c0_2)] w fun v Ln => ∃ (A0 : Option Addr) (c0 : Nat), v = .tuple #[.slice (A0) ((r.1).length) (c0), .int .i64 (r.2)] ∧ Ln = [.r A0 (r.1).length c0 3 1 ((r.1).flatMap e_i64)] ∧ True := by
  have ha0' := Has.up0 ha0
  have ha1' := Has.up0 ha1
  have ha2' := HasN.up0 ha2
  refine CtL.mk 26 Try.func24 rfl Try.ntmps24 (by kernel_rfl) rfl ?_
  show T 26 _ [(0, .slice (A0_0) ((p0).length) (c0_0)), (1, .slice (A0_1) ((p1).length) (c0_1)), (2, .slice (A0_2) ((p2).length) (c0_2))] _
  unfold label_Correct at hx
  refine T_seq ?_
  refine T_reg ?_
  refine T_val (Ev_assign rfl) rfl ?_
  refine T_val (Ev_assign rfl) rfl ?_
  refine T_nil ?_
  refine T_next ?_
  refine T_seq ?_
  refine T_seq ?_
  refine T_reg ?_
  refine T_val (Ev_move rfl) rfl ?_
  obtain ⟨r1, h2, hx3⟩ := bnd_some hx
  refine T_x (Wx_callL rfl (fun w1 hw1 => label_Valid_ok p0 (Has.len' ha0') h2 w1 (okApp (K := K) (K2 := []) hK (by exact (SubE.cons2 (i := 0) rfl (SubE.nil))) (by exact (SubE.nil)) hw1)) rfl ?_)
  rintro _ _ hlo ⟨rfl, rfl, -⟩
  refine T_app0 ?_
  refine T_val (Ev_not rfl) rfl ?_
  refine T_nil ?_
  refine T_next ?_
  refine T_caseNB (s := 11) rfl (fun h4 => ?_) (fun h4 => ?_)
  · have hx5 := ite_bf h4 hx3
    refine T_condT rfl ?_
    refine T_seq ?_
    refine T_reg ?_
    refine T_val (Ev_assign rfl) rfl ?_
    refine T_val (Ev_assign rfl) rfl ?_
    refine T_nil ?_
    refine T_next ?_
    refine T_retc ?_
    refine T_outR ?_
    refine T_none 3 1 ?_
    obtain rfl := Option.some.inj hx5
    exact T_retP (rs := [.tmp 6, .tmp 7]) Try.results24 (.tmp rfl (.tmp rfl (.nil))) (Ln := [.r (none) (0) (0) 3 1 ((([] : List Int)).flatMap e_i64)]) ⟨none, 0, rfl, rfl, trivial⟩ (loCons rfl (loNil)) (by exact .pick 0 rfl (.refl))
  · have hx6 := ite_t h4 hx3
    refine T_condF rfl ?_
    refine T_skip ?_
    refine T_next ?_
    refine T_seq ?_
    refine T_seq ?_
    refine T_reg ?_
    refine T_val (Ev_move rfl) rfl ?_
    refine T_val (Ev_len rfl 3 Try.underlying35) rfl ?_
    refine T_val (Ev_move rfl) rfl ?_
    refine T_val (Ev_len rfl 53 Try.underlying31) rfl ?_
    refine T_val (Ev_neq rfl rfl) rfl ?_
    refine T_nil ?_
    refine T_next ?_
    refine T_caseNP (s := 16) rfl (fun h7 => ?_) (fun h7 => ?_)
    · have hx8 := ite_f h7 hx6
      refine T_condT rfl ?_
      refine T_seq ?_
      refine T_reg ?_
      refine T_val (Ev_assign rfl) rfl ?_
      refine T_val (Ev_assign rfl) rfl ?_
      refine T_nil ?_
      refine T_next ?_
      refine T_retc ?_
      refine T_outR ?_
      refine T_none 3 1 ?_
      obtain rfl := Option.some.inj hx8
      exact T_retP (rs := [.tmp 6, .tmp 7]) Try.results24 (.tmp rfl (.tmp rfl (.nil))) (Ln := [.r (none) (0) (0) 3 1 ((([] : List Int)).flatMap e_i64)]) ⟨none, 0, rfl, rfl, trivial⟩ (loCons rfl (loNil)) (by exact .pick 0 rfl (.refl))
    · have hx9 := ite_t h7 hx6
      refine T_condF rfl ?_
      refine T_skip ?_
      refine T_next ?_
      refine T_seq ?_
      refine T_seq ?_
      refine T_reg ?_
      refine T_val (Ev_move rfl) rfl ?_
      obtain ⟨r10, h11, hx12⟩ := bnd_some hx9
      refine T_x (Wx_callL rfl (fun w1 hw1 => label_validEdits_ok p2 (HasN.len' ha2') h11 w1 (okApp (K := K) (K2 := []) hK (by exact (SubE.cons2 (i := 0) rfl (SubE.nil))) (by exact (SubE.nil)) hw1)) rfl ?_)
      rintro _ _ hlo ⟨rfl, rfl, -⟩
      refine T_app0 ?_
      refine T_val (Ev_assign rfl) rfl ?_
      refine T_nil ?_
      refine T_next ?_
      refine T_seq ?_
      refine T_reg ?_
      refine T_val (Ev_move rfl) rfl ?_
      refine T_val (Ev_neq rfl rfl) rfl ?_
      refine T_nil ?_
      refine T_next ?_
      refine T_caseNP (s := 20) rfl (fun h13 => ?_) (fun h13 => ?_)
      · have hx14 := ite_f h13 hx12
        refine T_condT rfl ?_
        refine T_seq ?_
        refine T_reg ?_
        refine T_val (Ev_move rfl) rfl ?_
        refine T_val (Ev_assign rfl) rfl ?_
        refine T_val (Ev_assign rfl) rfl ?_
        refine T_nil ?_
        refine T_next ?_
        refine T_retc ?_
        refine T_outR ?_
        refine T_none 3 1 ?_
        obtain rfl := Option.some.inj hx14
        exact T_retP (rs := [.tmp 6, .tmp 7]) Try.results24 (.tmp rfl (.tmp rfl (.nil))) (Ln := [.r (none) (0) (0) 3 1 ((([] : List Int)).flatMap e_i64)]) ⟨none, 0, rfl, rfl, trivial⟩ (loCons rfl (loNil)) (by exact .pick 0 rfl (.refl))
      · have hx15 := ite_t h13 hx12
        refine T_condF rfl ?_
        refine T_skip ?_
        refine T_next ?_
        refine T_seq ?_
        refine T_reg ?_
        refine T_val (Ev_move rfl) rfl ?_
        refine T_val (Ev_move rfl) rfl ?_
        refine T_val (Ev_move rfl) rfl ?_
        obtain ⟨r16, h17, hx18⟩ := bnd_some hx15
        refine T_x (Wx_callL rfl (fun w1 hw1 => label_corrected_ok p0 p1 p2 (Has.len' ha0') (Has.len' ha1') (HasN.len' ha2') h17 w1 (okApp (K := K) (K2 := []) hK (by exact (SubE.cons2 (i := 0) rfl (SubE.nil))) (by exact (SubE.nil)) hw1)) rfl ?_)
        rintro _ _ hlo ⟨A19, c20, rfl, rfl, -⟩
        refine T_app1 ?_
        refine T_val (Ev_assign rfl) rfl ?_
        refine T_val (Ev_assign rfl) rfl ?_
        refine T_nil ?_
        refine T_next ?_
        refine T_retc ?_
        obtain rfl := Option.some.inj hx18
        exact T_retP (rs := [.tmp 6, .tmp 7]) Try.results24 (.tmp rfl (.tmp rfl (.nil))) (Ln := [.r (A19) ((r16).length) (c20) 3 1 ((r16).flatMap e_i64)]) ⟨A19, c20, rfl, rfl, trivial⟩ (loCons rfl (loNil)) (by exact .pick 0 rfl (.refl))
end Go.Proofs.Ytdkjcoonmgjpfaa
