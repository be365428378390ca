/- Walks of the program, with their plain functions: the references. -/
import Derived.Test.YtdkjcoonmgjpfaaJ3
namespace Go.Proofs.Ytdkjcoonmgjpfaa
open Go Go.RowKit

noncomputable def lidarref07_within (p0 : Int) (p1 : Int) (p2 : Int) : Option Bool :=
 jn (fun (s2 : Bool) =>
 some s2)
 (fun j2 => if p1 ≤ p0 then (j2 (decide (p0 ≤ p2)))
 else (j2 false))
noncomputable def lidarref01_Place (p0 : S_api_XY) : Option Bool :=
 jn (fun (s2 : Bool) =>
 some s2)
 (fun j2 => if (-268435456) ≤ p0.X then (if p0.X ≤ 268435456 then (if (-268435456) ≤ p0.Y then (j2 (decide (p0.Y ≤ 268435456)))
 else (j2 false))
 else (j2 false))
 else (j2 false))
noncomputable def lidarref07_One (p0 : S_api_Point) : Option Bool :=
 jn (fun (s2 : Bool) =>
 some s2)
 (fun j2 => bnd (lidarref07_within p0.Id 0 1152921504606846976) fun r2 =>
 if r2 = true then (bnd (lidarref01_Place (⟨p0.X, p0.Y⟩ : S_api_XY)) fun r7 =>
 if r7 = true then (if p0.Z.Lo ≤ p0.Z.Hi then (if (-268435456) ≤ p0.Z.Lo then (if p0.Z.Hi ≤ 268435456 then (bnd (lidarref07_within p0.Wide 0 268435456) fun r18 =>
 if r18 = true then (bnd (lidarref07_within p0.Num 1 p0.Of) fun r23 =>
 if r23 = true then (j2 (decide (p0.Of ≤ 15)))
 else (j2 false))
 else (j2 false))
 else (j2 false))
 else (j2 false))
 else (j2 false))
 else (j2 false))
 else (j2 false))
noncomputable def lidarref07_Valid_l9 (s85 : Int) (p0 : List S_api_Point) : Int → Option (Sum Int (Sum Unit Bool)) := fun s135 =>
 if s135 < s85 then (bnd (idx p0 s135) fun x139 =>
 bnd (idx p0 s85) fun x150 =>
 if x139.Id = x150.Id then (some (.inr (.inr (false))))
 else (some (.inl (w64 (s135 + 1)))))
 else (some (.inr (.inl ())))
noncomputable def lidarref07_Valid_l4 (p0 : List S_api_Point) : Int → Option (Sum Int (Sum Unit Bool)) := fun s85 =>
 if s85 < ((((p0).length : Nat) : Int)) then (jn (fun (s26 : Unit) =>
 some (.inl (w64 (s85 + 1))))
 (fun j26 => bnd (idx p0 s85) fun x89 =>
 bnd (lidarref07_One x89) fun r100 =>
 if r100 = true then (bnd (lfix (lidarref07_Valid_l9 s85 p0) 0) fun t135 =>
 (match t135 with
 | (.inl z135) => j26 z135
 | (.inr (z135)) => some (.inr (.inr (z135)))
 ))
 else (some (.inr (.inr (false))))))
 else (some (.inr (.inl ())))
noncomputable def lidarref07_Valid (p0 : List S_api_Point) : Option Bool :=
 if 1024 < ((((p0).length : Nat) : Int)) then (some false)
 else (jn (fun (s5 : Unit) =>
 some true)
 (fun j5 => bnd (lfix (lidarref07_Valid_l4 p0) 0) fun t85 =>
 (match t85 with
 | (.inl z85) => j5 z85
 | (.inr (z85)) => some z85
 )))
noncomputable def lidarref07_ValidRules (p0 : S_api_Terrain) : Option Bool :=
 jn (fun (s2 : Bool) =>
 some s2)
 (fun j2 => bnd (lidarref07_within p0.Cell 1 10000000) fun r2 =>
 if r2 = true then (bnd (lidarref07_within p0.Reach 0 1000000) fun r7 =>
 if r7 = true then (bnd (lidarref07_within p0.Slope 0 100000) fun r12 =>
 if r12 = true then (bnd (lidarref07_within p0.Link 1 1000000) fun r17 =>
 if r17 = true then (bnd (lidarref07_within p0.Flat 0 1000000) fun r22 =>
 if r22 = true then (bnd (lidarref07_within p0.Tall 0 1000000) fun r27 =>
 if r27 = true then (bnd (lidarref07_within p0.High 0 1000000) fun r32 =>
 if r32 = true then (bnd (lidarref07_within p0.Low 0 1000000) fun r37 =>
 if r37 = true then (bnd (lidarref07_within p0.Brush 0 1000000) fun r42 =>
 if r42 = true then (bnd (lidarref07_within p0.Few 1 1024) fun r47 =>
 j2 r47)
 else (j2 false))
 else (j2 false))
 else (j2 false))
 else (j2 false))
 else (j2 false))
 else (j2 false))
 else (j2 false))
 else (j2 false))
 else (j2 false))
noncomputable def lidarref07_checked (p0 : List S_api_Point) (p1 : S_api_Terrain) : Option Int :=
 bnd (lidarref07_ValidRules p1) fun r2 =>
 if r2 = true then (bnd (lidarref07_Valid p0) fun r8 =>
 if r8 = true then (some 0)
 else (some 70))
 else (some 71)
noncomputable def lidarref07_lower (p0 : S_api_Point) (p1 : S_api_Point) : Option Bool :=
 jn (fun (s2 : Bool) =>
 some s2)
 (fun j2 => if p0.Z.Hi < p1.Z.Hi then (j2 true)
 else (if p0.Z.Hi = p1.Z.Hi then (j2 (decide (p0.Id < p1.Id)))
 else (j2 false)))
noncomputable def lidarref07_apart (p0 : S_api_Point) (p1 : S_api_Point) : Option Int :=
 some (w64 ((w64 ((w64 (p0.X - p1.X)) * (w64 (p0.X - p1.X)))) + (w64 ((w64 (p0.Y - p1.Y)) * (w64 (p0.Y - p1.Y))))))
noncomputable def lidarref07_ids_l6 (s104 : (List Int) × Int) (p0 : List S_api_Point) : Int → Option (Sum Int Int) := fun s140 =>
 jn (fun (s22 : Bool) =>
 if s22 = true then (some (.inl (w64 (s140 - 1))))
 else (some (.inr s140)))
 (fun j22 => if 0 < s140 then (bnd (idx s104.1 (w64 (s140 - 1))) fun x143 =>
 bnd (idx p0 s104.2) fun x154 =>
 j22 (decide (x154.Id < x143)))
 else (j22 false))
noncomputable def lidarref07_ids_l3 (p0 : List S_api_Point) : ((List Int) × Int) → Option (Sum ((List Int) × Int) (List Int)) := fun s104 =>
 if s104.2 < ((((p0).length : Nat) : Int)) then (jn (fun (s18 : Int) =>
 gd (0 ≤ s18 ∧ s18 ≤ (((s104.1).length : Nat) : Int)) <|
 bnd (idx p0 s104.2) fun x178 =>
 gd (0 ≤ s18 ∧ s18 ≤ (((s104.1).length : Nat) : Int)) <|
 gd ((([x178.Id]).length + (subl s104.1 s18 (((s104.1).length : Nat) : Int)).length) * 8 ≤ 140737488355328) <|
 gd (((subl s104.1 0 s18).length + (([x178.Id]) ++ (subl s104.1 s18 (((s104.1).length : Nat) : Int))).length) * 8 ≤ 140737488355328) <|
 gd (0 < (([x178.Id]) ++ (subl s104.1 s18 (((s104.1).length : Nat) : Int))).length) <|
 some (.inl ((subl s104.1 0 s18) ++ (([x178.Id]) ++ (subl s104.1 s18 (((s104.1).length : Nat) : Int))), w64 (s104.2 + 1))))
 (fun j18 => bnd (lfix (lidarref07_ids_l6 s104 p0) (((s104.1).length : Nat) : Int)) fun t140 =>
 j18 t140))
 else (some (.inr s104.1))
noncomputable def lidarref07_ids (p0 : List S_api_Point) : Option (List Int) :=
 jn (fun (s3 : List Int) =>
 some s3)
 (fun j3 => bnd (lfix (lidarref07_ids_l3 p0) (([] : List Int), 0)) fun t104 =>
 j3 t104)
noncomputable def lidarref07_sunk_l3 (p0 : List S_api_Point) (p1 : S_api_Point) (p2 : S_api_Terrain) : (Bool × Int) → Option (Sum (Bool × Int) (Sum Bool Bool)) := fun s56 =>
 if s56.2 < ((((p0).length : Nat) : Int)) then (jn (fun (s15 : Bool) =>
 some (.inl (s15, w64 (s56.2 + 1))))
 (fun j15 => jn (fun (s17 : Bool) =>
 if s17 = true then (j15 s56.1)
 else (bnd (idx p0 s56.2) fun x93 =>
 if (w64 (x93.Z.Lo - p1.Z.Hi)) ≤ p2.Low then (some (.inr (.inr (false))))
 else (j15 true)))
 (fun j17 => bnd (idx p0 s56.2) fun x60 =>
 if x60.Id = p1.Id then (j17 true)
 else (bnd (idx p0 s56.2) fun x74 =>
 bnd (lidarref07_apart x74 p1) fun r85 =>
 j17 (decide ((w64 (p2.Link * p2.Link)) < r85))))))
 else (some (.inr (.inl s56.1)))
noncomputable def lidarref07_sunk (p0 : List S_api_Point) (p1 : S_api_Point) (p2 : S_api_Terrain) : Option Bool :=
 jn (fun (s3 : Bool) =>
 some s3)
 (fun j3 => bnd (lfix (lidarref07_sunk_l3 p0 p1 p2) (false, 0)) fun t56 =>
 (match t56 with
 | (.inl z56) => j3 z56
 | (.inr (z56)) => some z56
 ))
noncomputable def lidarref07_Sunk_l6 (p0 : List S_api_Point) (p1 : S_api_Terrain) : ((List S_api_Point) × Int) → Option (Sum ((List S_api_Point) × Int) (List S_api_Point)) := fun s48 =>
 if s48.2 < ((((p0).length : Nat) : Int)) then (jn (fun (s15 : List S_api_Point) =>
 some (.inl (s15, w64 (s48.2 + 1))))
 (fun j15 => bnd (idx p0 s48.2) fun x53 =>
 bnd (lidarref07_sunk p0 x53 p1) fun r64 =>
 if r64 = true then (bnd (idx p0 s48.2) fun x69 =>
 gd (((s48.1).length + 1) * 72 ≤ 140737488355328) <|
 j15 (s48.1 ++ [x69]))
 else (j15 s48.1)))
 else (some (.inr s48.1))
noncomputable def lidarref07_Sunk (p0 : List S_api_Point) (p1 : S_api_Terrain) : Option ((List Int) × Int) :=
 bnd (lidarref07_checked p0 p1) fun r2 =>
 if r2 = 0 then (jn (fun (s7 : List S_api_Point) =>
 bnd (lidarref07_ids s7) fun r92 =>
 some (r92, 0))
 (fun j7 => bnd (lfix (lidarref07_Sunk_l6 p0 p1) (([] : List S_api_Point), 0)) fun t48 =>
 j7 t48))
 else (some (([] : List Int), r2))
noncomputable def lidarref07_bottoms_l7 (p0 : List S_api_Point) (s153 : (List S_api_Point) × Int) : (Bool × Int) → Option (Sum (Bool × Int) Bool) := fun s220 =>
 if s220.2 < ((((p0).length : Nat) : Int)) then (jn (fun (s29 : Bool) =>
 some (.inl (s29, w64 (s220.2 + 1))))
 (fun j29 => if s220.1 = true then (bnd (idx p0 s220.2) fun x226 =>
 bnd (idx p0 s153.2) fun x237 =>
 bnd (lidarref07_apart x226 x237) fun r248 =>
 if 0 < r248 then (j29 true)
 else (bnd (idx p0 s220.2) fun x254 =>
 bnd (idx p0 s153.2) fun x265 =>
 bnd (lidarref07_lower x254 x265) fun r276 =>
 j29 (!(r276))))
 else (j29 false)))
 else (some (.inr s220.1))
noncomputable def lidarref07_bottoms_l3 (p0 : List S_api_Point) : ((List S_api_Point) × Int) → Option (Sum ((List S_api_Point) × Int) (List S_api_Point)) := fun s153 =>
 if s153.2 < ((((p0).length : Nat) : Int)) then (jn (fun (s20 : List S_api_Point) =>
 some (.inl (s20, w64 (s153.2 + 1))))
 (fun j20 => jn (fun (s22 : Bool) =>
 if s22 = true then (bnd (idx p0 s153.2) fun x286 =>
 gd (((s153.1).length + 1) * 72 ≤ 140737488355328) <|
 j20 (s153.1 ++ [x286]))
 else (j20 s153.1))
 (fun j22 => bnd (lfix (lidarref07_bottoms_l7 p0 s153) (true, 0)) fun t220 =>
 j22 t220)))
 else (some (.inr s153.1))
noncomputable def lidarref07_bottoms (p0 : List S_api_Point) : Option (List S_api_Point) :=
 jn (fun (s3 : List S_api_Point) =>
 some s3)
 (fun j3 => bnd (lfix (lidarref07_bottoms_l3 p0) (([] : List S_api_Point), 0)) fun t153 =>
 j3 t153)
noncomputable def lidarref07_lasts_l3 (p0 : List S_api_Point) : ((List S_api_Point) × Int) → Option (Sum ((List S_api_Point) × Int) (List S_api_Point)) := fun s49 =>
 if s49.2 < ((((p0).length : Nat) : Int)) then (jn (fun (s11 : List S_api_Point) =>
 some (.inl (s11, w64 (s49.2 + 1))))
 (fun j11 => bnd (idx p0 s49.2) fun x54 =>
 bnd (idx p0 s49.2) fun x65 =>
 if x54.Num = x65.Of then (bnd (idx p0 s49.2) fun x78 =>
 gd (((s49.1).length + 1) * 72 ≤ 140737488355328) <|
 j11 (s49.1 ++ [x78]))
 else (j11 s49.1)))
 else (some (.inr s49.1))
noncomputable def lidarref07_lasts (p0 : List S_api_Point) : Option (List S_api_Point) :=
 jn (fun (s3 : List S_api_Point) =>
 some s3)
 (fun j3 => bnd (lfix (lidarref07_lasts_l3 p0) (([] : List S_api_Point), 0)) fun t49 =>
 j3 t49)
noncomputable def lidarref07_Lowest (p0 : List S_api_Point) : Option ((List Int) × Int) :=
 bnd (lidarref07_Valid p0) fun r1 =>
 if r1 = true then (bnd (lidarref07_lasts p0) fun r7 =>
 bnd (lidarref07_bottoms r7) fun r14 =>
 bnd (lidarref07_ids r14) fun r21 =>
 some (r21, 0))
 else (some (([] : List Int), 70))
noncomputable def lidarref07_candidates_l3 (p0 : List S_api_Point) (p1 : S_api_Terrain) : ((List S_api_Point) × Int) → Option (Sum ((List S_api_Point) × Int) (List S_api_Point)) := fun s42 =>
 if s42.2 < ((((p0).length : Nat) : Int)) then (jn (fun (s11 : List S_api_Point) =>
 some (.inl (s11, w64 (s42.2 + 1))))
 (fun j11 => bnd (idx p0 s42.2) fun x47 =>
 bnd (lidarref07_sunk p0 x47 p1) fun r58 =>
 if r58 = true then (j11 s42.1)
 else (bnd (idx p0 s42.2) fun x63 =>
 gd (((s42.1).length + 1) * 72 ≤ 140737488355328) <|
 j11 (s42.1 ++ [x63]))))
 else (some (.inr s42.1))
noncomputable def lidarref07_candidates (p0 : List S_api_Point) (p1 : S_api_Terrain) : Option (List S_api_Point) :=
 jn (fun (s3 : List S_api_Point) =>
 bnd (lidarref07_lasts s3) fun r86 =>
 bnd (lidarref07_bottoms r86) fun r93 =>
 some r93)
 (fun j3 => bnd (lfix (lidarref07_candidates_l3 p0 p1) (([] : List S_api_Point), 0)) fun t42 =>
 j3 t42)
noncomputable def lidarref07_cell (p0 : Int) (p1 : Int) : Option Int :=
 if p0 < 0 then (gd (p1 ≠ 0) <|
 some (w64 (-(w64 (Int.tdiv (w64 ((w64 (p1 - 1)) - p0)) p1)))))
 else (gd (p1 ≠ 0) <|
 some (w64 (Int.tdiv p0 p1)))
set_option maxRecDepth 100000 in
theorem lidarref07_within_ok (p0 : Int) (p1 : Int) (p2 : Int)  {r : Bool} (hx : lidarref07_within p0 p1 p2 = some r) (w : World) : CtL Try.prog 32 [.int .i64 (p0), .int .i64 (p1), .int .i64 (p2)] w fun v Ln => v = .bool (r) ∧ Ln = [] ∧ True := by
  refine CtL.mk 15 Try.func32 rfl Try.ntmps32 (by kernel_rfl) rfl ?_
  show T 15 _ [(0, .int .i64 (p0)), (1, .int .i64 (p1)), (2, .int .i64 (p2))] _
  unfold lidarref07_within at hx
  refine T_seq ?_
  refine T_reg ?_
  refine T_val (Ev_assign rfl) rfl ?_
  refine T_nil ?_
  refine T_next ?_
  obtain ⟨j2, hj2, hx⟩ := jn_some hx
  refine T_cutP (τ := Bool) (γ := Unit) (J := j2) (out := r) (fun s2 y2 => [(6, .bool (s2))]) (fun s2 y2 => [] ++ [.old w]) (fun s2 y2 => True) ?_ ?_
  · intro s2 y2 hx4 hG5
    subst hj2
    refine T_retc ?_
    obtain rfl := Option.some.inj hx4
    exact T_retP (rs := [.tmp 6]) Try.results32 (.tmp rfl (.nil)) (Ln := []) ⟨rfl, rfl, trivial⟩ (loNil) (by exact .refl)
  · skip
    refine T_reg ?_
    refine T_val (Ev_move rfl) rfl ?_
    refine T_val (Ev_move rfl) rfl ?_
    refine T_val (Ev_leq rfl rfl) rfl ?_
    refine T_val (Ev_move rfl) rfl ?_
    refine T_caseP (s := 10) rfl (fun h1 => ?_) (fun h1 => ?_)
    · have hx2 := ite_t h1 hx
      refine T_valG rfl rfl rfl (Ev_move rfl) rfl ?_
      refine T_valG rfl rfl rfl (Ev_move rfl) rfl ?_
      refine T_valG rfl rfl rfl (Ev_leq rfl rfl) rfl ?_
      refine T_val (Ev_pickT rfl rfl) rfl ?_
      refine T_val (Ev_assign rfl) rfl ?_
      refine T_nil ?_
      exact T_metP (decide (p0 ≤ p2)) () hx2 trivial (by exact .cons rfl (.nil)) (by exact .refl)
    · have hx3 := ite_f h1 hx
      refine T_skipG rfl rfl rfl rfl rfl ?_
      refine T_skipG rfl rfl rfl rfl rfl ?_
      refine T_skipG rfl rfl rfl rfl rfl ?_
      refine T_val (Ev_pickF rfl rfl) rfl ?_
      refine T_val (Ev_assign rfl) rfl ?_
      refine T_nil ?_
      exact T_metP false () hx3 trivial (by exact .cons rfl (.nil)) (by exact .refl)
set_option maxRecDepth 100000 in
theorem lidarref01_Place_ok (p0 : S_api_XY)  {r : Bool} (hx : lidarref01_Place p0 = some r) (w : World) : CtL Try.prog 30 [.agg #[.int .i64 (p0.X), .int .i64 (p0.Y)]] w fun v Ln => v = .bool (r) ∧ Ln = [] ∧ True := by
  refine CtL.mk 21 Try.func30 rfl Try.ntmps30 (by kernel_rfl) rfl ?_
  show T 21 _ [(0, .agg #[.int .i64 (p0.X), .int .i64 (p0.Y)])] _
  unfold lidarref01_Place at hx
  refine T_seq ?_
  refine T_reg ?_
  refine T_x (Wx_box rfl rfl rfl (fun g1 => ?_))
  refine T_val (Ev_assign rfl) rfl ?_
  refine T_nil ?_
  refine T_next ?_
  obtain ⟨j2, hj2, hx⟩ := jn_some hx
  refine T_cutP (τ := Bool) (γ := Unit) (J := j2) (out := r) (fun s2 y2 => [(2, .bool (s2))]) (fun s2 y2 => [] ++ [.old w]) (fun s2 y2 => True) ?_ ?_
  · intro s2 y2 hx11 hG12
    subst hj2
    refine T_retc ?_
    obtain rfl := Option.some.inj hx11
    exact T_retP (rs := [.tmp 2]) Try.results30 (.tmp rfl (.nil)) (Ln := []) ⟨rfl, rfl, trivial⟩ (loNil) (by exact .refl)
  · skip
    refine T_reg ?_
    refine T_val (Ev_field rfl fld24_0 rfl) rfl ?_
    refine T_val (Ev_load1 rfl (i := 0) rfl rfl one3) rfl ?_
    refine T_val (Ev_leq rfl rfl) rfl ?_
    refine T_val (Ev_move rfl) rfl ?_
    refine T_caseP (s := 6) rfl (fun h2 => ?_) (fun h2 => ?_)
    · have hx3 := ite_t h2 hx
      refine T_valG rfl rfl rfl (Ev_field rfl fld24_0 rfl) rfl ?_
      refine T_valG rfl rfl rfl (Ev_load1 rfl (i := 0) rfl rfl one3) rfl ?_
      refine T_valG rfl rfl rfl (Ev_leq rfl rfl) rfl ?_
      refine T_val (Ev_pickT rfl rfl) rfl ?_
      refine T_val (Ev_move rfl) rfl ?_
      refine T_caseP (s := 11) rfl (fun h4 => ?_) (fun h4 => ?_)
      · have hx5 := ite_t h4 hx3
        refine T_valG rfl rfl rfl (Ev_field rfl fld24_1 rfl) rfl ?_
        refine T_valG rfl rfl rfl (Ev_load1 rfl (i := 0) rfl rfl one3) rfl ?_
        refine T_valG rfl rfl rfl (Ev_leq rfl rfl) rfl ?_
        refine T_val (Ev_pickT rfl rfl) rfl ?_
        refine T_val (Ev_move rfl) rfl ?_
        refine T_caseP (s := 16) rfl (fun h6 => ?_) (fun h6 => ?_)
        · have hx7 := ite_t h6 hx5
          refine T_valG rfl rfl rfl (Ev_field rfl fld24_1 rfl) rfl ?_
          refine T_valG rfl rfl rfl (Ev_load1 rfl (i := 0) rfl rfl one3) rfl ?_
          refine T_valG rfl rfl rfl (Ev_leq rfl rfl) rfl ?_
          refine T_val (Ev_pickT rfl rfl) rfl ?_
          refine T_val (Ev_assign rfl) rfl ?_
          refine T_nil ?_
          exact T_metP (decide (p0.Y ≤ 268435456)) () hx7 trivial (by exact .cons rfl (.nil)) (by exact .drop 0 rfl (.refl))
        · have hx8 := ite_f h6 hx5
          refine T_skipG rfl rfl rfl rfl rfl ?_
          refine T_skipG rfl rfl rfl rfl rfl ?_
          refine T_skipG rfl rfl rfl rfl rfl ?_
          refine T_val (Ev_pickF rfl rfl) rfl ?_
          refine T_val (Ev_assign rfl) rfl ?_
          refine T_nil ?_
          exact T_metP false () hx8 trivial (by exact .cons rfl (.nil)) (by exact .drop 0 rfl (.refl))
      · have hx9 := ite_f h4 hx3
        refine T_skipG rfl rfl rfl rfl rfl ?_
        refine T_skipG rfl rfl rfl rfl rfl ?_
        refine T_skipG rfl rfl rfl rfl rfl ?_
        refine T_val (Ev_pickF rfl rfl) rfl ?_
        refine T_val (Ev_move rfl) rfl ?_
        refine T_skipG rfl rfl rfl rfl rfl ?_
        refine T_skipG rfl rfl rfl rfl rfl ?_
        refine T_skipG rfl rfl rfl rfl rfl ?_
        refine T_val (Ev_pickF rfl rfl) rfl ?_
        refine T_val (Ev_assign rfl) rfl ?_
        refine T_nil ?_
        exact T_metP false () hx9 trivial (by exact .cons rfl (.nil)) (by exact .drop 0 rfl (.refl))
    · have hx10 := ite_f h2 hx
      refine T_skipG rfl rfl rfl rfl rfl ?_
      refine T_skipG rfl rfl rfl rfl rfl ?_
      refine T_skipG rfl rfl rfl rfl rfl ?_
      refine T_val (Ev_pickF rfl rfl) rfl ?_
      refine T_val (Ev_move rfl) rfl ?_
      refine T_skipG rfl rfl rfl rfl rfl ?_
      refine T_skipG rfl rfl rfl rfl rfl ?_
      refine T_skipG rfl rfl rfl rfl rfl ?_
      refine T_val (Ev_pickF rfl rfl) rfl ?_
      refine T_val (Ev_move rfl) rfl ?_
      refine T_skipG rfl rfl rfl rfl rfl ?_
      refine T_skipG rfl rfl rfl rfl rfl ?_
      refine T_skipG rfl rfl rfl rfl rfl ?_
      refine T_val (Ev_pickF rfl rfl) rfl ?_
      refine T_val (Ev_assign rfl) rfl ?_
      refine T_nil ?_
      exact T_metP false () hx10 trivial (by exact .cons rfl (.nil)) (by exact .drop 0 rfl (.refl))
set_option maxRecDepth 100000 in
theorem lidarref07_One_ok (p0 : S_api_Point)  {r : Bool} (hx : lidarref07_One p0 = some r) (w : World) : CtL Try.prog 43 [.agg #[.int .i64 (p0.Id), .int .i64 (p0.X), .int .i64 (p0.Y), .int .i64 (p0.Z.Lo), .int .i64 (p0.Z.Hi), .int .i64 (p0.Wide), .int .i64 (p0.Num), .int .i64 (p0.Of), .int .i64 (p0.Class)]] w fun v Ln => v = .bool (r) ∧ Ln = [] ∧ True := by
  refine CtL.mk 52 Try.func43 rfl Try.ntmps43 (by kernel_rfl) rfl ?_
  show T 52 _ [(0, .agg #[.int .i64 (p0.Id), .int .i64 (p0.X), .int .i64 (p0.Y), .int .i64 (p0.Z.Lo), .int .i64 (p0.Z.Hi), .int .i64 (p0.Wide), .int .i64 (p0.Num), .int .i64 (p0.Of), .int .i64 (p0.Class)])] _
  unfold lidarref07_One at hx
  refine T_seq ?_
  refine T_reg ?_
  refine T_x (Wx_box rfl rfl rfl (fun g1 => ?_))
  refine T_val (Ev_assign rfl) rfl ?_
  refine T_nil ?_
  refine T_next ?_
  obtain ⟨j2, hj2, hx⟩ := jn_some hx
  refine T_cutP (τ := Bool) (γ := Unit) (J := j2) (out := r) (fun s2 y2 => [(2, .bool (s2))]) (fun s2 y2 => [] ++ [.old w]) (fun s2 y2 => True) ?_ ?_
  · intro s2 y2 hx35 hG36
    subst hj2
    refine T_retc ?_
    obtain rfl := Option.some.inj hx35
    exact T_retP (rs := [.tmp 2]) Try.results43 (.tmp rfl (.nil)) (Ln := []) ⟨rfl, rfl, trivial⟩ (loNil) (by exact .refl)
  · skip
    refine T_reg ?_
    refine T_val (Ev_field rfl fld53_0 rfl) rfl ?_
    refine T_val (Ev_load1 rfl (i := 0) rfl rfl one3) rfl ?_
    obtain ⟨r2, h3, hx4⟩ := bnd_some hx
    refine T_x (Wx_callL rfl (fun w1 hw1 => lidarref07_within_ok p0.Id 0 1152921504606846976  h3 w1) rfl ?_)
    rintro _ _ hlo ⟨rfl, rfl, -⟩
    refine T_app0 ?_
    refine T_val (Ev_move rfl) rfl ?_
    refine T_caseB (s := 6) rfl (fun h5 => ?_) (fun h5 => ?_)
    · have hx6 := ite_t h5 hx4
      refine T_valG rfl rfl rfl (Ev_field rfl fld53_1 rfl) rfl ?_
      refine T_valG rfl rfl rfl (Ev_load1 rfl (i := 0) rfl rfl one3) rfl ?_
      refine T_valG rfl rfl rfl (Ev_field rfl fld53_2 rfl) rfl ?_
      refine T_valG rfl rfl rfl (Ev_load1 rfl (i := 0) rfl rfl one3) rfl ?_
      refine T_valG rfl rfl rfl (Ev_build rfl (bld24_0i641i64 _ _)) rfl ?_
      obtain ⟨r7, h8, hx9⟩ := bnd_some hx6
      refine T_xG rfl rfl rfl (Wx_callL rfl (fun w1 hw1 => lidarref01_Place_ok (⟨p0.X, p0.Y⟩ : S_api_XY)  h8 w1) rfl ?_)
      rintro _ _ hlo ⟨rfl, rfl, -⟩
      refine T_app0 ?_
      refine T_val (Ev_pickT rfl rfl) rfl ?_
      refine T_val (Ev_move rfl) rfl ?_
      refine T_caseB (s := 14) rfl (fun h10 => ?_) (fun h10 => ?_)
      · have hx11 := ite_t h10 hx9
        refine T_valG rfl rfl rfl (Ev_field rfl fld53_3 rfl) rfl ?_
        refine T_valG rfl rfl rfl (Ev_field rfl fld51_0 rfl) rfl ?_
        refine T_valG rfl rfl rfl (Ev_load1 rfl (i := 0) rfl rfl one3) rfl ?_
        refine T_valG rfl rfl rfl (Ev_field rfl fld53_3 rfl) rfl ?_
        refine T_valG rfl rfl rfl (Ev_field rfl fld51_1 rfl) rfl ?_
        refine T_valG rfl rfl rfl (Ev_load1 rfl (i := 0) rfl rfl one3) rfl ?_
        refine T_valG rfl rfl rfl (Ev_leq rfl rfl) rfl ?_
        refine T_val (Ev_pickT rfl rfl) rfl ?_
        refine T_val (Ev_move rfl) rfl ?_
        refine T_caseP (s := 23) rfl (fun h12 => ?_) (fun h12 => ?_)
        · have hx13 := ite_t h12 hx11
          refine T_valG rfl rfl rfl (Ev_field rfl fld53_3 rfl) rfl ?_
          refine T_valG rfl rfl rfl (Ev_field rfl fld51_0 rfl) rfl ?_
          refine T_valG rfl rfl rfl (Ev_load1 rfl (i := 0) rfl rfl one3) rfl ?_
          refine T_valG rfl rfl rfl (Ev_geq rfl rfl) rfl ?_
          refine T_val (Ev_pickT rfl rfl) rfl ?_
          refine T_val (Ev_move rfl) rfl ?_
          refine T_caseP (s := 29) rfl (fun h14 => ?_) (fun h14 => ?_)
          · have hx15 := ite_t h14 hx13
            refine T_valG rfl rfl rfl (Ev_field rfl fld53_3 rfl) rfl ?_
            refine T_valG rfl rfl rfl (Ev_field rfl fld51_1 rfl) rfl ?_
            refine T_valG rfl rfl rfl (Ev_load1 rfl (i := 0) rfl rfl one3) rfl ?_
            refine T_valG rfl rfl rfl (Ev_leq rfl rfl) rfl ?_
            refine T_val (Ev_pickT rfl rfl) rfl ?_
            refine T_val (Ev_move rfl) rfl ?_
            refine T_caseP (s := 35) rfl (fun h16 => ?_) (fun h16 => ?_)
            · have hx17 := ite_t h16 hx15
              refine T_valG rfl rfl rfl (Ev_field rfl fld53_4 rfl) rfl ?_
              refine T_valG rfl rfl rfl (Ev_load1 rfl (i := 0) rfl rfl one3) rfl ?_
              obtain ⟨r18, h19, hx20⟩ := bnd_some hx17
              refine T_xG rfl rfl rfl (Wx_callL rfl (fun w1 hw1 => lidarref07_within_ok p0.Wide 0 268435456  h19 w1) rfl ?_)
              rintro _ _ hlo ⟨rfl, rfl, -⟩
              refine T_app0 ?_
              refine T_val (Ev_pickT rfl rfl) rfl ?_
              refine T_val (Ev_move rfl) rfl ?_
              refine T_caseB (s := 40) rfl (fun h21 => ?_) (fun h21 => ?_)
              · have hx22 := ite_t h21 hx20
                refine T_valG rfl rfl rfl (Ev_field rfl fld53_5 rfl) rfl ?_
                refine T_valG rfl rfl rfl (Ev_load1 rfl (i := 0) rfl rfl one3) rfl ?_
                refine T_valG rfl rfl rfl (Ev_field rfl fld53_6 rfl) rfl ?_
                refine T_valG rfl rfl rfl (Ev_load1 rfl (i := 0) rfl rfl one3) rfl ?_
                obtain ⟨r23, h24, hx25⟩ := bnd_some hx22
                refine T_xG rfl rfl rfl (Wx_callL rfl (fun w1 hw1 => lidarref07_within_ok p0.Num 1 p0.Of  h24 w1) rfl ?_)
                rintro _ _ hlo ⟨rfl, rfl, -⟩
                refine T_app0 ?_
                refine T_val (Ev_pickT rfl rfl) rfl ?_
                refine T_val (Ev_move rfl) rfl ?_
                refine T_caseB (s := 47) rfl (fun h26 => ?_) (fun h26 => ?_)
                · have hx27 := ite_t h26 hx25
                  refine T_valG rfl rfl rfl (Ev_field rfl fld53_6 rfl) rfl ?_
                  refine T_valG rfl rfl rfl (Ev_load1 rfl (i := 0) rfl rfl one3) rfl ?_
                  refine T_valG rfl rfl rfl (Ev_leq rfl rfl) rfl ?_
                  refine T_val (Ev_pickT rfl rfl) rfl ?_
                  refine T_val (Ev_assign rfl) rfl ?_
                  refine T_nil ?_
                  exact T_metP (decide (p0.Of ≤ 15)) () hx27 trivial (by exact .cons rfl (.nil)) (by exact .drop 0 rfl (.refl))
                · have hx28 := ite_bf h26 hx25
                  refine T_skipG rfl rfl rfl rfl rfl ?_
                  refine T_skipG rfl rfl rfl rfl rfl ?_
                  refine T_skipG rfl rfl rfl rfl rfl ?_
                  refine T_val (Ev_pickF rfl rfl) rfl ?_
                  refine T_val (Ev_assign rfl) rfl ?_
                  refine T_nil ?_
                  exact T_metP false () hx28 trivial (by exact .cons rfl (.nil)) (by exact .drop 0 rfl (.refl))
              · have hx29 := ite_bf h21 hx20
                refine T_skipG rfl rfl rfl rfl rfl ?_
                refine T_skipG rfl rfl rfl rfl rfl ?_
                refine T_skipG rfl rfl rfl rfl rfl ?_
                refine T_skipG rfl rfl rfl rfl rfl ?_
                refine T_skipG rfl rfl rfl rfl rfl ?_
                refine T_val (Ev_pickF rfl rfl) rfl ?_
                refine T_val (Ev_move rfl) rfl ?_
                refine T_skipG rfl rfl rfl rfl rfl ?_
                refine T_skipG rfl rfl rfl rfl rfl ?_
                refine T_skipG rfl rfl rfl rfl rfl ?_
                refine T_val (Ev_pickF rfl rfl) rfl ?_
                refine T_val (Ev_assign rfl) rfl ?_
                refine T_nil ?_
                exact T_metP false () hx29 trivial (by exact .cons rfl (.nil)) (by exact .drop 0 rfl (.refl))
            · have hx30 := ite_f h16 hx15
              refine T_skipG rfl rfl rfl rfl rfl ?_
              refine T_skipG rfl rfl rfl rfl rfl ?_
              refine T_skipG rfl rfl rfl rfl rfl ?_
              refine T_val (Ev_pickF rfl rfl) rfl ?_
              refine T_val (Ev_move rfl) rfl ?_
              refine T_skipG rfl rfl rfl rfl rfl ?_
              refine T_skipG rfl rfl rfl rfl rfl ?_
              refine T_skipG rfl rfl rfl rfl rfl ?_
              refine T_skipG rfl rfl rfl rfl rfl ?_
              refine T_skipG rfl rfl rfl rfl rfl ?_
              refine T_val (Ev_pickF rfl rfl) rfl ?_
              refine T_val (Ev_move rfl) rfl ?_
              refine T_skipG rfl rfl rfl rfl rfl ?_
              refine T_skipG rfl rfl rfl rfl rfl ?_
              refine T_skipG rfl rfl rfl rfl rfl ?_
              refine T_val (Ev_pickF rfl rfl) rfl ?_
              refine T_val (Ev_assign rfl) rfl ?_
              refine T_nil ?_
              exact T_metP false () hx30 trivial (by exact .cons rfl (.nil)) (by exact .drop 0 rfl (.refl))
          · have hx31 := ite_f h14 hx13
            refine T_skipG rfl rfl rfl rfl rfl ?_
            refine T_skipG rfl rfl rfl rfl rfl ?_
            refine T_skipG rfl rfl rfl rfl rfl ?_
            refine T_skipG rfl rfl rfl rfl rfl ?_
            refine T_val (Ev_pickF rfl rfl) rfl ?_
            refine T_val (Ev_move rfl) rfl ?_
            refine T_skipG rfl rfl rfl rfl rfl ?_
            refine T_skipG rfl rfl rfl rfl rfl ?_
            refine T_skipG rfl rfl rfl rfl rfl ?_
            refine T_val (Ev_pickF rfl rfl) rfl ?_
            refine T_val (Ev_move rfl) rfl ?_
            refine T_skipG rfl rfl rfl rfl rfl ?_
            refine T_skipG rfl rfl rfl rfl rfl ?_
            refine T_skipG rfl rfl rfl rfl rfl ?_
            refine T_skipG rfl rfl rfl rfl rfl ?_
            refine T_skipG rfl rfl rfl rfl rfl ?_
            refine T_val (Ev_pickF rfl rfl) rfl ?_
            refine T_val (Ev_move rfl) rfl ?_
            refine T_skipG rfl rfl rfl rfl rfl ?_
            refine T_skipG rfl rfl rfl rfl rfl ?_
            refine T_skipG rfl rfl rfl rfl rfl ?_
            refine T_val (Ev_pickF rfl rfl) rfl ?_
            refine T_val (Ev_assign rfl) rfl ?_
            refine T_nil ?_
            exact T_metP false () hx31 trivial (by exact .cons rfl (.nil)) (by exact .drop 0 rfl (.refl))
        · have hx32 := ite_f h12 hx11
          refine T_skipG rfl rfl rfl rfl rfl ?_
          refine T_skipG rfl rfl rfl rfl rfl ?_
          refine T_skipG rfl rfl rfl rfl rfl ?_
          refine T_skipG rfl rfl rfl rfl rfl ?_
          refine T_val (Ev_pickF rfl rfl) rfl ?_
          refine T_val (Ev_move rfl) rfl ?_
          refine T_skipG rfl rfl rfl rfl rfl ?_
          refine T_skipG rfl rfl rfl rfl rfl ?_
          refine T_skipG rfl rfl rfl rfl rfl ?_
          refine T_skipG rfl rfl rfl rfl rfl ?_
          refine T_val (Ev_pickF rfl rfl) rfl ?_
          refine T_val (Ev_move rfl) rfl ?_
          refine T_skipG rfl rfl rfl rfl rfl ?_
          refine T_skipG rfl rfl rfl rfl rfl ?_
          refine T_skipG rfl rfl rfl rfl rfl ?_
          refine T_val (Ev_pickF rfl rfl) rfl ?_
          refine T_val (Ev_move rfl) rfl ?_
          refine T_skipG rfl rfl rfl rfl rfl ?_
          refine T_skipG rfl rfl rfl rfl rfl ?_
          refine T_skipG rfl rfl rfl rfl rfl ?_
          refine T_skipG rfl rfl rfl rfl rfl ?_
          refine T_skipG rfl rfl rfl rfl rfl ?_
          refine T_val (Ev_pickF rfl rfl) rfl ?_
          refine T_val (Ev_move rfl) rfl ?_
          refine T_skipG rfl rfl rfl rfl rfl ?_
          refine T_skipG rfl rfl rfl rfl rfl ?_
          refine T_skipG rfl rfl rfl rfl rfl ?_
          refine T_val (Ev_pickF rfl rfl) rfl ?_
          refine T_val (Ev_assign rfl) rfl ?_
          refine T_nil ?_
          exact T_metP false () hx32 trivial (by exact .cons rfl (.nil)) (by exact .drop 0 rfl (.refl))
      · have hx33 := ite_bf h10 hx9
        refine T_skipG rfl rfl rfl rfl rfl ?_
        refine T_skipG rfl rfl rfl rfl rfl ?_
        refine T_skipG rfl rfl rfl rfl rfl ?_
        refine T_skipG rfl rfl rfl rfl rfl ?_
        refine T_skipG rfl rfl rfl rfl rfl ?_
        refine T_skipG rfl rfl rfl rfl rfl ?_
        refine T_skipG rfl rfl rfl rfl rfl ?_
        refine T_val (Ev_pickF rfl rfl) rfl ?_
        refine T_val (Ev_move rfl) rfl ?_
        refine T_skipG rfl rfl rfl rfl rfl ?_
        refine T_skipG rfl rfl rfl rfl rfl ?_
        refine T_skipG rfl rfl rfl rfl rfl ?_
        refine T_skipG rfl rfl rfl rfl rfl ?_
        refine T_val (Ev_pickF rfl rfl) rfl ?_
        refine T_val (Ev_move rfl) rfl ?_
        refine T_skipG rfl rfl rfl rfl rfl ?_
        refine T_skipG rfl rfl rfl rfl rfl ?_
        refine T_skipG rfl rfl rfl rfl rfl ?_
        refine T_skipG rfl rfl rfl rfl rfl ?_
        refine T_val (Ev_pickF rfl rfl) rfl ?_
        refine T_val (Ev_move rfl) rfl ?_
        refine T_skipG rfl rfl rfl rfl rfl ?_
        refine T_skipG rfl rfl rfl rfl rfl ?_
        refine T_skipG rfl rfl rfl rfl rfl ?_
        refine T_val (Ev_pickF rfl rfl) rfl ?_
        refine T_val (Ev_move rfl) rfl ?_
        refine T_skipG rfl rfl rfl rfl rfl ?_
        refine T_skipG rfl rfl rfl rfl rfl ?_
        refine T_skipG rfl rfl rfl rfl rfl ?_
        refine T_skipG rfl rfl rfl rfl rfl ?_
        refine T_skipG rfl rfl rfl rfl rfl ?_
        refine T_val (Ev_pickF rfl rfl) rfl ?_
        refine T_val (Ev_move rfl) rfl ?_
        refine T_skipG rfl rfl rfl rfl rfl ?_
        refine T_skipG rfl rfl rfl rfl rfl ?_
        refine T_skipG rfl rfl rfl rfl rfl ?_
        refine T_val (Ev_pickF rfl rfl) rfl ?_
        refine T_val (Ev_assign rfl) rfl ?_
        refine T_nil ?_
        exact T_metP false () hx33 trivial (by exact .cons rfl (.nil)) (by exact .drop 0 rfl (.refl))
    · have hx34 := ite_bf h5 hx4
      refine T_skipG rfl rfl rfl rfl rfl ?_
      refine T_skipG rfl rfl rfl rfl rfl ?_
      refine T_skipG rfl rfl rfl rfl rfl ?_
      refine T_skipG rfl rfl rfl rfl rfl ?_
      refine T_skipG rfl rfl rfl rfl rfl ?_
      refine T_skipG rfl rfl rfl rfl rfl ?_
      refine T_val (Ev_pickF rfl rfl) rfl ?_
      refine T_val (Ev_move rfl) rfl ?_
      refine T_skipG rfl rfl rfl rfl rfl ?_
      refine T_skipG rfl rfl rfl rfl rfl ?_
      refine T_skipG rfl rfl rfl rfl rfl ?_
      refine T_skipG rfl rfl rfl rfl rfl ?_
      refine T_skipG rfl rfl rfl rfl rfl ?_
      refine T_skipG rfl rfl rfl rfl rfl ?_
      refine T_skipG rfl rfl rfl rfl rfl ?_
      refine T_val (Ev_pickF rfl rfl) rfl ?_
      refine T_val (Ev_move rfl) rfl ?_
      refine T_skipG rfl rfl rfl rfl rfl ?_
      refine T_skipG rfl rfl rfl rfl rfl ?_
      refine T_skipG rfl rfl rfl rfl rfl ?_
      refine T_skipG rfl rfl rfl rfl rfl ?_
      refine T_val (Ev_pickF rfl rfl) rfl ?_
      refine T_val (Ev_move rfl) rfl ?_
      refine T_skipG rfl rfl rfl rfl rfl ?_
      refine T_skipG rfl rfl rfl rfl rfl ?_
      refine T_skipG rfl rfl rfl rfl rfl ?_
      refine T_skipG rfl rfl rfl rfl rfl ?_
      refine T_val (Ev_pickF rfl rfl) rfl ?_
      refine T_val (Ev_move rfl) rfl ?_
      refine T_skipG rfl rfl rfl rfl rfl ?_
      refine T_skipG rfl rfl rfl rfl rfl ?_
      refine T_skipG rfl rfl rfl rfl rfl ?_
      refine T_val (Ev_pickF rfl rfl) rfl ?_
      refine T_val (Ev_move rfl) rfl ?_
      refine T_skipG rfl rfl rfl rfl rfl ?_
      refine T_skipG rfl rfl rfl rfl rfl ?_
      refine T_skipG rfl rfl rfl rfl rfl ?_
      refine T_skipG rfl rfl rfl rfl rfl ?_
      refine T_skipG rfl rfl rfl rfl rfl ?_
      refine T_val (Ev_pickF rfl rfl) rfl ?_
      refine T_val (Ev_move rfl) rfl ?_
      refine T_skipG rfl rfl rfl rfl rfl ?_
      refine T_skipG rfl rfl rfl rfl rfl ?_
      refine T_skipG rfl rfl rfl rfl rfl ?_
      refine T_val (Ev_pickF rfl rfl) rfl ?_
      refine T_val (Ev_assign rfl) rfl ?_
      refine T_nil ?_
      exact T_metP false () hx34 trivial (by exact .cons rfl (.nil)) (by exact .drop 0 rfl (.refl))
set_option maxRecDepth 100000 in
theorem lidarref07_Valid_ok (p0 : List S_api_Point) {K : List Ent} {A0_0 : Option Addr} {c0_0 : Nat} (ha0 : Has K A0_0 (p0).length c0_0 9 e_api_Point (p0)) {r : Bool} (hx : lidarref07_Valid p0 = some r) (w : World) (hK : ∀ e ∈ K, Ent.ok w e) : CtL Try.prog 17 [.slice (A0_0) ((p0).length) (c0_0)] w fun v Ln => v = .bool (r) ∧ Ln = [] ∧ True := by
  have ha0' := Has.up0 ha0
  refine CtL.mk 36 Try.func17 rfl Try.ntmps17 (by kernel_rfl) rfl ?_
  show T 36 _ [(0, .slice (A0_0) ((p0).length) (c0_0))] _
  unfold lidarref07_Valid at hx
  refine T_seq ?_
  refine T_reg ?_
  refine T_val (Ev_assign rfl) rfl ?_
  refine T_nil ?_
  refine T_next ?_
  refine T_seq ?_
  refine T_seq ?_
  refine T_reg ?_
  refine T_val (Ev_move rfl) rfl ?_
  refine T_val (Ev_len rfl 53 Try.underlying31) rfl ?_
  refine T_val (Ev_gtr rfl rfl) rfl ?_
  refine T_nil ?_
  refine T_next ?_
  refine T_caseP (s := 7) rfl (fun h1 => ?_) (fun h1 => ?_)
  · have hx2 := ite_t h1 hx
    refine T_condT rfl ?_
    refine T_seq ?_
    refine T_reg ?_
    refine T_val (Ev_assign rfl) rfl ?_
    refine T_nil ?_
    refine T_next ?_
    refine T_retc ?_
    refine T_outR ?_
    obtain rfl := Option.some.inj hx2
    exact T_retP (rs := [.tmp 2]) Try.results17 (.tmp rfl (.nil)) (Ln := []) ⟨rfl, rfl, trivial⟩ (loNil) (by exact .refl)
  · have hx3 := ite_f h1 hx
    refine T_condF rfl ?_
    refine T_skip ?_
    refine T_next ?_
    obtain ⟨j5, hj5, hx3⟩ := jn_some hx3
    refine T_cutP (τ := Unit) (γ := Unit) (J := j5) (out := r) (fun s5 y5 => []) (fun s5 y5 => [] ++ [.old w]) (fun s5 y5 => True) ?_ ?_
    · intro s5 y5 hx166 hG167
      subst hj5
      refine T_seq ?_
      refine T_reg ?_
      refine T_val (Ev_assign rfl) rfl ?_
      refine T_nil ?_
      refine T_next ?_
      refine T_retc ?_
      obtain rfl := Option.some.inj hx166
      exact T_retP (rs := [.tmp 2]) Try.results17 (.tmp rfl (.nil)) (Ln := []) ⟨rfl, rfl, trivial⟩ (loNil) (by exact .refl)
    · skip
      refine T_seq ?_
      refine T_reg ?_
      refine T_val (Ev_assign rfl) rfl ?_
      refine T_nil ?_
      refine T_next ?_
      refine T_block ?_
      obtain ⟨t85, hl85, ho85⟩ := bnd_some hx3
      refine T_loopP (σ := Int) (γ := Unit) hl85 (fun s85 y85 => [(0, .slice (A0_0) ((p0).length) (c0_0)), (3, .int .i64 (s85))]) (fun s85 y85 => [] ++ [.old w]) (fun s85 y85 => True) () trivial (by exact .cons rfl (.cons rfl (.nil))) (by exact .refl) ?_
      intro s85 y85 hG85 x85 hx85 ht85
      unfold lidarref07_Valid_l4 at hx85
      refine T_seq ?_
      refine T_seq ?_
      refine T_reg ?_
      refine T_val (Ev_move rfl) rfl ?_
      refine T_val (Ev_move rfl) rfl ?_
      refine T_val (Ev_len rfl 53 Try.underlying31) rfl ?_
      refine T_val (Ev_lss rfl rfl) rfl ?_
      refine T_nil ?_
      refine T_next ?_
      refine T_caseP (s := 11) rfl (fun h86 => ?_) (fun h86 => ?_)
      · have hx87 := ite_t h86 hx85
        refine T_condT rfl ?_
        refine T_skip ?_
        refine T_next ?_
        obtain ⟨j26, hj26, hx87⟩ := jn_some hx87
        refine T_cutP (τ := Unit) (γ := Unit) (J := j26) (out := x85) (fun s26 y26 => [(0, .slice (A0_0) ((p0).length) (c0_0)), (3, .int .i64 (s85))]) (fun s26 y26 => [] ++ [.old w]) (fun s26 y26 => True) ?_ ?_
        · intro s26 y26 hx164 hG165
          subst hj26
          refine T_reg ?_
          refine T_val (Ev_move rfl) rfl ?_
          refine T_val (Ev_add_w64 rfl rfl) rfl ?_
          refine T_val (Ev_assign rfl) rfl ?_
          refine T_nil ?_
          exact T_roundP (w64 (s85 + 1)) () hx164 trivial (by exact .cons rfl (.cons rfl (.nil))) (by exact .refl)
        · skip
          refine T_block ?_
          refine T_seq ?_
          refine T_seq ?_
          refine T_reg ?_
          refine T_val (Ev_move rfl) rfl ?_
          refine T_val (Ev_move rfl) rfl ?_
          obtain ⟨x89, h90, hx91⟩ := bnd_some hx87
          have hw99 := Has.low (E := []) ha0' hK
          obtain ⟨b92, o93, j94, hA95, hj96, hl97, hp98⟩ := Has.at_idx hw99 h90
          refine T_val (Ev_index rfl rfl hA95 (j := j94) hj96 hl97 slc31) rfl ?_
          refine T_val (Ev_loadPK0 rfl hp98 (SubE.cons2 (i := 0) rfl (SubE.nil)) rfl agg53) rfl ?_
          obtain ⟨r100, h101, hx102⟩ := bnd_some hx91
          refine T_x (Wx_callL rfl (fun w1 hw1 => lidarref07_One_ok x89  h101 w1) rfl ?_)
          rintro _ _ hlo ⟨rfl, rfl, -⟩
          refine T_app0 ?_
          refine T_val (Ev_not rfl) rfl ?_
          refine T_nil ?_
          refine T_next ?_
          refine T_caseNB (s := 19) rfl (fun h103 => ?_) (fun h103 => ?_)
          · have hx104 := ite_bf h103 hx102
            refine T_condT rfl ?_
            refine T_seq ?_
            refine T_reg ?_
            refine T_val (Ev_assign rfl) rfl ?_
            refine T_nil ?_
            refine T_next ?_
            refine T_retc ?_
            refine T_outR ?_
            refine T_inR ?_
            refine T_outR ?_
            obtain rfl := exit_eq ht85 hx104
            refine T_outR ?_
            refine T_inR ?_
            refine T_outR ?_
            obtain rfl := Option.some.inj ho85
            exact T_retP (rs := [.tmp 2]) Try.results17 (.tmp rfl (.nil)) (Ln := []) ⟨rfl, rfl, trivial⟩ (loNil) (by exact .refl)
          · have hx105 := ite_t h103 hx102
            refine T_condF rfl ?_
            refine T_skip ?_
            refine T_next ?_
            refine T_seq ?_
            refine T_reg ?_
            refine T_val (Ev_assign rfl) rfl ?_
            refine T_nil ?_
            refine T_next ?_
            refine T_block ?_
            obtain ⟨t135, hl135, ho135⟩ := bnd_some hx105
            refine T_loopP (σ := Int) (γ := Unit) hl135 (fun s135 y135 => [(0, .slice (A0_0) ((p0).length) (c0_0)), (3, .int .i64 (s85)), (4, .int .i64 (s135))]) (fun s135 y135 => [] ++ [.old w]) (fun s135 y135 => True) () trivial (by exact .cons rfl (.cons rfl (.cons rfl (.nil)))) (by exact .refl) ?_
            intro s135 y135 hG135 x135 hx135 ht135
            unfold lidarref07_Valid_l9 at hx135
            refine T_seq ?_
            refine T_seq ?_
            refine T_reg ?_
            refine T_val (Ev_move rfl) rfl ?_
            refine T_val (Ev_move rfl) rfl ?_
            refine T_val (Ev_lss rfl rfl) rfl ?_
            refine T_nil ?_
            refine T_next ?_
            refine T_caseP (s := 22) rfl (fun h136 => ?_) (fun h136 => ?_)
            · have hx137 := ite_t h136 hx135
              refine T_condT rfl ?_
              refine T_skip ?_
              refine T_next ?_
              refine T_seq ?_
              refine T_block ?_
              refine T_seq ?_
              refine T_draw [0, 0, 0, 0, 1, 0, 0, 0, 0, 1, 0] [[], [], [0, 1], [0, 1, 2], [0, 1, 2, 3], [], [], [5, 6], [5, 6, 7], [5, 6, 7, 8], [0, 1, 2, 3, 4, 5, 6, 7, 8, 9]] (.q 0 (.q 1 (.q 2 (.q 3 (.q 4 (.q 5 (.q 6 (.q 7 (.q 8 (.q 9 (.q 10 (.done)))))))))))) mixed (by kernel_rfl) (by kernel_rfl) ?_
              refine P_p rfl rfl (Ev_move rfl) rfl ?_
              refine P_p rfl rfl (Ev_move rfl) rfl ?_
              obtain ⟨x139, h140, hx141⟩ := bnd_some hx137
              have hw149 := Has.low (E := []) ha0' hK
              obtain ⟨b142, o143, j144, hA145, hj146, hl147, hp148⟩ := Has.at_idx hw149 h140
              refine P_p rfl rfl (Ev_index rfl rfl hA145 (j := j144) hj146 hl147 slc31) rfl ?_
              refine P_p rfl rfl (Ev_field rfl fld53_0 rfl) rfl ?_
              refine P_q rfl rfl (Ev_loadP1 (d := 0) rfl hp148 (SubE.cons2 (i := 0) rfl (SubE.nil)) rfl one3) rfl ?_
              refine P_p rfl rfl (Ev_move rfl) rfl ?_
              refine P_p rfl rfl (Ev_move rfl) rfl ?_
              obtain ⟨x150, h151, hx152⟩ := bnd_some hx141
              have hw160 := Has.low (E := []) ha0' hK
              obtain ⟨b153, o154, j155, hA156, hj157, hl158, hp159⟩ := Has.at_idx hw160 h151
              refine P_p rfl rfl (Ev_index rfl rfl hA156 (j := j155) hj157 hl158 slc31) rfl ?_
              refine P_p rfl rfl (Ev_field rfl fld53_0 rfl) rfl ?_
              refine P_q rfl rfl (Ev_loadP1 (d := 0) rfl hp159 (SubE.cons2 (i := 0) rfl (SubE.nil)) rfl one3) rfl ?_
              refine P_p rfl rfl (Ev_eql rfl rfl) rfl ?_
              refine P_done ?_
              refine T_next ?_
              refine T_caseP (s := 35) rfl (fun h161 => ?_) (fun h161 => ?_)
              · have hx162 := ite_t h161 hx152
                refine T_condT rfl ?_
                refine T_seq ?_
                refine T_reg ?_
                refine T_val (Ev_assign rfl) rfl ?_
                refine T_nil ?_
                refine T_next ?_
                refine T_retc ?_
                refine T_inR ?_
                refine T_outR ?_
                obtain rfl := exit_eq ht135 hx162
                refine T_outR ?_
                refine T_inR ?_
                refine T_inR ?_
                refine T_outR ?_
                obtain rfl := exit_eq ht85 ho135
                refine T_outR ?_
                refine T_inR ?_
                refine T_outR ?_
                obtain rfl := Option.some.inj ho85
                exact T_retP (rs := [.tmp 2]) Try.results17 (.tmp rfl (.nil)) (Ln := []) ⟨rfl, rfl, trivial⟩ (loNil) (by exact .refl)
              · have hx163 := ite_f h161 hx152
                refine T_condF rfl ?_
                refine T_skip ?_
                refine T_inN ?_
                refine T_next ?_
                refine T_reg ?_
                refine T_val (Ev_move rfl) rfl ?_
                refine T_val (Ev_add_w64 rfl rfl) rfl ?_
                refine T_val (Ev_assign rfl) rfl ?_
                refine T_nil ?_
                exact T_roundP (w64 (s135 + 1)) () hx163 trivial (by exact .cons rfl (.cons rfl (.cons rfl (.nil)))) (by exact .refl)
            · have hx138 := ite_f h136 hx135
              refine T_condF rfl ?_
              refine T_exit ?_
              refine T_outX ?_
              obtain rfl := exit_eq ht135 hx138
              refine T_outX ?_
              refine T_here ?_
              refine T_inN ?_
              exact T_metP () () ho135 trivial (by exact .cons rfl (.cons rfl (.nil))) (by exact .refl)
      · have hx88 := ite_f h86 hx85
        refine T_condF rfl ?_
        refine T_exit ?_
        refine T_outX ?_
        obtain rfl := exit_eq ht85 hx88
        refine T_outX ?_
        refine T_here ?_
        exact T_metP () () ho85 trivial (by exact .nil) (by exact .refl)
set_option maxRecDepth 100000 in
theorem lidarref07_ValidRules_ok (p0 : S_api_Terrain)  {r : Bool} (hx : lidarref07_ValidRules p0 = some r) (w : World) : CtL Try.prog 19 [.agg #[.int .i64 (p0.Cell), .int .i64 (p0.Reach), .int .i64 (p0.Slope), .int .i64 (p0.Link), .int .i64 (p0.Flat), .int .i64 (p0.Tall), .int .i64 (p0.High), .int .i64 (p0.Low), .int .i64 (p0.Brush), .int .i64 (p0.Few)]] w fun v Ln => v = .bool (r) ∧ Ln = [] ∧ True := by
  refine CtL.mk 51 Try.func19 rfl Try.ntmps19 (by kernel_rfl) rfl ?_
  show T 51 _ [(0, .agg #[.int .i64 (p0.Cell), .int .i64 (p0.Reach), .int .i64 (p0.Slope), .int .i64 (p0.Link), .int .i64 (p0.Flat), .int .i64 (p0.Tall), .int .i64 (p0.High), .int .i64 (p0.Low), .int .i64 (p0.Brush), .int .i64 (p0.Few)])] _
  unfold lidarref07_ValidRules at hx
  refine T_seq ?_
  refine T_reg ?_
  refine T_x (Wx_box rfl rfl rfl (fun g1 => ?_))
  refine T_val (Ev_assign rfl) rfl ?_
  refine T_nil ?_
  refine T_next ?_
  obtain ⟨j2, hj2, hx⟩ := jn_some hx
  refine T_cutP (τ := Bool) (γ := Unit) (J := j2) (out := r) (fun s2 y2 => [(2, .bool (s2))]) (fun s2 y2 => [] ++ [.old w]) (fun s2 y2 => True) ?_ ?_
  · intro s2 y2 hx59 hG60
    subst hj2
    refine T_retc ?_
    obtain rfl := Option.some.inj hx59
    exact T_retP (rs := [.tmp 2]) Try.results19 (.tmp rfl (.nil)) (Ln := []) ⟨rfl, rfl, trivial⟩ (loNil) (by exact .refl)
  · skip
    refine T_reg ?_
    refine T_val (Ev_field rfl fld33_0 rfl) rfl ?_
    refine T_val (Ev_load1 rfl (i := 0) rfl rfl one3) rfl ?_
    obtain ⟨r2, h3, hx4⟩ := bnd_some hx
    refine T_x (Wx_callL rfl (fun w1 hw1 => lidarref07_within_ok p0.Cell 1 10000000  h3 w1) rfl ?_)
    rintro _ _ hlo ⟨rfl, rfl, -⟩
    refine T_app0 ?_
    refine T_val (Ev_move rfl) rfl ?_
    refine T_caseB (s := 6) rfl (fun h5 => ?_) (fun h5 => ?_)
    · have hx6 := ite_t h5 hx4
      refine T_valG rfl rfl rfl (Ev_field rfl fld33_1 rfl) rfl ?_
      refine T_valG rfl rfl rfl (Ev_load1 rfl (i := 0) rfl rfl one3) rfl ?_
      obtain ⟨r7, h8, hx9⟩ := bnd_some hx6
      refine T_xG rfl rfl rfl (Wx_callL rfl (fun w1 hw1 => lidarref07_within_ok p0.Reach 0 1000000  h8 w1) rfl ?_)
      rintro _ _ hlo ⟨rfl, rfl, -⟩
      refine T_app0 ?_
      refine T_val (Ev_pickT rfl rfl) rfl ?_
      refine T_val (Ev_move rfl) rfl ?_
      refine T_caseB (s := 11) rfl (fun h10 => ?_) (fun h10 => ?_)
      · have hx11 := ite_t h10 hx9
        refine T_valG rfl rfl rfl (Ev_field rfl fld33_2 rfl) rfl ?_
        refine T_valG rfl rfl rfl (Ev_load1 rfl (i := 0) rfl rfl one3) rfl ?_
        obtain ⟨r12, h13, hx14⟩ := bnd_some hx11
        refine T_xG rfl rfl rfl (Wx_callL rfl (fun w1 hw1 => lidarref07_within_ok p0.Slope 0 100000  h13 w1) rfl ?_)
        rintro _ _ hlo ⟨rfl, rfl, -⟩
        refine T_app0 ?_
        refine T_val (Ev_pickT rfl rfl) rfl ?_
        refine T_val (Ev_move rfl) rfl ?_
        refine T_caseB (s := 16) rfl (fun h15 => ?_) (fun h15 => ?_)
        · have hx16 := ite_t h15 hx14
          refine T_valG rfl rfl rfl (Ev_field rfl fld33_3 rfl) rfl ?_
          refine T_valG rfl rfl rfl (Ev_load1 rfl (i := 0) rfl rfl one3) rfl ?_
          obtain ⟨r17, h18, hx19⟩ := bnd_some hx16
          refine T_xG rfl rfl rfl (Wx_callL rfl (fun w1 hw1 => lidarref07_within_ok p0.Link 1 1000000  h18 w1) rfl ?_)
          rintro _ _ hlo ⟨rfl, rfl, -⟩
          refine T_app0 ?_
          refine T_val (Ev_pickT rfl rfl) rfl ?_
          refine T_val (Ev_move rfl) rfl ?_
          refine T_caseB (s := 21) rfl (fun h20 => ?_) (fun h20 => ?_)
          · have hx21 := ite_t h20 hx19
            refine T_valG rfl rfl rfl (Ev_field rfl fld33_4 rfl) rfl ?_
            refine T_valG rfl rfl rfl (Ev_load1 rfl (i := 0) rfl rfl one3) rfl ?_
            obtain ⟨r22, h23, hx24⟩ := bnd_some hx21
            refine T_xG rfl rfl rfl (Wx_callL rfl (fun w1 hw1 => lidarref07_within_ok p0.Flat 0 1000000  h23 w1) rfl ?_)
            rintro _ _ hlo ⟨rfl, rfl, -⟩
            refine T_app0 ?_
            refine T_val (Ev_pickT rfl rfl) rfl ?_
            refine T_val (Ev_move rfl) rfl ?_
            refine T_caseB (s := 26) rfl (fun h25 => ?_) (fun h25 => ?_)
            · have hx26 := ite_t h25 hx24
              refine T_valG rfl rfl rfl (Ev_field rfl fld33_5 rfl) rfl ?_
              refine T_valG rfl rfl rfl (Ev_load1 rfl (i := 0) rfl rfl one3) rfl ?_
              obtain ⟨r27, h28, hx29⟩ := bnd_some hx26
              refine T_xG rfl rfl rfl (Wx_callL rfl (fun w1 hw1 => lidarref07_within_ok p0.Tall 0 1000000  h28 w1) rfl ?_)
              rintro _ _ hlo ⟨rfl, rfl, -⟩
              refine T_app0 ?_
              refine T_val (Ev_pickT rfl rfl) rfl ?_
              refine T_val (Ev_move rfl) rfl ?_
              refine T_caseB (s := 31) rfl (fun h30 => ?_) (fun h30 => ?_)
              · have hx31 := ite_t h30 hx29
                refine T_valG rfl rfl rfl (Ev_field rfl fld33_6 rfl) rfl ?_
                refine T_valG rfl rfl rfl (Ev_load1 rfl (i := 0) rfl rfl one3) rfl ?_
                obtain ⟨r32, h33, hx34⟩ := bnd_some hx31
                refine T_xG rfl rfl rfl (Wx_callL rfl (fun w1 hw1 => lidarref07_within_ok p0.High 0 1000000  h33 w1) rfl ?_)
                rintro _ _ hlo ⟨rfl, rfl, -⟩
                refine T_app0 ?_
                refine T_val (Ev_pickT rfl rfl) rfl ?_
                refine T_val (Ev_move rfl) rfl ?_
                refine T_caseB (s := 36) rfl (fun h35 => ?_) (fun h35 => ?_)
                · have hx36 := ite_t h35 hx34
                  refine T_valG rfl rfl rfl (Ev_field rfl fld33_7 rfl) rfl ?_
                  refine T_valG rfl rfl rfl (Ev_load1 rfl (i := 0) rfl rfl one3) rfl ?_
                  obtain ⟨r37, h38, hx39⟩ := bnd_some hx36
                  refine T_xG rfl rfl rfl (Wx_callL rfl (fun w1 hw1 => lidarref07_within_ok p0.Low 0 1000000  h38 w1) rfl ?_)
                  rintro _ _ hlo ⟨rfl, rfl, -⟩
                  refine T_app0 ?_
                  refine T_val (Ev_pickT rfl rfl) rfl ?_
                  refine T_val (Ev_move rfl) rfl ?_
                  refine T_caseB (s := 41) rfl (fun h40 => ?_) (fun h40 => ?_)
                  · have hx41 := ite_t h40 hx39
                    refine T_valG rfl rfl rfl (Ev_field rfl fld33_8 rfl) rfl ?_
                    refine T_valG rfl rfl rfl (Ev_load1 rfl (i := 0) rfl rfl one3) rfl ?_
                    obtain ⟨r42, h43, hx44⟩ := bnd_some hx41
                    refine T_xG rfl rfl rfl (Wx_callL rfl (fun w1 hw1 => lidarref07_within_ok p0.Brush 0 1000000  h43 w1) rfl ?_)
                    rintro _ _ hlo ⟨rfl, rfl, -⟩
                    refine T_app0 ?_
                    refine T_val (Ev_pickT rfl rfl) rfl ?_
                    refine T_val (Ev_move rfl) rfl ?_
                    refine T_caseB (s := 46) rfl (fun h45 => ?_) (fun h45 => ?_)
                    · have hx46 := ite_t h45 hx44
                      refine T_valG rfl rfl rfl (Ev_field rfl fld33_9 rfl) rfl ?_
                      refine T_valG rfl rfl rfl (Ev_load1 rfl (i := 0) rfl rfl one3) rfl ?_
                      obtain ⟨r47, h48, hx49⟩ := bnd_some hx46
                      refine T_xG rfl rfl rfl (Wx_callL rfl (fun w1 hw1 => lidarref07_within_ok p0.Few 1 1024  h48 w1) rfl ?_)
                      rintro _ _ hlo ⟨rfl, rfl, -⟩
                      refine T_app0 ?_
                      refine T_val (Ev_pickT rfl rfl) rfl ?_
                      refine T_val (Ev_assign rfl) rfl ?_
                      refine T_nil ?_
                      exact T_metP r47 () hx49 trivial (by exact .cons rfl (.nil)) (by exact .drop 0 rfl (.refl))
                    · have hx50 := ite_bf h45 hx44
                      refine T_skipG rfl rfl rfl rfl rfl ?_
                      refine T_skipG rfl rfl rfl rfl rfl ?_
                      refine T_skipG rfl rfl rfl rfl rfl ?_
                      refine T_val (Ev_pickF rfl rfl) rfl ?_
                      refine T_val (Ev_assign rfl) rfl ?_
                      refine T_nil ?_
                      exact T_metP false () hx50 trivial (by exact .cons rfl (.nil)) (by exact .drop 0 rfl (.refl))
                  · have hx51 := ite_bf h40 hx39
                    refine T_skipG rfl rfl rfl rfl rfl ?_
                    refine T_skipG rfl rfl rfl rfl rfl ?_
                    refine T_skipG rfl rfl rfl rfl rfl ?_
                    refine T_val (Ev_pickF rfl rfl) rfl ?_
                    refine T_val (Ev_move rfl) rfl ?_
                    refine T_skipG rfl rfl rfl rfl rfl ?_
                    refine T_skipG rfl rfl rfl rfl rfl ?_
                    refine T_skipG rfl rfl rfl rfl rfl ?_
                    refine T_val (Ev_pickF rfl rfl) rfl ?_
                    refine T_val (Ev_assign rfl) rfl ?_
                    refine T_nil ?_
                    exact T_metP false () hx51 trivial (by exact .cons rfl (.nil)) (by exact .drop 0 rfl (.refl))
                · have hx52 := ite_bf h35 hx34
                  refine T_skipG rfl rfl rfl rfl rfl ?_
                  refine T_skipG rfl rfl rfl rfl rfl ?_
                  refine T_skipG rfl rfl rfl rfl rfl ?_
                  refine T_val (Ev_pickF rfl rfl) rfl ?_
                  refine T_val (Ev_move rfl) rfl ?_
                  refine T_skipG rfl rfl rfl rfl rfl ?_
                  refine T_skipG rfl rfl rfl rfl rfl ?_
                  refine T_skipG rfl rfl rfl rfl rfl ?_
                  refine T_val (Ev_pickF rfl rfl) rfl ?_
                  refine T_val (Ev_move rfl) rfl ?_
                  refine T_skipG rfl rfl rfl rfl rfl ?_
                  refine T_skipG rfl rfl rfl rfl rfl ?_
                  refine T_skipG rfl rfl rfl rfl rfl ?_
                  refine T_val (Ev_pickF rfl rfl) rfl ?_
                  refine T_val (Ev_assign rfl) rfl ?_
                  refine T_nil ?_
                  exact T_metP false () hx52 trivial (by exact .cons rfl (.nil)) (by exact .drop 0 rfl (.refl))
              · have hx53 := ite_bf h30 hx29
                refine T_skipG rfl rfl rfl rfl rfl ?_
                refine T_skipG rfl rfl rfl rfl rfl ?_
                refine T_skipG rfl rfl rfl rfl rfl ?_
                refine T_val (Ev_pickF rfl rfl) rfl ?_
                refine T_val (Ev_move rfl) rfl ?_
                refine T_skipG rfl rfl rfl rfl rfl ?_
                refine T_skipG rfl rfl rfl rfl rfl ?_
                refine T_skipG rfl rfl rfl rfl rfl ?_
                refine T_val (Ev_pickF rfl rfl) rfl ?_
                refine T_val (Ev_move rfl) rfl ?_
                refine T_skipG rfl rfl rfl rfl rfl ?_
                refine T_skipG rfl rfl rfl rfl rfl ?_
                refine T_skipG rfl rfl rfl rfl rfl ?_
                refine T_val (Ev_pickF rfl rfl) rfl ?_
                refine T_val (Ev_move rfl) rfl ?_
                refine T_skipG rfl rfl rfl rfl rfl ?_
                refine T_skipG rfl rfl rfl rfl rfl ?_
                refine T_skipG rfl rfl rfl rfl rfl ?_
                refine T_val (Ev_pickF rfl rfl) rfl ?_
                refine T_val (Ev_assign rfl) rfl ?_
                refine T_nil ?_
                exact T_metP false () hx53 trivial (by exact .cons rfl (.nil)) (by exact .drop 0 rfl (.refl))
            · have hx54 := ite_bf h25 hx24
              refine T_skipG rfl rfl rfl rfl rfl ?_
              refine T_skipG rfl rfl rfl rfl rfl ?_
              refine T_skipG rfl rfl rfl rfl rfl ?_
              refine T_val (Ev_pickF rfl rfl) rfl ?_
              refine T_val (Ev_move rfl) rfl ?_
              refine T_skipG rfl rfl rfl rfl rfl ?_
              refine T_skipG rfl rfl rfl rfl rfl ?_
              refine T_skipG rfl rfl rfl rfl rfl ?_
              refine T_val (Ev_pickF rfl rfl) rfl ?_
              refine T_val (Ev_move rfl) rfl ?_
              refine T_skipG rfl rfl rfl rfl rfl ?_
              refine T_skipG rfl rfl rfl rfl rfl ?_
              refine T_skipG rfl rfl rfl rfl rfl ?_
              refine T_val (Ev_pickF rfl rfl) rfl ?_
              refine T_val (Ev_move rfl) rfl ?_
              refine T_skipG rfl rfl rfl rfl rfl ?_
              refine T_skipG rfl rfl rfl rfl rfl ?_
              refine T_skipG rfl rfl rfl rfl rfl ?_
              refine T_val (Ev_pickF rfl rfl) rfl ?_
              refine T_val (Ev_move rfl) rfl ?_
              refine T_skipG rfl rfl rfl rfl rfl ?_
              refine T_skipG rfl rfl rfl rfl rfl ?_
              refine T_skipG rfl rfl rfl rfl rfl ?_
              refine T_val (Ev_pickF rfl rfl) rfl ?_
              refine T_val (Ev_assign rfl) rfl ?_
              refine T_nil ?_
              exact T_metP false () hx54 trivial (by exact .cons rfl (.nil)) (by exact .drop 0 rfl (.refl))
          · have hx55 := ite_bf h20 hx19
            refine T_skipG rfl rfl rfl rfl rfl ?_
            refine T_skipG rfl rfl rfl rfl rfl ?_
            refine T_skipG rfl rfl rfl rfl rfl ?_
            refine T_val (Ev_pickF rfl rfl) rfl ?_
            refine T_val (Ev_move rfl) rfl ?_
            refine T_skipG rfl rfl rfl rfl rfl ?_
            refine T_skipG rfl rfl rfl rfl rfl ?_
            refine T_skipG rfl rfl rfl rfl rfl ?_
            refine T_val (Ev_pickF rfl rfl) rfl ?_
            refine T_val (Ev_move rfl) rfl ?_
            refine T_skipG rfl rfl rfl rfl rfl ?_
            refine T_skipG rfl rfl rfl rfl rfl ?_
            refine T_skipG rfl rfl rfl rfl rfl ?_
            refine T_val (Ev_pickF rfl rfl) rfl ?_
            refine T_val (Ev_move rfl) rfl ?_
            refine T_skipG rfl rfl rfl rfl rfl ?_
            refine T_skipG rfl rfl rfl rfl rfl ?_
            refine T_skipG rfl rfl rfl rfl rfl ?_
            refine T_val (Ev_pickF rfl rfl) rfl ?_
            refine T_val (Ev_move rfl) rfl ?_
            refine T_skipG rfl rfl rfl rfl rfl ?_
            refine T_skipG rfl rfl rfl rfl rfl ?_
            refine T_skipG rfl rfl rfl rfl rfl ?_
            refine T_val (Ev_pickF rfl rfl) rfl ?_
            refine T_val (Ev_move rfl) rfl ?_
            refine T_skipG rfl rfl rfl rfl rfl ?_
            refine T_skipG rfl rfl rfl rfl rfl ?_
            refine T_skipG rfl rfl rfl rfl rfl ?_
            refine T_val (Ev_pickF rfl rfl) rfl ?_
            refine T_val (Ev_assign rfl) rfl ?_
            refine T_nil ?_
            exact T_metP false () hx55 trivial (by exact .cons rfl (.nil)) (by exact .drop 0 rfl (.refl))
        · have hx56 := ite_bf h15 hx14
          refine T_skipG rfl rfl rfl rfl rfl ?_
          refine T_skipG rfl rfl rfl rfl rfl ?_
          refine T_skipG rfl rfl rfl rfl rfl ?_
          refine T_val (Ev_pickF rfl rfl) rfl ?_
          refine T_val (Ev_move rfl) rfl ?_
          refine T_skipG rfl rfl rfl rfl rfl ?_
          refine T_skipG rfl rfl rfl rfl rfl ?_
          refine T_skipG rfl rfl rfl rfl rfl ?_
          refine T_val (Ev_pickF rfl rfl) rfl ?_
          refine T_val (Ev_move rfl) rfl ?_
          refine T_skipG rfl rfl rfl rfl rfl ?_
          refine T_skipG rfl rfl rfl rfl rfl ?_
          refine T_skipG rfl rfl rfl rfl rfl ?_
          refine T_val (Ev_pickF rfl rfl) rfl ?_
          refine T_val (Ev_move rfl) rfl ?_
          refine T_skipG rfl rfl rfl rfl rfl ?_
          refine T_skipG rfl rfl rfl rfl rfl ?_
          refine T_skipG rfl rfl rfl rfl rfl ?_
          refine T_val (Ev_pickF rfl rfl) rfl ?_
          refine T_val (Ev_move rfl) rfl ?_
          refine T_skipG rfl rfl rfl rfl rfl ?_
          refine T_skipG rfl rfl rfl rfl rfl ?_
          refine T_skipG rfl rfl rfl rfl rfl ?_
          refine T_val (Ev_pickF rfl rfl) rfl ?_
          refine T_val (Ev_move rfl) rfl ?_
          refine T_skipG rfl rfl rfl rfl rfl ?_
          refine T_skipG rfl rfl rfl rfl rfl ?_
          refine T_skipG rfl rfl rfl rfl rfl ?_
          refine T_val (Ev_pickF rfl rfl) rfl ?_
          refine T_val (Ev_move rfl) rfl ?_
          refine T_skipG rfl rfl rfl rfl rfl ?_
          refine T_skipG rfl rfl rfl rfl rfl ?_
          refine T_skipG rfl rfl rfl rfl rfl ?_
          refine T_val (Ev_pickF rfl rfl) rfl ?_
          refine T_val (Ev_assign rfl) rfl ?_
          refine T_nil ?_
          exact T_metP false () hx56 trivial (by exact .cons rfl (.nil)) (by exact .drop 0 rfl (.refl))
      · have hx57 := ite_bf h10 hx9
        refine T_skipG rfl rfl rfl rfl rfl ?_
        refine T_skipG rfl rfl rfl rfl rfl ?_
        refine T_skipG rfl rfl rfl rfl rfl ?_
        refine T_val (Ev_pickF rfl rfl) rfl ?_
        refine T_val (Ev_move rfl) rfl ?_
        refine T_skipG rfl rfl rfl rfl rfl ?_
        refine T_skipG rfl rfl rfl rfl rfl ?_
        refine T_skipG rfl rfl rfl rfl rfl ?_
        refine T_val (Ev_pickF rfl rfl) rfl ?_
        refine T_val (Ev_move rfl) rfl ?_
        refine T_skipG rfl rfl rfl rfl rfl ?_
        refine T_skipG rfl rfl rfl rfl rfl ?_
        refine T_skipG rfl rfl rfl rfl rfl ?_
        refine T_val (Ev_pickF rfl rfl) rfl ?_
        refine T_val (Ev_move rfl) rfl ?_
        refine T_skipG rfl rfl rfl rfl rfl ?_
        refine T_skipG rfl rfl rfl rfl rfl ?_
        refine T_skipG rfl rfl rfl rfl rfl ?_
        refine T_val (Ev_pickF rfl rfl) rfl ?_
        refine T_val (Ev_move rfl) rfl ?_
        refine T_skipG rfl rfl rfl rfl rfl ?_
        refine T_skipG rfl rfl rfl rfl rfl ?_
        refine T_skipG rfl rfl rfl rfl rfl ?_
        refine T_val (Ev_pickF rfl rfl) rfl ?_
        refine T_val (Ev_move rfl) rfl ?_
        refine T_skipG rfl rfl rfl rfl rfl ?_
        refine T_skipG rfl rfl rfl rfl rfl ?_
        refine T_skipG rfl rfl rfl rfl rfl ?_
        refine T_val (Ev_pickF rfl rfl) rfl ?_
        refine T_val (Ev_move rfl) rfl ?_
        refine T_skipG rfl rfl rfl rfl rfl ?_
        refine T_skipG rfl rfl rfl rfl rfl ?_
        refine T_skipG rfl rfl rfl rfl rfl ?_
        refine T_val (Ev_pickF rfl rfl) rfl ?_
        refine T_val (Ev_move rfl) rfl ?_
        refine T_skipG rfl rfl rfl rfl rfl ?_
        refine T_skipG rfl rfl rfl rfl rfl ?_
        refine T_skipG rfl rfl rfl rfl rfl ?_
        refine T_val (Ev_pickF rfl rfl) rfl ?_
        refine T_val (Ev_assign rfl) rfl ?_
        refine T_nil ?_
        exact T_metP false () hx57 trivial (by exact .cons rfl (.nil)) (by exact .drop 0 rfl (.refl))
    · have hx58 := ite_bf h5 hx4
      refine T_skipG rfl rfl rfl rfl rfl ?_
      refine T_skipG rfl rfl rfl rfl rfl ?_
      refine T_skipG rfl rfl rfl rfl rfl ?_
      refine T_val (Ev_pickF rfl rfl) rfl ?_
      refine T_val (Ev_move rfl) rfl ?_
      refine T_skipG rfl rfl rfl rfl rfl ?_
      refine T_skipG rfl rfl rfl rfl rfl ?_
      refine T_skipG rfl rfl rfl rfl rfl ?_
      refine T_val (Ev_pickF rfl rfl) rfl ?_
      refine T_val (Ev_move rfl) rfl ?_
      refine T_skipG rfl rfl rfl rfl rfl ?_
      refine T_skipG rfl rfl rfl rfl rfl ?_
      refine T_skipG rfl rfl rfl rfl rfl ?_
      refine T_val (Ev_pickF rfl rfl) rfl ?_
      refine T_val (Ev_move rfl) rfl ?_
      refine T_skipG rfl rfl rfl rfl rfl ?_
      refine T_skipG rfl rfl rfl rfl rfl ?_
      refine T_skipG rfl rfl rfl rfl rfl ?_
      refine T_val (Ev_pickF rfl rfl) rfl ?_
      refine T_val (Ev_move rfl) rfl ?_
      refine T_skipG rfl rfl rfl rfl rfl ?_
      refine T_skipG rfl rfl rfl rfl rfl ?_
      refine T_skipG rfl rfl rfl rfl rfl ?_
      refine T_val (Ev_pickF rfl rfl) rfl ?_
      refine T_val (Ev_move rfl) rfl ?_
      refine T_skipG rfl rfl rfl rfl rfl ?_
      refine T_skipG rfl rfl rfl rfl rfl ?_
      refine T_skipG rfl rfl rfl rfl rfl ?_
      refine T_val (Ev_pickF rfl rfl) rfl ?_
      refine T_val (Ev_move rfl) rfl ?_
      refine T_skipG rfl rfl rfl rfl rfl ?_
      refine T_skipG rfl rfl rfl rfl rfl ?_
      refine T_skipG rfl rfl rfl rfl rfl ?_
      refine T_val (Ev_pickF rfl rfl) rfl ?_
      refine T_val (Ev_move rfl) rfl ?_
      refine T_skipG rfl rfl rfl rfl rfl ?_
      refine T_skipG rfl rfl rfl rfl rfl ?_
      refine T_skipG rfl rfl rfl rfl rfl ?_
      refine T_val (Ev_pickF rfl rfl) rfl ?_
      refine T_val (Ev_move rfl) rfl ?_
      refine T_skipG rfl rfl rfl rfl rfl ?_
      refine T_skipG rfl rfl rfl rfl rfl ?_
      refine T_skipG rfl rfl rfl rfl rfl ?_
      refine T_val (Ev_pickF rfl rfl) rfl ?_
      refine T_val (Ev_assign rfl) rfl ?_
      refine T_nil ?_
      exact T_metP false () hx58 trivial (by exact .cons rfl (.nil)) (by exact .drop 0 rfl (.refl))
set_option maxRecDepth 100000 in
theorem lidarref07_checked_ok (p0 : List S_api_Point) (p1 : S_api_Terrain) {K : List Ent} {A0_0 : Option Addr} {c0_0 : Nat} (ha0 : Has K A0_0 (p0).length c0_0 9 e_api_Point (p0)) {r : Int} (hx : lidarref07_checked p0 p1 = some r) (w : World) (hK : ∀ e ∈ K, Ent.ok w e) : CtL Try.prog 36 [.slice (A0_0) ((p0).length) (c0_0), .agg #[.int .i64 (p1.Cell), .int .i64 (p1.Reach), .int .i64 (p1.Slope), .int .i64 (p1.Link), .int .i64 (p1.Flat), .int .i64 (p1.Tall), .int .i64 (p1.High), .int .i64 (p1.Low), .int .i64 (p1.Brush), .int .i64 (p1.Few)]] w fun v Ln => v = .int .i64 (r) ∧ Ln = [] ∧ True := by
  have ha0' := Has.up0 ha0
  refine CtL.mk 11 Try.func36 rfl Try.ntmps36 (by kernel_rfl) rfl ?_
  show T 11 _ [(0, .slice (A0_0) ((p0).length) (c0_0)), (1, .agg #[.int .i64 (p1.Cell), .int .i64 (p1.Reach), .int .i64 (p1.Slope), .int .i64 (p1.Link), .int .i64 (p1.Flat), .int .i64 (p1.Tall), .int .i64 (p1.High), .int .i64 (p1.Low), .int .i64 (p1.Brush), .int .i64 (p1.Few)])] _
  unfold lidarref07_checked at hx
  refine T_seq ?_
  refine T_reg ?_
  refine T_x (Wx_box rfl rfl rfl (fun g1 => ?_))
  refine T_val (Ev_assign rfl) rfl ?_
  refine T_nil ?_
  refine T_next ?_
  refine T_seq ?_
  refine T_seq ?_
  refine T_reg ?_
  refine T_val (Ev_loadK rfl (i := 0) rfl rfl agg33) rfl ?_
  obtain ⟨r2, h3, hx4⟩ := bnd_some hx
  refine T_x (Wx_callL rfl (fun w1 hw1 => lidarref07_ValidRules_ok p1  h3 w1) rfl ?_)
  rintro _ _ hlo ⟨rfl, rfl, -⟩
  refine T_app0 ?_
  refine T_val (Ev_not rfl) rfl ?_
  refine T_nil ?_
  refine T_next ?_
  refine T_caseNB (s := 7) rfl (fun h5 => ?_) (fun h5 => ?_)
  · have hx6 := ite_bf h5 hx4
    refine T_condT rfl ?_
    refine T_seq ?_
    refine T_reg ?_
    refine T_val (Ev_assign rfl) rfl ?_
    refine T_nil ?_
    refine T_next ?_
    refine T_retc ?_
    refine T_outR ?_
    obtain rfl := Option.some.inj hx6
    exact T_retP (rs := [.tmp 4]) Try.results36 (.tmp rfl (.nil)) (Ln := []) ⟨rfl, rfl, trivial⟩ (loNil) (by exact .drop 0 rfl (.refl))
  · have hx7 := ite_t h5 hx4
    refine T_condF rfl ?_
    refine T_skip ?_
    refine T_next ?_
    refine T_seq ?_
    refine T_seq ?_
    refine T_reg ?_
    refine T_val (Ev_move rfl) rfl ?_
    obtain ⟨r8, h9, hx10⟩ := bnd_some hx7
    refine T_x (Wx_callL rfl (fun w1 hw1 => lidarref07_Valid_ok p0 (Has.len' ha0') h9 w1 (okApp (K := K) (K2 := []) hK (by exact (SubE.cons2 (i := 1) rfl (SubE.nil))) (by exact (SubE.nil)) hw1)) rfl ?_)
    rintro _ _ hlo ⟨rfl, rfl, -⟩
    refine T_app0 ?_
    refine T_val (Ev_not rfl) rfl ?_
    refine T_nil ?_
    refine T_next ?_
    refine T_caseNB (s := 10) rfl (fun h11 => ?_) (fun h11 => ?_)
    · have hx12 := ite_bf h11 hx10
      refine T_condT rfl ?_
      refine T_seq ?_
      refine T_reg ?_
      refine T_val (Ev_assign rfl) rfl ?_
      refine T_nil ?_
      refine T_next ?_
      refine T_retc ?_
      refine T_outR ?_
      obtain rfl := Option.some.inj hx12
      exact T_retP (rs := [.tmp 4]) Try.results36 (.tmp rfl (.nil)) (Ln := []) ⟨rfl, rfl, trivial⟩ (loNil) (by exact .drop 0 rfl (.refl))
    · have hx13 := ite_t h11 hx10
      refine T_condF rfl ?_
      refine T_skip ?_
      refine T_next ?_
      refine T_seq ?_
      refine T_reg ?_
      refine T_val (Ev_assign rfl) rfl ?_
      refine T_nil ?_
      refine T_next ?_
      refine T_retc ?_
      obtain rfl := Option.some.inj hx13
      exact T_retP (rs := [.tmp 4]) Try.results36 (.tmp rfl (.nil)) (Ln := []) ⟨rfl, rfl, trivial⟩ (loNil) (by exact .drop 0 rfl (.refl))
set_option maxRecDepth 100000 in
theorem lidarref07_lower_ok (p0 : S_api_Point) (p1 : S_api_Point)  {r : Bool} (hx : lidarref07_lower p0 p1 = some r) (w : World) : CtL Try.prog 49 [.agg #[.int .i64 (p0.Id), .int .i64 (p0.X), .int .i64 (p0.Y), .int .i64 (p0.Z.Lo), .int .i64 (p0.Z.Hi), .int .i64 (p0.Wide), .int .i64 (p0.Num), .int .i64 (p0.Of), .int .i64 (p0.Class)], .agg #[.int .i64 (p1.Id), .int .i64 (p1.X), .int .i64 (p1.Y), .int .i64 (p1.Z.Lo), .int .i64 (p1.Z.Hi), .int .i64 (p1.Wide), .int .i64 (p1.Num), .int .i64 (p1.Of), .int .i64 (p1.Class)]] w fun v Ln => v = .bool (r) ∧ Ln = [] ∧ True := by
  refine CtL.mk 28 Try.func49 rfl Try.ntmps49 (by kernel_rfl) rfl ?_
  show T 28 _ [(0, .agg #[.int .i64 (p0.Id), .int .i64 (p0.X), .int .i64 (p0.Y), .int .i64 (p0.Z.Lo), .int .i64 (p0.Z.Hi), .int .i64 (p0.Wide), .int .i64 (p0.Num), .int .i64 (p0.Of), .int .i64 (p0.Class)]), (1, .agg #[.int .i64 (p1.Id), .int .i64 (p1.X), .int .i64 (p1.Y), .int .i64 (p1.Z.Lo), .int .i64 (p1.Z.Hi), .int .i64 (p1.Wide), .int .i64 (p1.Num), .int .i64 (p1.Of), .int .i64 (p1.Class)])] _
  unfold lidarref07_lower at hx
  refine T_seq ?_
  refine T_reg ?_
  refine T_x (Wx_box rfl rfl rfl (fun g1 => ?_))
  refine T_x (Wx_box rfl rfl rfl (fun g2 => ?_))
  refine T_val (Ev_assign rfl) rfl ?_
  refine T_nil ?_
  refine T_next ?_
  obtain ⟨j2, hj2, hx⟩ := jn_some hx
  refine T_cutP (τ := Bool) (γ := Unit) (J := j2) (out := r) (fun s2 y2 => [(4, .bool (s2))]) (fun s2 y2 => [] ++ [.old w]) (fun s2 y2 => True) ?_ ?_
  · intro s2 y2 hx9 hG10
    subst hj2
    refine T_retc ?_
    obtain rfl := Option.some.inj hx9
    exact T_retP (rs := [.tmp 4]) Try.results49 (.tmp rfl (.nil)) (Ln := []) ⟨rfl, rfl, trivial⟩ (loNil) (by exact .refl)
  · skip
    refine T_reg ?_
    refine T_val (Ev_field rfl fld53_3 rfl) rfl ?_
    refine T_val (Ev_field rfl fld51_1 rfl) rfl ?_
    refine T_val (Ev_load1 rfl (i := 1) rfl rfl one3) rfl ?_
    refine T_val (Ev_field rfl fld53_3 rfl) rfl ?_
    refine T_val (Ev_field rfl fld51_1 rfl) rfl ?_
    refine T_val (Ev_load1 rfl (i := 0) rfl rfl one3) rfl ?_
    refine T_val (Ev_lss rfl rfl) rfl ?_
    refine T_val (Ev_move rfl) rfl ?_
    refine T_caseP (s := 12) rfl (fun h3 => ?_) (fun h3 => ?_)
    · have hx4 := ite_t h3 hx
      refine T_skipG rfl rfl rfl rfl rfl ?_
      refine T_skipG rfl rfl rfl rfl rfl ?_
      refine T_skipG rfl rfl rfl rfl rfl ?_
      refine T_skipG rfl rfl rfl rfl rfl ?_
      refine T_skipG rfl rfl rfl rfl rfl ?_
      refine T_skipG rfl rfl rfl rfl rfl ?_
      refine T_skipG rfl rfl rfl rfl rfl ?_
      refine T_skipG rfl rfl rfl rfl rfl ?_
      refine T_skipU rfl rfl rfl rfl ?_
      refine T_skipU rfl rfl rfl rfl ?_
      refine T_skipU rfl rfl rfl rfl ?_
      refine T_skipU rfl rfl rfl rfl ?_
      refine T_skipU rfl rfl rfl rfl ?_
      refine T_skipG rfl rfl rfl rfl rfl ?_
      refine T_val (Ev_pickT rfl rfl) rfl ?_
      refine T_val (Ev_assign rfl) rfl ?_
      refine T_nil ?_
      exact T_metP true () hx4 trivial (by exact .cons rfl (.nil)) (by exact .drop 0 rfl (.drop 0 rfl (.refl)))
    · have hx5 := ite_f h3 hx
      refine T_valG rfl rfl rfl (Ev_field rfl fld53_3 rfl) rfl ?_
      refine T_valG rfl rfl rfl (Ev_field rfl fld51_1 rfl) rfl ?_
      refine T_valG rfl rfl rfl (Ev_load1 rfl (i := 1) rfl rfl one3) rfl ?_
      refine T_valG rfl rfl rfl (Ev_field rfl fld53_3 rfl) rfl ?_
      refine T_valG rfl rfl rfl (Ev_field rfl fld51_1 rfl) rfl ?_
      refine T_valG rfl rfl rfl (Ev_load1 rfl (i := 0) rfl rfl one3) rfl ?_
      refine T_valG rfl rfl rfl (Ev_eql rfl rfl) rfl ?_
      refine T_valG rfl rfl rfl (Ev_move rfl) rfl ?_
      refine T_caseP (s := 20) rfl (fun h6 => ?_) (fun h6 => ?_)
      · have hx7 := ite_t h6 hx5
        refine T_valG rfl rfl rfl (Ev_field rfl fld53_0 rfl) rfl ?_
        refine T_valG rfl rfl rfl (Ev_load1 rfl (i := 1) rfl rfl one3) rfl ?_
        refine T_valG rfl rfl rfl (Ev_field rfl fld53_0 rfl) rfl ?_
        refine T_valG rfl rfl rfl (Ev_load1 rfl (i := 0) rfl rfl one3) rfl ?_
        refine T_valG rfl rfl rfl (Ev_lss rfl rfl) rfl ?_
        refine T_valG rfl rfl rfl (Ev_pickT rfl rfl) rfl ?_
        refine T_val (Ev_pickF rfl rfl) rfl ?_
        refine T_val (Ev_assign rfl) rfl ?_
        refine T_nil ?_
        exact T_metP (decide (p0.Id < p1.Id)) () hx7 trivial (by exact .cons rfl (.nil)) (by exact .drop 0 rfl (.drop 0 rfl (.refl)))
      · have hx8 := ite_f h6 hx5
        refine T_skipG rfl rfl rfl rfl rfl ?_
        refine T_skipG rfl rfl rfl rfl rfl ?_
        refine T_skipG rfl rfl rfl rfl rfl ?_
        refine T_skipG rfl rfl rfl rfl rfl ?_
        refine T_skipG rfl rfl rfl rfl rfl ?_
        refine T_valG rfl rfl rfl (Ev_pickF rfl rfl) rfl ?_
        refine T_val (Ev_pickF rfl rfl) rfl ?_
        refine T_val (Ev_assign rfl) rfl ?_
        refine T_nil ?_
        exact T_metP false () hx8 trivial (by exact .cons rfl (.nil)) (by exact .drop 0 rfl (.drop 0 rfl (.refl)))
set_option maxRecDepth 100000 in
theorem lidarref07_apart_ok (p0 : S_api_Point) (p1 : S_api_Point)  {r : Int} (hx : lidarref07_apart p0 p1 = some r) (w : World) : CtL Try.prog 57 [.agg #[.int .i64 (p0.Id), .int .i64 (p0.X), .int .i64 (p0.Y), .int .i64 (p0.Z.Lo), .int .i64 (p0.Z.Hi), .int .i64 (p0.Wide), .int .i64 (p0.Num), .int .i64 (p0.Of), .int .i64 (p0.Class)], .agg #[.int .i64 (p1.Id), .int .i64 (p1.X), .int .i64 (p1.Y), .int .i64 (p1.Z.Lo), .int .i64 (p1.Z.Hi), .int .i64 (p1.Wide), .int .i64 (p1.Num), .int .i64 (p1.Of), .int .i64 (p1.Class)]] w fun v Ln => v = .int .i64 (r) ∧ Ln = [] ∧ True := by
  refine CtL.mk 28 Try.func57 rfl Try.ntmps57 (by kernel_rfl) rfl ?_
  show T 28 _ [(0, .agg #[.int .i64 (p0.Id), .int .i64 (p0.X), .int .i64 (p0.Y), .int .i64 (p0.Z.Lo), .int .i64 (p0.Z.Hi), .int .i64 (p0.Wide), .int .i64 (p0.Num), .int .i64 (p0.Of), .int .i64 (p0.Class)]), (1, .agg #[.int .i64 (p1.Id), .int .i64 (p1.X), .int .i64 (p1.Y), .int .i64 (p1.Z.Lo), .int .i64 (p1.Z.Hi), .int .i64 (p1.Wide), .int .i64 (p1.Num), .int .i64 (p1.Of), .int .i64 (p1.Class)])] _
  unfold lidarref07_apart at hx
  refine T_seq ?_
  refine T_reg ?_
  refine T_x (Wx_box rfl rfl rfl (fun g1 => ?_))
  refine T_x (Wx_box rfl rfl rfl (fun g2 => ?_))
  refine T_val (Ev_assign rfl) rfl ?_
  refine T_nil ?_
  refine T_next ?_
  refine T_seq ?_
  refine T_reg ?_
  refine T_val (Ev_field rfl fld53_1 rfl) rfl ?_
  refine T_val (Ev_load1 rfl (i := 1) rfl rfl one3) rfl ?_
  refine T_val (Ev_field rfl fld53_1 rfl) rfl ?_
  refine T_val (Ev_load1 rfl (i := 0) rfl rfl one3) rfl ?_
  refine T_val (Ev_sub_w64 rfl rfl) rfl ?_
  refine T_val (Ev_field rfl fld53_1 rfl) rfl ?_
  refine T_val (Ev_load1 rfl (i := 1) rfl rfl one3) rfl ?_
  refine T_val (Ev_field rfl fld53_1 rfl) rfl ?_
  refine T_val (Ev_load1 rfl (i := 0) rfl rfl one3) rfl ?_
  refine T_val (Ev_sub_w64 rfl rfl) rfl ?_
  refine T_val (Ev_mul_w64 rfl rfl) rfl ?_
  refine T_val (Ev_field rfl fld53_2 rfl) rfl ?_
  refine T_val (Ev_load1 rfl (i := 1) rfl rfl one3) rfl ?_
  refine T_val (Ev_field rfl fld53_2 rfl) rfl ?_
  refine T_val (Ev_load1 rfl (i := 0) rfl rfl one3) rfl ?_
  refine T_val (Ev_sub_w64 rfl rfl) rfl ?_
  refine T_val (Ev_field rfl fld53_2 rfl) rfl ?_
  refine T_val (Ev_load1 rfl (i := 1) rfl rfl one3) rfl ?_
  refine T_val (Ev_field rfl fld53_2 rfl) rfl ?_
  refine T_val (Ev_load1 rfl (i := 0) rfl rfl one3) rfl ?_
  refine T_val (Ev_sub_w64 rfl rfl) rfl ?_
  refine T_val (Ev_mul_w64 rfl rfl) rfl ?_
  refine T_val (Ev_add_w64 rfl rfl) rfl ?_
  refine T_val (Ev_assign rfl) rfl ?_
  refine T_nil ?_
  refine T_next ?_
  refine T_retc ?_
  obtain rfl := Option.some.inj hx
  exact T_retP (rs := [.tmp 4]) Try.results57 (.tmp rfl (.nil)) (Ln := []) ⟨rfl, rfl, trivial⟩ (loNil) (by exact .drop 0 rfl (.drop 0 rfl (.refl)))
set_option maxRecDepth 100000 in
theorem lidarref07_ids_ok (p0 : List S_api_Point) {K : List Ent} {A0_0 : Option Addr} {c0_0 : Nat} (ha0 : Has K A0_0 (p0).length c0_0 9 e_api_Point (p0)) {r : List Int} (hx : lidarref07_ids p0 = some r) (w : World) (hK : ∀ e ∈ K, Ent.ok w e) : CtL Try.prog 38 [.slice (A0_0) ((p0).length) (c0_0)] w fun v Ln => ∃ (A0 : Option Addr) (c0 : Nat), v = .slice (A0) ((r).length) (c0) ∧ Ln = [.r A0 (r).length c0 3 1 ((r).flatMap e_i64)] ∧ True := by
  have ha0' := Has.up0 ha0
  refine CtL.mk 47 Try.func38 rfl Try.ntmps38 (by kernel_rfl) rfl ?_
  show T 47 _ [(0, .slice (A0_0) ((p0).length) (c0_0))] _
  unfold lidarref07_ids at hx
  refine T_seq ?_
  refine T_reg ?_
  refine T_val (Ev_assign rfl) rfl ?_
  refine T_nil ?_
  refine T_next ?_
  refine T_seq ?_
  refine T_reg ?_
  refine T_val (Ev_assign rfl) rfl ?_
  refine T_nil ?_
  refine T_next ?_
  obtain ⟨j3, hj3, hx⟩ := jn_some hx
  refine T_cutP (τ := List Int) (γ := (Option Addr) × Nat) (J := j3) (out := r) (fun s3 y3 => [(3, .slice (y3.1) ((s3).length) (y3.2))]) (fun s3 y3 => [.r (y3.1) ((s3).length) (y3.2) 3 1 ((s3).flatMap e_i64)] ++ [.old w]) (fun s3 y3 => True) ?_ ?_
  · intro s3 y3 hx207 hG208
    subst hj3
    refine T_seq ?_
    refine T_reg ?_
    refine T_val (Ev_move rfl) rfl ?_
    refine T_val (Ev_assign rfl) rfl ?_
    refine T_nil ?_
    refine T_next ?_
    refine T_retc ?_
    obtain rfl := Option.some.inj hx207
    exact T_retP (rs := [.tmp 2]) Try.results38 (.tmp rfl (.nil)) (Ln := [.r (y3.1) ((s3).length) (y3.2) 3 1 ((s3).flatMap e_i64)]) ⟨y3.1, y3.2, rfl, rfl, trivial⟩ (loCons rfl (loNil)) (by exact .pick 0 rfl (.refl))
  · skip
    refine T_seq ?_
    refine T_reg ?_
    refine T_val (Ev_assign rfl) rfl ?_
    refine T_nil ?_
    refine T_next ?_
    refine T_block ?_
    obtain ⟨t104, hl104, ho104⟩ := bnd_some hx
    refine T_none 3 1 ?_
    have hn105 : 0 = (([] : List Int)).length := by simp [setI_len, cpy_len, List.length_append] <;> omega
    refine T_ent (.here) (e' := .r (none) ((([] : List Int)).length) (0) 3 1 ((([] : List Int)).flatMap e_i64)) (by first | (rw [← hn105]; done) | rfl) ?_
    refine T_loopP (σ := (List Int) × Int) (γ := (Option Addr) × Nat) hl104 (fun s104 y104 => [(0, .slice (A0_0) ((p0).length) (c0_0)), (3, .slice (y104.1) ((s104.1).length) (y104.2)), (4, .int .i64 (s104.2))]) (fun s104 y104 => [.r (y104.1) ((s104.1).length) (y104.2) 3 1 ((s104.1).flatMap e_i64)] ++ [.old w]) (fun s104 y104 => True) (none, 0) trivial (by exact .cons rfl (.cons rfl (.cons rfl (.nil)))) (by exact .pick 0 rfl (.refl)) ?_
    intro s104 y104 hG104 x104 hx104 ht104
    unfold lidarref07_ids_l3 at hx104
    refine T_seq ?_
    refine T_seq ?_
    refine T_reg ?_
    refine T_val (Ev_move rfl) rfl ?_
    refine T_val (Ev_move rfl) rfl ?_
    refine T_val (Ev_len rfl 53 Try.underlying31) rfl ?_
    refine T_val (Ev_lss rfl rfl) rfl ?_
    refine T_nil ?_
    refine T_next ?_
    refine T_caseP (s := 9) rfl (fun h106 => ?_) (fun h106 => ?_)
    · have hx107 := ite_t h106 hx104
      refine T_condT rfl ?_
      refine T_skip ?_
      refine T_next ?_
      refine T_seq ?_
      refine T_block ?_
      refine T_seq ?_
      refine T_reg ?_
      refine T_val (Ev_move rfl) rfl ?_
      refine T_val (Ev_len rfl 3 Try.underlying35) rfl ?_
      refine T_val (Ev_assign rfl) rfl ?_
      refine T_nil ?_
      refine T_next ?_
      obtain ⟨j18, hj18, hx107⟩ := jn_some hx107
      refine T_cutP (τ := Int) (γ := Unit) (J := j18) (out := x104) (fun s18 y18 => [(0, .slice (A0_0) ((p0).length) (c0_0)), (3, .slice (y104.1) ((s104.1).length) (y104.2)), (4, .int .i64 (s104.2)), (5, .int .i64 (s18))]) (fun s18 y18 => [.r (y104.1) ((s104.1).length) (y104.2) 3 1 ((s104.1).flatMap e_i64)] ++ [.old w]) (fun s18 y18 => True) ?_ ?_
      · intro s18 y18 hx171 hG172
        subst hj18
        refine T_draw [0, 0, 0, 0, 0, 0, 0, 0, 1, 2, 0, 0, 0, 3, 3, 2] [[], [], [], [0, 1, 2], [], [], [4, 5], [4, 5, 6], [4, 5, 6, 7], [4, 5, 6, 7, 8], [], [], [10, 11], [4, 5, 6, 7, 8, 9, 10, 11, 12], [0, 1, 2, 3, 4, 5, 6, 7, 8, 9, 10, 11, 12, 13], [0, 1, 2, 3, 4, 5, 6, 7, 8, 9, 10, 11, 12, 13, 14]] (.q 0 (.q 1 (.q 2 (.q 3 (.q 4 (.q 5 (.q 6 (.q 7 (.q 8 (.q 10 (.q 11 (.q 12 (.e 9 (.e 13 (.e 14 (.e 15 (.done) (.stop)) (.stop)) (.stop)) (.stop)))))))))))))) mixed (by kernel_rfl) (by kernel_rfl) ?_
        refine P_p rfl rfl (Ev_move rfl) rfl ?_
        refine P_p rfl rfl (Ev_move rfl) rfl ?_
        refine P_p rfl rfl (Ev_move rfl) rfl ?_
        refine T_rowP (k := 0) rfl (by decide) (fun _ => rfl) (fun hn173 hs174 => ?_)
        obtain ⟨h176, hx177⟩ := gd_some hx171
        have hs175 := Has.subHM hs174 h176.1 h176.2
        refine P_p rfl rfl (Ev_subHM rfl rfl rfl slc35 h176.1 (by have := Has.nc hs174; omega)) rfl ?_
        refine P_p rfl rfl (Ev_move rfl) rfl ?_
        refine P_p rfl rfl (Ev_move rfl) rfl ?_
        obtain ⟨x178, h179, hx180⟩ := bnd_some hx177
        have hw188 := Has.low (E := []) ha0' hK
        obtain ⟨b181, o182, j183, hA184, hj185, hl186, hp187⟩ := Has.at_idx hw188 h179
        refine P_p rfl rfl (Ev_index rfl rfl hA184 (j := j183) hj185 hl186 slc31) rfl ?_
        refine P_p rfl rfl (Ev_field rfl fld53_0 rfl) rfl ?_
        refine P_q rfl rfl (Ev_loadP1 (d := 0) rfl hp187 (SubE.cons2 (i := 1) rfl (SubE.nil)) rfl one3) rfl ?_
        refine P_p rfl rfl (Ev_move rfl) rfl ?_
        refine P_p rfl rfl (Ev_move rfl) rfl ?_
        refine T_rowP (k := 0) rfl (by decide) (fun _ => rfl) (fun hn189 hs190 => ?_)
        obtain ⟨h192, hx193⟩ := gd_some hx180
        have hs191 := Has.subL hs190 h192.1 h192.2
        refine P_p rfl rfl (Ev_subL rfl rfl slc35 h192.1 h192.2) rfl ?_
        refine P_x rfl (Wx_buildSlice rfl (bls35_1_0i64 _) rfl (fun g194 => ?_)) ?_
        rotate_left; exact P_stop
        refine T_mr (enc := e_i64) (sz := 1) ([x178.Id]) (.here) rfl rfl (fun _ => rfl) (by show 1 ≤ maxLen; decide) ?_
        obtain ⟨h195, hx196⟩ := gd_some hx193
        refine P_h rfl rfl (Wh_appendH e_i64 ([x178.Id]) (subl s104.1 s18 (((s104.1).length : Nat) : Int)) rfl rfl elm35 (fun _ => rfl) hs191 (SubE.cons2 (i := 1) rfl (SubE.nil)) (fun _ => rfl) h195 rfl (fun _ _ => .here) (by decide) (fun A197 c198 => ?_)) ?_
        rotate_left; exact P_stop
        refine T_rowP (k := 0) rfl (by decide) (fun _ => rfl) (fun hn199 hs200 => ?_)
        obtain ⟨h201, hx202⟩ := gd_some hx196
        obtain ⟨h203, hx204⟩ := gd_some hx202
        refine P_h rfl rfl (Wh_appendF e_i64 (subl s104.1 0 s18) (([x178.Id]) ++ (subl s104.1 s18 (((s104.1).length : Nat) : Int))) rfl rfl elm35 (fun _ => rfl) (Has.up (L := ([.r (y104.1) ((s104.1).length) (y104.2) 3 1 ((s104.1).flatMap e_i64), .r (A197) ((([x178.Id]) ++ (subl s104.1 s18 (((s104.1).length : Nat) : Int))).length) (c198) 3 1 ((([x178.Id]) ++ (subl s104.1 s18 (((s104.1).length : Nat) : Int))).flatMap e_i64)] : List Ent)) hs175 (SubE.cons2 (i := 0) rfl (SubE.nil))) (Has.up (L := ([.r (y104.1) ((s104.1).length) (y104.2) 3 1 ((s104.1).flatMap e_i64), .r (A197) ((([x178.Id]) ++ (subl s104.1 s18 (((s104.1).length : Nat) : Int))).length) (c198) 3 1 ((([x178.Id]) ++ (subl s104.1 s18 (((s104.1).length : Nat) : Int))).flatMap e_i64)] : List Ent)) hs200 (SubE.cons2 (i := 1) rfl (SubE.nil))) (SubE.cons2 (i := 1) rfl (SubE.cons2 (i := 0) rfl (SubE.nil))) (List.length_pos_iff.1 h203) h201 rfl (by decide) (fun A205 c206 => ?_)) ?_
        rotate_left; exact P_stop
        refine P_x rfl (Wx_val (Ev_assign rfl) rfl ?_) ?_
        rotate_left; exact P_stop
        refine P_done ?_
        refine T_inN ?_
        refine T_next ?_
        refine T_reg ?_
        refine T_val (Ev_move rfl) rfl ?_
        refine T_val (Ev_add_w64 rfl rfl) rfl ?_
        refine T_val (Ev_assign rfl) rfl ?_
        refine T_nil ?_
        exact T_roundP ((subl s104.1 0 s18) ++ (([x178.Id]) ++ (subl s104.1 s18 (((s104.1).length : Nat) : Int))), w64 (s104.2 + 1)) (A205, c206) hx204 trivial (by exact .cons rfl (.cons rfl (.cons rfl (.nil)))) (by exact .pick 0 rfl (.drop 0 rfl (.drop 0 rfl (.refl))))
      · skip
        refine T_block ?_
        obtain ⟨t140, hl140, ho140⟩ := bnd_some hx107
        refine T_loopP (σ := Int) (γ := Unit) hl140 (fun s140 y140 => [(0, .slice (A0_0) ((p0).length) (c0_0)), (3, .slice (y104.1) ((s104.1).length) (y104.2)), (4, .int .i64 (s104.2)), (5, .int .i64 (s140))]) (fun s140 y140 => [.r (y104.1) ((s104.1).length) (y104.2) 3 1 ((s104.1).flatMap e_i64)] ++ [.old w]) (fun s140 y140 => True) () trivial (by exact .cons rfl (.cons rfl (.cons rfl (.cons rfl (.nil))))) (by exact .pick 0 rfl (.refl)) ?_
        intro s140 y140 hG140 x140 hx140 ht140
        unfold lidarref07_ids_l6 at hx140
        refine T_seq ?_
        obtain ⟨j22, hj22, hx140⟩ := jn_some hx140
        refine T_cutP (τ := Bool) (γ := Unit) (J := j22) (out := x140) (fun s22 y22 => [(0, .slice (A0_0) ((p0).length) (c0_0)), (3, .slice (y104.1) ((s104.1).length) (y104.2)), (4, .int .i64 (s104.2)), (5, .int .i64 (s140)), (28, .bool (s22))]) (fun s22 y22 => [.r (y104.1) ((s104.1).length) (y104.2) 3 1 ((s104.1).flatMap e_i64)] ++ [.old w]) (fun s22 y22 => True) ?_ ?_
        · intro s22 y22 hx166 hG167
          subst hj22
          refine T_caseB (s := 28) rfl (fun h168 => ?_) (fun h168 => ?_)
          · have hx169 := ite_t h168 hx166
            refine T_condT rfl ?_
            refine T_skip ?_
            refine T_next ?_
            refine T_block ?_
            refine T_reg ?_
            refine T_val (Ev_move rfl) rfl ?_
            refine T_val (Ev_sub_w64 rfl rfl) rfl ?_
            refine T_val (Ev_assign rfl) rfl ?_
            refine T_nil ?_
            refine T_inN ?_
            exact T_roundP (w64 (s140 - 1)) () hx169 trivial (by exact .cons rfl (.cons rfl (.cons rfl (.cons rfl (.nil))))) (by exact .pick 0 rfl (.refl))
          · have hx170 := ite_bf h168 hx166
            refine T_condF rfl ?_
            refine T_exit ?_
            refine T_outX ?_
            obtain rfl := exit_eq ht140 hx170
            refine T_outX ?_
            refine T_here ?_
            exact T_metP s140 () ho140 trivial (by exact .cons rfl (.cons rfl (.cons rfl (.cons rfl (.nil))))) (by exact .pick 0 rfl (.refl))
        · skip
          refine T_draw [0, 0, 0, 0, 0, 0, 0, 1, 0, 0, 0, 0, 1, 0, 0] [[], [0], [0, 1], [0, 1, 2], [0, 1, 2], [0, 1, 2, 4], [0, 1, 2, 3, 4, 5], [0, 1, 2, 3, 4, 5, 6], [0, 1, 2], [0, 1, 2], [0, 1, 2, 8, 9], [0, 1, 2, 8, 9, 10], [0, 1, 2, 8, 9, 10, 11], [0, 1, 2, 3, 4, 5, 6, 7, 8, 9, 10, 11, 12], [0, 1, 2, 3, 4, 5, 6, 7, 8, 9, 10, 11, 12, 13]] (.q 0 (.q 1 (.q 2 (.q 3 (.q 4 (.q 5 (.q 6 (.q 7 (.q 8 (.q 9 (.q 10 (.q 11 (.q 12 (.q 13 (.q 14 (.done)))))))))))))))) mixed (by kernel_rfl) (by kernel_rfl) ?_
          refine P_p rfl rfl (Ev_move rfl) rfl ?_
          refine P_p rfl rfl (Ev_gtr rfl rfl) rfl ?_
          refine P_p rfl rfl (Ev_move rfl) rfl ?_
          refine T_caseP (s := 16) rfl (fun h141 => ?_) (fun h141 => ?_)
          · have hx142 := ite_t h141 hx140
            refine P_pG rfl rfl rfl rfl rfl (Ev_move rfl) rfl ?_
            refine P_pG rfl rfl rfl rfl rfl (Ev_move rfl) rfl ?_
            refine P_pG rfl rfl rfl rfl rfl (Ev_sub_w64 rfl rfl) rfl ?_
            obtain ⟨x143, h144, hx145⟩ := bnd_some hx142
            refine T_idxR (k := 0) rfl (by decide) (fun _ => rfl) h144 (fun b146 j148 hA149 hj150 hl151 hm153 hp152 => ?_)
            refine P_pG rfl rfl rfl rfl rfl (Ev_index rfl rfl hA149 (j := j148) hj150 hl151 slc35) rfl ?_
            refine P_qG rfl rfl rfl rfl rfl (Ev_loadP0 rfl hp152 (SubE.cons2 (i := 0) rfl (SubE.nil)) rfl one3) rfl ?_
            refine P_pG rfl rfl rfl rfl rfl (Ev_move rfl) rfl ?_
            refine P_pG rfl rfl rfl rfl rfl (Ev_move rfl) rfl ?_
            obtain ⟨x154, h155, hx156⟩ := bnd_some hx145
            have hw164 := Has.low (E := []) ha0' hK
            obtain ⟨b157, o158, j159, hA160, hj161, hl162, hp163⟩ := Has.at_idx hw164 h155
            refine P_pG rfl rfl rfl rfl rfl (Ev_index rfl rfl hA160 (j := j159) hj161 hl162 slc31) rfl ?_
            refine P_pG rfl rfl rfl rfl rfl (Ev_field rfl fld53_0 rfl) rfl ?_
            refine P_qG rfl rfl rfl rfl rfl (Ev_loadP1 (d := 0) rfl hp163 (SubE.cons2 (i := 1) rfl (SubE.nil)) rfl one3) rfl ?_
            refine P_pG rfl rfl rfl rfl rfl (Ev_gtr rfl rfl) rfl ?_
            refine P_p rfl rfl (Ev_pickT rfl rfl) rfl ?_
            refine P_done ?_
            exact T_metP (decide (x154.Id < x143)) () hx156 trivial (by exact .cons rfl (.cons rfl (.cons rfl (.cons rfl (.cons rfl (.nil)))))) (by exact .pick 0 rfl (.refl))
          · have hx165 := ite_f h141 hx140
            refine P_skip rfl rfl rfl rfl rfl rfl ?_
            refine P_skip rfl rfl rfl rfl rfl rfl ?_
            refine P_skip rfl rfl rfl rfl rfl rfl ?_
            refine P_skip rfl rfl rfl rfl rfl rfl ?_
            refine P_skip rfl rfl rfl rfl rfl rfl ?_
            refine P_skip rfl rfl rfl rfl rfl rfl ?_
            refine P_skip rfl rfl rfl rfl rfl rfl ?_
            refine P_skip rfl rfl rfl rfl rfl rfl ?_
            refine P_skip rfl rfl rfl rfl rfl rfl ?_
            refine P_skip rfl rfl rfl rfl rfl rfl ?_
            refine P_skip rfl rfl rfl rfl rfl rfl ?_
            refine P_p rfl rfl (Ev_pickF rfl rfl) rfl ?_
            refine P_done ?_
            exact T_metP false () hx165 trivial (by exact .cons rfl (.cons rfl (.cons rfl (.cons rfl (.cons rfl (.nil)))))) (by exact .pick 0 rfl (.refl))
    · have hx108 := ite_f h106 hx104
      refine T_condF rfl ?_
      refine T_exit ?_
      refine T_outX ?_
      obtain rfl := exit_eq ht104 hx108
      refine T_outX ?_
      refine T_here ?_
      exact T_metP s104.1 (y104.1, y104.2) ho104 trivial (by exact .cons rfl (.nil)) (by exact .pick 0 rfl (.refl))
set_option maxRecDepth 100000 in
theorem lidarref07_sunk_ok (p0 : List S_api_Point) (p1 : S_api_Point) (p2 : S_api_Terrain) {K : List Ent} {A0_0 : Option Addr} {c0_0 : Nat} (ha0 : Has K A0_0 (p0).length c0_0 9 e_api_Point (p0)) {r : Bool} (hx : lidarref07_sunk p0 p1 p2 = some r) (w : World) (hK : ∀ e ∈ K, Ent.ok w e) : CtL Try.prog 37 [.slice (A0_0) ((p0).length) (c0_0), .agg #[.int .i64 (p1.Id), .int .i64 (p1.X), .int .i64 (p1.Y), .int .i64 (p1.Z.Lo), .int .i64 (p1.Z.Hi), .int .i64 (p1.Wide), .int .i64 (p1.Num), .int .i64 (p1.Of), .int .i64 (p1.Class)], .agg #[.int .i64 (p2.Cell), .int .i64 (p2.Reach), .int .i64 (p2.Slope), .int .i64 (p2.Link), .int .i64 (p2.Flat), .int .i64 (p2.Tall), .int .i64 (p2.High), .int .i64 (p2.Low), .int .i64 (p2.Brush), .int .i64 (p2.Few)]] w fun v Ln => v = .bool (r) ∧ Ln = [] ∧ True := by
  have ha0' := Has.up0 ha0
  refine CtL.mk 51 Try.func37 rfl Try.ntmps37 (by kernel_rfl) rfl ?_
  show T 51 _ [(0, .slice (A0_0) ((p0).length) (c0_0)), (1, .agg #[.int .i64 (p1.Id), .int .i64 (p1.X), .int .i64 (p1.Y), .int .i64 (p1.Z.Lo), .int .i64 (p1.Z.Hi), .int .i64 (p1.Wide), .int .i64 (p1.Num), .int .i64 (p1.Of), .int .i64 (p1.Class)]), (2, .agg #[.int .i64 (p2.Cell), .int .i64 (p2.Reach), .int .i64 (p2.Slope), .int .i64 (p2.Link), .int .i64 (p2.Flat), .int .i64 (p2.Tall), .int .i64 (p2.High), .int .i64 (p2.Low), .int .i64 (p2.Brush), .int .i64 (p2.Few)])] _
  unfold lidarref07_sunk at hx
  refine T_seq ?_
  refine T_reg ?_
  refine T_x (Wx_box rfl rfl rfl (fun g1 => ?_))
  refine T_x (Wx_box rfl rfl rfl (fun g2 => ?_))
  refine T_val (Ev_assign rfl) rfl ?_
  refine T_nil ?_
  refine T_next ?_
  refine T_seq ?_
  refine T_reg ?_
  refine T_val (Ev_assign rfl) rfl ?_
  refine T_nil ?_
  refine T_next ?_
  obtain ⟨j3, hj3, hx⟩ := jn_some hx
  refine T_cutP (τ := Bool) (γ := Unit) (J := j3) (out := r) (fun s3 y3 => [(7, .bool (s3))]) (fun s3 y3 => [] ++ [.old w]) (fun s3 y3 => True) ?_ ?_
  · intro s3 y3 hx109 hG110
    subst hj3
    refine T_seq ?_
    refine T_reg ?_
    refine T_val (Ev_move rfl) rfl ?_
    refine T_val (Ev_assign rfl) rfl ?_
    refine T_nil ?_
    refine T_next ?_
    refine T_retc ?_
    obtain rfl := Option.some.inj hx109
    exact T_retP (rs := [.tmp 6]) Try.results37 (.tmp rfl (.nil)) (Ln := []) ⟨rfl, rfl, trivial⟩ (loNil) (by exact .refl)
  · skip
    refine T_seq ?_
    refine T_reg ?_
    refine T_val (Ev_assign rfl) rfl ?_
    refine T_nil ?_
    refine T_next ?_
    refine T_block ?_
    obtain ⟨t56, hl56, ho56⟩ := bnd_some hx
    refine T_loopP (σ := Bool × Int) (γ := Unit) hl56 (fun s56 y56 => [(0, .slice (A0_0) ((p0).length) (c0_0)), (4, .pointer (some ⟨g1, 0, none⟩)), (5, .pointer (some ⟨g2, 0, none⟩)), (7, .bool (s56.1)), (8, .int .i64 (s56.2))]) (fun s56 y56 => [.m g2 33 [.int .i64 (p2.Cell), .int .i64 (p2.Reach), .int .i64 (p2.Slope), .int .i64 (p2.Link), .int .i64 (p2.Flat), .int .i64 (p2.Tall), .int .i64 (p2.High), .int .i64 (p2.Low), .int .i64 (p2.Brush), .int .i64 (p2.Few)], .m g1 53 [.int .i64 (p1.Id), .int .i64 (p1.X), .int .i64 (p1.Y), .int .i64 (p1.Z.Lo), .int .i64 (p1.Z.Hi), .int .i64 (p1.Wide), .int .i64 (p1.Num), .int .i64 (p1.Of), .int .i64 (p1.Class)]] ++ [.old w]) (fun s56 y56 => True) () trivial (by exact .cons rfl (.cons rfl (.cons rfl (.cons rfl (.cons rfl (.nil)))))) (by exact .pick 0 rfl (.pick 0 rfl (.refl))) ?_
    intro s56 y56 hG56 x56 hx56 ht56
    unfold lidarref07_sunk_l3 at hx56
    refine T_seq ?_
    refine T_seq ?_
    refine T_reg ?_
    refine T_val (Ev_move rfl) rfl ?_
    refine T_val (Ev_move rfl) rfl ?_
    refine T_val (Ev_len rfl 53 Try.underlying31) rfl ?_
    refine T_val (Ev_lss rfl rfl) rfl ?_
    refine T_nil ?_
    refine T_next ?_
    refine T_caseP (s := 12) rfl (fun h57 => ?_) (fun h57 => ?_)
    · have hx58 := ite_t h57 hx56
      refine T_condT rfl ?_
      refine T_skip ?_
      refine T_next ?_
      obtain ⟨j15, hj15, hx58⟩ := jn_some hx58
      refine T_cutP (τ := Bool) (γ := Unit) (J := j15) (out := x56) (fun s15 y15 => [(0, .slice (A0_0) ((p0).length) (c0_0)), (4, .pointer (some ⟨g1, 0, none⟩)), (5, .pointer (some ⟨g2, 0, none⟩)), (7, .bool (s15)), (8, .int .i64 (s56.2))]) (fun s15 y15 => [.m g2 33 [.int .i64 (p2.Cell), .int .i64 (p2.Reach), .int .i64 (p2.Slope), .int .i64 (p2.Link), .int .i64 (p2.Flat), .int .i64 (p2.Tall), .int .i64 (p2.High), .int .i64 (p2.Low), .int .i64 (p2.Brush), .int .i64 (p2.Few)], .m g1 53 [.int .i64 (p1.Id), .int .i64 (p1.X), .int .i64 (p1.Y), .int .i64 (p1.Z.Lo), .int .i64 (p1.Z.Hi), .int .i64 (p1.Wide), .int .i64 (p1.Num), .int .i64 (p1.Of), .int .i64 (p1.Class)]] ++ [.old w]) (fun s15 y15 => True) ?_ ?_
      · intro s15 y15 hx107 hG108
        subst hj15
        refine T_reg ?_
        refine T_val (Ev_move rfl) rfl ?_
        refine T_val (Ev_add_w64 rfl rfl) rfl ?_
        refine T_val (Ev_assign rfl) rfl ?_
        refine T_nil ?_
        exact T_roundP (s15, w64 (s56.2 + 1)) () hx107 trivial (by exact .cons rfl (.cons rfl (.cons rfl (.cons rfl (.cons rfl (.nil)))))) (by exact .pick 0 rfl (.pick 0 rfl (.refl)))
      · skip
        refine T_block ?_
        refine T_seq ?_
        obtain ⟨j17, hj17, hx58⟩ := jn_some hx58
        refine T_cutP (τ := Bool) (γ := Unit) (J := j17) (out := x56) (fun s17 y17 => [(0, .slice (A0_0) ((p0).length) (c0_0)), (4, .pointer (some ⟨g1, 0, none⟩)), (5, .pointer (some ⟨g2, 0, none⟩)), (7, .bool (s56.1)), (8, .int .i64 (s56.2)), (36, .bool (s17))]) (fun s17 y17 => [.m g2 33 [.int .i64 (p2.Cell), .int .i64 (p2.Reach), .int .i64 (p2.Slope), .int .i64 (p2.Link), .int .i64 (p2.Flat), .int .i64 (p2.Tall), .int .i64 (p2.High), .int .i64 (p2.Low), .int .i64 (p2.Brush), .int .i64 (p2.Few)], .m g1 53 [.int .i64 (p1.Id), .int .i64 (p1.X), .int .i64 (p1.Y), .int .i64 (p1.Z.Lo), .int .i64 (p1.Z.Hi), .int .i64 (p1.Wide), .int .i64 (p1.Num), .int .i64 (p1.Of), .int .i64 (p1.Class)]] ++ [.old w]) (fun s17 y17 => True) ?_ ?_
        · intro s17 y17 hx88 hG89
          subst hj17
          refine T_caseB (s := 36) rfl (fun h90 => ?_) (fun h90 => ?_)
          · have hx91 := ite_t h90 hx88
            refine T_condT rfl ?_
            refine T_exit ?_
            refine T_outX ?_
            refine T_here ?_
            exact T_metP s56.1 () hx91 trivial (by exact .cons rfl (.cons rfl (.cons rfl (.cons rfl (.cons rfl (.nil)))))) (by exact .pick 0 rfl (.pick 0 rfl (.refl)))
          · have hx92 := ite_bf h90 hx88
            refine T_condF rfl ?_
            refine T_skip ?_
            refine T_next ?_
            refine T_seq ?_
            refine T_seq ?_
            refine T_draw [0, 0, 0, 0, 0, 1, 0, 0, 1, 0, 0, 1, 0] [[], [], [0, 1], [0, 1, 2], [0, 1, 2, 3], [0, 1, 2, 3, 4], [], [6], [6, 7], [0, 1, 2, 3, 4, 5, 6, 7, 8], [], [10], [0, 1, 2, 3, 4, 5, 6, 7, 8, 9, 10, 11]] (.q 0 (.q 1 (.q 2 (.q 3 (.q 4 (.q 5 (.q 6 (.q 7 (.q 8 (.q 9 (.q 10 (.q 11 (.q 12 (.done)))))))))))))) mixed (by kernel_rfl) (by kernel_rfl) ?_
            refine P_p rfl rfl (Ev_move rfl) rfl ?_
            refine P_p rfl rfl (Ev_move rfl) rfl ?_
            obtain ⟨x93, h94, hx95⟩ := bnd_some hx92
            have hw103 := Has.low (E := []) ha0' hK
            obtain ⟨b96, o97, j98, hA99, hj100, hl101, hp102⟩ := Has.at_idx hw103 h94
            refine P_p rfl rfl (Ev_index rfl rfl hA99 (j := j98) hj100 hl101 slc31) rfl ?_
            refine P_p rfl rfl (Ev_field rfl fld53_3 rfl) rfl ?_
            refine P_p rfl rfl (Ev_field rfl fld51_0 rfl) rfl ?_
            refine P_q rfl rfl (Ev_loadP1 (d := 3) rfl hp102 (SubE.cons2 (i := 2) rfl (SubE.nil)) rfl one3) rfl ?_
            refine P_p rfl rfl (Ev_field rfl fld53_3 rfl) rfl ?_
            refine P_p rfl rfl (Ev_field rfl fld51_1 rfl) rfl ?_
            refine P_q rfl rfl (Ev_load1 rfl (i := 1) rfl rfl one3) rfl ?_
            refine P_p rfl rfl (Ev_sub_w64 rfl rfl) rfl ?_
            refine P_p rfl rfl (Ev_field rfl fld33_7 rfl) rfl ?_
            refine P_q rfl rfl (Ev_load1 rfl (i := 0) rfl rfl one3) rfl ?_
            refine P_p rfl rfl (Ev_leq rfl rfl) rfl ?_
            refine P_done ?_
            refine T_next ?_
            refine T_caseP (s := 49) rfl (fun h104 => ?_) (fun h104 => ?_)
            · have hx105 := ite_t h104 hx95
              refine T_condT rfl ?_
              refine T_seq ?_
              refine T_reg ?_
              refine T_val (Ev_assign rfl) rfl ?_
              refine T_nil ?_
              refine T_next ?_
              refine T_retc ?_
              refine T_outR ?_
              refine T_inR ?_
              refine T_outR ?_
              obtain rfl := exit_eq ht56 hx105
              refine T_outR ?_
              refine T_inR ?_
              refine T_outR ?_
              obtain rfl := Option.some.inj ho56
              exact T_retP (rs := [.tmp 6]) Try.results37 (.tmp rfl (.nil)) (Ln := []) ⟨rfl, rfl, trivial⟩ (loNil) (by exact .drop 0 rfl (.drop 0 rfl (.refl)))
            · have hx106 := ite_f h104 hx95
              refine T_condF rfl ?_
              refine T_skip ?_
              refine T_next ?_
              refine T_reg ?_
              refine T_val (Ev_assign rfl) rfl ?_
              refine T_nil ?_
              refine T_inN ?_
              exact T_metP true () hx106 trivial (by exact .cons rfl (.cons rfl (.cons rfl (.cons rfl (.cons rfl (.nil)))))) (by exact .pick 0 rfl (.pick 0 rfl (.refl)))
        · skip
          refine T_draw [0, 0, 0, 0, 1, 0, 1, 0, 0, 0, 0, 0, 1, 1, 2, 0, 1, 0, 1, 0, 0, 0] [[], [], [0, 1], [0, 1, 2], [0, 1, 2, 3], [], [5], [0, 1, 2, 3, 4, 5, 6], [0, 1, 2, 3, 4, 5, 6, 7], [0, 1, 2, 3, 4, 5, 6, 7, 8], [0, 1, 2, 3, 4, 5, 6, 7, 8], [0, 1, 2, 3, 4, 5, 6, 7, 8, 9, 10], [0, 1, 2, 3, 4, 5, 6, 7, 8, 9, 10, 11], [0, 1, 2, 3, 4, 5, 6, 7, 8], [0, 1, 2, 3, 4, 5, 6, 7, 8, 9, 10, 11, 12, 13], [0, 1, 2, 3, 4, 5, 6, 7, 8], [0, 1, 2, 3, 4, 5, 6, 7, 8, 15], [0, 1, 2, 3, 4, 5, 6, 7, 8], [0, 1, 2, 3, 4, 5, 6, 7, 8, 17], [0, 1, 2, 3, 4, 5, 6, 7, 8, 15, 16, 17, 18], [0, 1, 2, 3, 4, 5, 6, 7, 8, 9, 10, 11, 12, 13, 14, 15, 16, 17, 18, 19], [0, 1, 2, 3, 4, 5, 6, 7, 8, 9, 10, 11, 12, 13, 14, 15, 16, 17, 18, 19, 20]] (.q 0 (.q 1 (.q 2 (.q 3 (.q 4 (.q 5 (.q 6 (.q 7 (.q 8 (.q 9 (.q 10 (.q 11 (.q 12 (.q 13 (.q 15 (.q 16 (.q 17 (.q 18 (.q 19 (.e 14 (.q 20 (.q 21 (.done))) (.stop))))))))))))))))))))) mixed (by kernel_rfl) (by kernel_rfl) ?_
          refine P_p rfl rfl (Ev_move rfl) rfl ?_
          refine P_p rfl rfl (Ev_move rfl) rfl ?_
          obtain ⟨x60, h61, hx62⟩ := bnd_some hx58
          have hw70 := Has.low (E := []) ha0' hK
          obtain ⟨b63, o64, j65, hA66, hj67, hl68, hp69⟩ := Has.at_idx hw70 h61
          refine P_p rfl rfl (Ev_index rfl rfl hA66 (j := j65) hj67 hl68 slc31) rfl ?_
          refine P_p rfl rfl (Ev_field rfl fld53_0 rfl) rfl ?_
          refine P_q rfl rfl (Ev_loadP1 (d := 0) rfl hp69 (SubE.cons2 (i := 2) rfl (SubE.nil)) rfl one3) rfl ?_
          refine P_p rfl rfl (Ev_field rfl fld53_0 rfl) rfl ?_
          refine P_q rfl rfl (Ev_load1 rfl (i := 1) rfl rfl one3) rfl ?_
          refine P_p rfl rfl (Ev_eql rfl rfl) rfl ?_
          refine P_p rfl rfl (Ev_move rfl) rfl ?_
          refine T_caseP (s := 23) rfl (fun h71 => ?_) (fun h71 => ?_)
          · have hx72 := ite_t h71 hx62
            refine P_skip rfl rfl rfl rfl rfl rfl ?_
            refine P_skip rfl rfl rfl rfl rfl rfl ?_
            refine P_skip rfl rfl rfl rfl rfl rfl ?_
            refine P_skip rfl rfl rfl rfl rfl rfl ?_
            refine P_skip rfl rfl rfl rfl rfl rfl ?_
            refine P_skip rfl rfl rfl rfl rfl rfl ?_
            refine P_skip rfl rfl rfl rfl rfl rfl ?_
            refine P_skip rfl rfl rfl rfl rfl rfl ?_
            refine P_skip rfl rfl rfl rfl rfl rfl ?_
            refine P_skip rfl rfl rfl rfl rfl rfl ?_
            refine P_skipE rfl rfl rfl rfl rfl rfl ?_ ?_
            rotate_left; exact P_stop
            refine P_skip rfl rfl rfl rfl rfl rfl ?_
            refine P_p rfl rfl (Ev_pickT rfl rfl) rfl ?_
            refine P_done ?_
            exact T_metP true () hx72 trivial (by exact .cons rfl (.cons rfl (.cons rfl (.cons rfl (.cons rfl (.cons rfl (.nil))))))) (by exact .pick 0 rfl (.pick 0 rfl (.refl)))
          · have hx73 := ite_f h71 hx62
            refine P_pG rfl rfl rfl rfl rfl (Ev_move rfl) rfl ?_
            refine P_pG rfl rfl rfl rfl rfl (Ev_move rfl) rfl ?_
            obtain ⟨x74, h75, hx76⟩ := bnd_some hx73
            have hw84 := Has.low (E := []) ha0' hK
            obtain ⟨b77, o78, j79, hA80, hj81, hl82, hp83⟩ := Has.at_idx hw84 h75
            refine P_pG rfl rfl rfl rfl rfl (Ev_index rfl rfl hA80 (j := j79) hj81 hl82 slc31) rfl ?_
            refine P_qG rfl rfl rfl rfl rfl (Ev_loadPK0 rfl hp83 (SubE.cons2 (i := 2) rfl (SubE.nil)) rfl agg53) rfl ?_
            refine P_qG rfl rfl rfl rfl rfl (Ev_loadK rfl (i := 1) rfl rfl agg53) rfl ?_
            refine P_pG rfl rfl rfl rfl rfl (Ev_field rfl fld33_3 rfl) rfl ?_
            refine P_qG rfl rfl rfl rfl rfl (Ev_load1 rfl (i := 0) rfl rfl one3) rfl ?_
            refine P_pG rfl rfl rfl rfl rfl (Ev_field rfl fld33_3 rfl) rfl ?_
            refine P_qG rfl rfl rfl rfl rfl (Ev_load1 rfl (i := 0) rfl rfl one3) rfl ?_
            refine P_pG rfl rfl rfl rfl rfl (Ev_mul_w64 rfl rfl) rfl ?_
            obtain ⟨r85, h86, hx87⟩ := bnd_some hx76
            refine P_xG rfl rfl rfl rfl (Wx_callL rfl (fun w1 hw1 => lidarref07_apart_ok x74 p1  h86 w1) rfl ?_) ?_
            rotate_left; exact P_stop
            rintro _ _ hlo ⟨rfl, rfl, -⟩
            refine T_app0 ?_
            refine P_pG rfl rfl rfl rfl rfl (Ev_gtr rfl rfl) rfl ?_
            refine P_p rfl rfl (Ev_pickF rfl rfl) rfl ?_
            refine P_done ?_
            exact T_metP (decide ((w64 (p2.Link * p2.Link)) < r85)) () hx87 trivial (by exact .cons rfl (.cons rfl (.cons rfl (.cons rfl (.cons rfl (.cons rfl (.nil))))))) (by exact .pick 0 rfl (.pick 0 rfl (.refl)))
    · have hx59 := ite_f h57 hx56
      refine T_condF rfl ?_
      refine T_exit ?_
      refine T_outX ?_
      obtain rfl := exit_eq ht56 hx59
      refine T_outX ?_
      refine T_here ?_
      exact T_metP s56.1 () ho56 trivial (by exact .cons rfl (.nil)) (by exact .drop 0 rfl (.drop 0 rfl (.refl)))
set_option maxRecDepth 100000 in
theorem lidarref07_Sunk_ok (p0 : List S_api_Point) (p1 : S_api_Terrain) {K : List Ent} {A0_0 : Option Addr} {c0_0 : Nat} (ha0 : Has K A0_0 (p0).length c0_0 9 e_api_Point (p0)) {r : (List Int) × Int} (hx : lidarref07_Sunk p0 p1 = some r) (w : World) (hK : ∀ e ∈ K, Ent.ok w e) : CtL Try.prog 13 [.slice (A0_0) ((p0).length) (c0_0), .agg #[.int .i64 (p1.Cell), .int .i64 (p1.Reach), .int .i64 (p1.Slope), .int .i64 (p1.Link), .int .i64 (p1.Flat), .int .i64 (p1.Tall), .int .i64 (p1.High), .int .i64 (p1.Low), .int .i64 (p1.Brush), .int .i64 (p1.Few)]] w fun v Ln => ∃ (A0 : Option Addr) (c0 : Nat), v = .tuple #[.slice (A0) ((r.1).length) (c0), .int .i64 (r.2)] ∧ Ln = [.r A0 (r.1).length c0 3 1 ((r.1).flatMap e_i64)] ∧ True := by
  have ha0' := Has.up0 ha0
  refine CtL.mk 37 Try.func13 rfl Try.ntmps13 (by kernel_rfl) rfl ?_
  show T 37 _ [(0, .slice (A0_0) ((p0).length) (c0_0)), (1, .agg #[.int .i64 (p1.Cell), .int .i64 (p1.Reach), .int .i64 (p1.Slope), .int .i64 (p1.Link), .int .i64 (p1.Flat), .int .i64 (p1.Tall), .int .i64 (p1.High), .int .i64 (p1.Low), .int .i64 (p1.Brush), .int .i64 (p1.Few)])] _
  unfold lidarref07_Sunk at hx
  refine T_seq ?_
  refine T_reg ?_
  refine T_x (Wx_box rfl rfl rfl (fun g1 => ?_))
  refine T_val (Ev_assign rfl) rfl ?_
  refine T_val (Ev_assign rfl) rfl ?_
  refine T_nil ?_
  refine T_next ?_
  refine T_seq ?_
  refine T_seq ?_
  refine T_reg ?_
  refine T_val (Ev_move rfl) rfl ?_
  refine T_val (Ev_loadK rfl (i := 0) rfl rfl agg33) rfl ?_
  obtain ⟨r2, h3, hx4⟩ := bnd_some hx
  refine T_x (Wx_callL rfl (fun w1 hw1 => lidarref07_checked_ok p0 p1 (Has.len' ha0') h3 w1 (okApp (K := K) (K2 := []) hK (by exact (SubE.cons2 (i := 1) rfl (SubE.nil))) (by exact (SubE.nil)) hw1)) rfl ?_)
  rintro _ _ hlo ⟨rfl, rfl, -⟩
  refine T_app0 ?_
  refine T_val (Ev_assign rfl) rfl ?_
  refine T_nil ?_
  refine T_next ?_
  refine T_seq ?_
  refine T_reg ?_
  refine T_val (Ev_move rfl) rfl ?_
  refine T_val (Ev_neq rfl rfl) rfl ?_
  refine T_nil ?_
  refine T_next ?_
  refine T_caseNP (s := 13) rfl (fun h5 => ?_) (fun h5 => ?_)
  · have hx6 := ite_f h5 hx4
    refine T_condT rfl ?_
    refine T_seq ?_
    refine T_reg ?_
    refine T_val (Ev_move rfl) rfl ?_
    refine T_val (Ev_assign rfl) rfl ?_
    refine T_val (Ev_assign rfl) rfl ?_
    refine T_nil ?_
    refine T_next ?_
    refine T_retc ?_
    refine T_outR ?_
    refine T_none 3 1 ?_
    obtain rfl := Option.some.inj hx6
    exact T_retP (rs := [.tmp 4, .tmp 5]) Try.results13 (.tmp rfl (.tmp rfl (.nil))) (Ln := [.r (none) (0) (0) 3 1 ((([] : List Int)).flatMap e_i64)]) ⟨none, 0, rfl, rfl, trivial⟩ (loCons rfl (loNil)) (by exact .pick 0 rfl (.drop 0 rfl (.refl)))
  · have hx7 := ite_t h5 hx4
    refine T_condF rfl ?_
    refine T_skip ?_
    refine T_next ?_
    refine T_seq ?_
    refine T_reg ?_
    refine T_val (Ev_assign rfl) rfl ?_
    refine T_nil ?_
    refine T_next ?_
    obtain ⟨j7, hj7, hx7⟩ := jn_some hx7
    refine T_cutP (τ := List S_api_Point) (γ := (Option Addr) × Nat) (J := j7) (out := r) (fun s7 y7 => [(7, .slice (y7.1) ((s7).length) (y7.2))]) (fun s7 y7 => [.r (y7.1) ((s7).length) (y7.2) 53 9 ((s7).flatMap e_api_Point)] ++ [.old w]) (fun s7 y7 => True) ?_ ?_
    · intro s7 y7 hx88 hG89
      subst hj7
      refine T_seq ?_
      refine T_reg ?_
      refine T_val (Ev_move rfl) rfl ?_
      refine T_rowP (k := 0) rfl (by decide) (fun _ => rfl) (fun hn90 hs91 => ?_)
      obtain ⟨r92, h93, hx94⟩ := bnd_some hx88
      refine T_x (Wx_callL rfl (fun w1 hw1 => lidarref07_ids_ok s7 (Has.len' hs91) h93 w1 (okAll (K := ([.r (y7.1) ((s7).length) (y7.2) 53 9 ((s7).flatMap e_api_Point)] : List Ent)) (by exact (SubE.cons2 (i := 0) rfl (SubE.nil))) hw1)) rfl ?_)
      rintro _ _ hlo ⟨A95, c96, rfl, rfl, -⟩
      refine T_app1 ?_
      refine T_val (Ev_assign rfl) rfl ?_
      refine T_val (Ev_assign rfl) rfl ?_
      refine T_nil ?_
      refine T_next ?_
      refine T_retc ?_
      obtain rfl := Option.some.inj hx94
      exact T_retP (rs := [.tmp 4, .tmp 5]) Try.results13 (.tmp rfl (.tmp rfl (.nil))) (Ln := [.r (A95) ((r92).length) (c96) 3 1 ((r92).flatMap e_i64)]) ⟨A95, c96, rfl, rfl, trivial⟩ (loCons rfl (loNil)) (by exact .pick 0 rfl (.drop 0 rfl (.refl)))
    · skip
      refine T_seq ?_
      refine T_reg ?_
      refine T_val (Ev_assign rfl) rfl ?_
      refine T_nil ?_
      refine T_next ?_
      refine T_block ?_
      obtain ⟨t48, hl48, ho48⟩ := bnd_some hx7
      refine T_none 53 9 ?_
      have hn49 : 0 = (([] : List S_api_Point)).length := by simp [setI_len, cpy_len, List.length_append] <;> omega
      refine T_ent (.here) (e' := .r (none) ((([] : List S_api_Point)).length) (0) 53 9 ((([] : List S_api_Point)).flatMap e_api_Point)) (by first | (rw [← hn49]; done) | rfl) ?_
      refine T_loopP (σ := (List S_api_Point) × Int) (γ := (Option Addr) × Nat) hl48 (fun s48 y48 => [(0, .slice (A0_0) ((p0).length) (c0_0)), (3, .pointer (some ⟨g1, 0, none⟩)), (7, .slice (y48.1) ((s48.1).length) (y48.2)), (8, .int .i64 (s48.2))]) (fun s48 y48 => [.r (y48.1) ((s48.1).length) (y48.2) 53 9 ((s48.1).flatMap e_api_Point), .m g1 33 [.int .i64 (p1.Cell), .int .i64 (p1.Reach), .int .i64 (p1.Slope), .int .i64 (p1.Link), .int .i64 (p1.Flat), .int .i64 (p1.Tall), .int .i64 (p1.High), .int .i64 (p1.Low), .int .i64 (p1.Brush), .int .i64 (p1.Few)]] ++ [.old w]) (fun s48 y48 => True) (none, 0) trivial (by exact .cons rfl (.cons rfl (.cons rfl (.cons rfl (.nil))))) (by exact .pick 0 rfl (.pick 0 rfl (.refl))) ?_
      intro s48 y48 hG48 x48 hx48 ht48
      unfold lidarref07_Sunk_l6 at hx48
      refine T_seq ?_
      refine T_seq ?_
      refine T_reg ?_
      refine T_val (Ev_move rfl) rfl ?_
      refine T_val (Ev_move rfl) rfl ?_
      refine T_val (Ev_len rfl 53 Try.underlying31) rfl ?_
      refine T_val (Ev_lss rfl rfl) rfl ?_
      refine T_nil ?_
      refine T_next ?_
      refine T_caseP (s := 18) rfl (fun h50 => ?_) (fun h50 => ?_)
      · have hx51 := ite_t h50 hx48
        refine T_condT rfl ?_
        refine T_skip ?_
        refine T_next ?_
        obtain ⟨j15, hj15, hx51⟩ := jn_some hx51
        refine T_cutP (τ := List S_api_Point) (γ := (Option Addr) × Nat) (J := j15) (out := x48) (fun s15 y15 => [(0, .slice (A0_0) ((p0).length) (c0_0)), (3, .pointer (some ⟨g1, 0, none⟩)), (7, .slice (y15.1) ((s15).length) (y15.2)), (8, .int .i64 (s48.2))]) (fun s15 y15 => [.r (y15.1) ((s15).length) (y15.2) 53 9 ((s15).flatMap e_api_Point), .m g1 33 [.int .i64 (p1.Cell), .int .i64 (p1.Reach), .int .i64 (p1.Slope), .int .i64 (p1.Link), .int .i64 (p1.Flat), .int .i64 (p1.Tall), .int .i64 (p1.High), .int .i64 (p1.Low), .int .i64 (p1.Brush), .int .i64 (p1.Few)]] ++ [.old w]) (fun s15 y15 => True) ?_ ?_
        · intro s15 y15 hx86 hG87
          subst hj15
          refine T_reg ?_
          refine T_val (Ev_move rfl) rfl ?_
          refine T_val (Ev_add_w64 rfl rfl) rfl ?_
          refine T_val (Ev_assign rfl) rfl ?_
          refine T_nil ?_
          exact T_roundP (s15, w64 (s48.2 + 1)) (y15.1, y15.2) hx86 trivial (by exact .cons rfl (.cons rfl (.cons rfl (.cons rfl (.nil))))) (by exact .pick 0 rfl (.pick 0 rfl (.refl)))
        · skip
          refine T_block ?_
          refine T_seq ?_
          refine T_draw [0, 0, 0, 0, 1, 1, 2] [[], [], [], [1, 2], [1, 2, 3], [], [0, 1, 2, 3, 4, 5]] (.q 0 (.q 1 (.q 2 (.q 3 (.q 4 (.q 5 (.e 6 (.done) (.stop)))))))) mixed (by kernel_rfl) (by kernel_rfl) ?_
          refine P_p rfl rfl (Ev_move rfl) rfl ?_
          refine P_p rfl rfl (Ev_move rfl) rfl ?_
          refine P_p rfl rfl (Ev_move rfl) rfl ?_
          obtain ⟨x53, h54, hx55⟩ := bnd_some hx51
          have hw63 := Has.low (E := []) ha0' hK
          obtain ⟨b56, o57, j58, hA59, hj60, hl61, hp62⟩ := Has.at_idx hw63 h54
          refine P_p rfl rfl (Ev_index rfl rfl hA59 (j := j58) hj60 hl61 slc31) rfl ?_
          refine P_q rfl rfl (Ev_loadPK0 rfl hp62 (SubE.cons2 (i := 2) rfl (SubE.nil)) rfl agg53) rfl ?_
          refine P_q rfl rfl (Ev_loadK rfl (i := 1) rfl rfl agg33) rfl ?_
          obtain ⟨r64, h65, hx66⟩ := bnd_some hx55
          refine P_x rfl (Wx_callL rfl (fun w1 hw1 => lidarref07_sunk_ok p0 x53 p1 (Has.len' ha0') h65 w1 (okApp (K := K) (K2 := []) hK (by exact (SubE.cons2 (i := 2) rfl (SubE.nil))) (by exact (SubE.nil)) hw1)) rfl ?_) ?_
          rotate_left; exact P_stop
          rintro _ _ hlo ⟨rfl, rfl, -⟩
          refine T_app0 ?_
          refine P_done ?_
          refine T_next ?_
          refine T_caseB (s := 27) rfl (fun h67 => ?_) (fun h67 => ?_)
          · have hx68 := ite_t h67 hx66
            refine T_condT rfl ?_
            refine T_reg ?_
            refine T_val (Ev_move rfl) rfl ?_
            refine T_val (Ev_move rfl) rfl ?_
            refine T_val (Ev_move rfl) rfl ?_
            obtain ⟨x69, h70, hx71⟩ := bnd_some hx68
            have hw79 := Has.low (E := []) ha0' hK
            obtain ⟨b72, o73, j74, hA75, hj76, hl77, hp78⟩ := Has.at_idx hw79 h70
            refine T_val (Ev_index rfl rfl hA75 (j := j74) hj76 hl77 slc31) rfl ?_
            refine T_val (Ev_loadPK0 rfl hp78 (SubE.cons2 (i := 2) rfl (SubE.nil)) rfl agg53) rfl ?_
            refine T_x (Wx_buildSlice rfl (bls31_1_0ai64i64i64i64i64i64i64i64i64 _ _ _ _ _ _ _ _ _) rfl (fun g80 => ?_))
            obtain ⟨h81, hx82⟩ := gd_some hx71
            refine T_h (Wh_appendP e_api_Point (s48.1) [x69] rfl rfl rfl elm31 (fun _ => rfl) (i' := 0) rfl rfl rfl rfl h81 rfl (fun _ _ => .there (.here)) (fun _ _ => .drop .refl) (by decide) (fun A83 c84 => ?_))
            refine T_val (Ev_assign rfl) rfl ?_
            refine T_nil ?_
            refine T_inN ?_
            exact T_metP (s48.1 ++ [x69]) (A83, c84) hx82 trivial (by exact .cons rfl (.cons rfl (.cons rfl (.cons rfl (.nil))))) (by exact .pick 0 rfl (.pick 0 rfl (.refl)))
          · have hx85 := ite_bf h67 hx66
            refine T_condF rfl ?_
            refine T_skip ?_
            refine T_inN ?_
            exact T_metP s48.1 (y48.1, y48.2) hx85 trivial (by exact .cons rfl (.cons rfl (.cons rfl (.cons rfl (.nil))))) (by exact .pick 0 rfl (.pick 0 rfl (.refl)))
      · have hx52 := ite_f h50 hx48
        refine T_condF rfl ?_
        refine T_exit ?_
        refine T_outX ?_
        obtain rfl := exit_eq ht48 hx52
        refine T_outX ?_
        refine T_here ?_
        exact T_metP s48.1 (y48.1, y48.2) ho48 trivial (by exact .cons rfl (.nil)) (by exact .pick 0 rfl (.drop 0 rfl (.refl)))
set_option maxRecDepth 100000 in
theorem lidarref07_bottoms_ok (p0 : List S_api_Point) {K : List Ent} {A0_0 : Option Addr} {c0_0 : Nat} (ha0 : Has K A0_0 (p0).length c0_0 9 e_api_Point (p0)) {r : List S_api_Point} (hx : lidarref07_bottoms p0 = some r) (w : World) (hK : ∀ e ∈ K, Ent.ok w e) : CtL Try.prog 40 [.slice (A0_0) ((p0).length) (c0_0)] w fun v Ln => ∃ (A0 : Option Addr) (c0 : Nat), v = .slice (A0) ((r).length) (c0) ∧ Ln = [.r A0 (r).length c0 53 9 ((r).flatMap e_api_Point)] ∧ True := by
  have ha0' := Has.up0 ha0
  refine CtL.mk 53 Try.func40 rfl Try.ntmps40 (by kernel_rfl) rfl ?_
  show T 53 _ [(0, .slice (A0_0) ((p0).length) (c0_0))] _
  unfold lidarref07_bottoms at hx
  refine T_seq ?_
  refine T_reg ?_
  refine T_val (Ev_assign rfl) rfl ?_
  refine T_nil ?_
  refine T_next ?_
  refine T_seq ?_
  refine T_reg ?_
  refine T_val (Ev_assign rfl) rfl ?_
  refine T_nil ?_
  refine T_next ?_
  obtain ⟨j3, hj3, hx⟩ := jn_some hx
  refine T_cutP (τ := List S_api_Point) (γ := (Option Addr) × Nat) (J := j3) (out := r) (fun s3 y3 => [(3, .slice (y3.1) ((s3).length) (y3.2))]) (fun s3 y3 => [.r (y3.1) ((s3).length) (y3.2) 53 9 ((s3).flatMap e_api_Point)] ++ [.old w]) (fun s3 y3 => True) ?_ ?_
  · intro s3 y3 hx305 hG306
    subst hj3
    refine T_seq ?_
    refine T_reg ?_
    refine T_val (Ev_move rfl) rfl ?_
    refine T_val (Ev_assign rfl) rfl ?_
    refine T_nil ?_
    refine T_next ?_
    refine T_retc ?_
    obtain rfl := Option.some.inj hx305
    exact T_retP (rs := [.tmp 2]) Try.results40 (.tmp rfl (.nil)) (Ln := [.r (y3.1) ((s3).length) (y3.2) 53 9 ((s3).flatMap e_api_Point)]) ⟨y3.1, y3.2, rfl, rfl, trivial⟩ (loCons rfl (loNil)) (by exact .pick 0 rfl (.refl))
  · skip
    refine T_seq ?_
    refine T_reg ?_
    refine T_val (Ev_assign rfl) rfl ?_
    refine T_nil ?_
    refine T_next ?_
    refine T_block ?_
    obtain ⟨t153, hl153, ho153⟩ := bnd_some hx
    refine T_none 53 9 ?_
    have hn154 : 0 = (([] : List S_api_Point)).length := by simp [setI_len, cpy_len, List.length_append] <;> omega
    refine T_ent (.here) (e' := .r (none) ((([] : List S_api_Point)).length) (0) 53 9 ((([] : List S_api_Point)).flatMap e_api_Point)) (by first | (rw [← hn154]; done) | rfl) ?_
    refine T_loopP (σ := (List S_api_Point) × Int) (γ := (Option Addr) × Nat) hl153 (fun s153 y153 => [(0, .slice (A0_0) ((p0).length) (c0_0)), (3, .slice (y153.1) ((s153.1).length) (y153.2)), (4, .int .i64 (s153.2))]) (fun s153 y153 => [.r (y153.1) ((s153.1).length) (y153.2) 53 9 ((s153.1).flatMap e_api_Point)] ++ [.old w]) (fun s153 y153 => True) (none, 0) trivial (by exact .cons rfl (.cons rfl (.cons rfl (.nil)))) (by exact .pick 0 rfl (.refl)) ?_
    intro s153 y153 hG153 x153 hx153 ht153
    unfold lidarref07_bottoms_l3 at hx153
    refine T_seq ?_
    refine T_seq ?_
    refine T_reg ?_
    refine T_val (Ev_move rfl) rfl ?_
    refine T_val (Ev_move rfl) rfl ?_
    refine T_val (Ev_len rfl 53 Try.underlying31) rfl ?_
    refine T_val (Ev_lss rfl rfl) rfl ?_
    refine T_nil ?_
    refine T_next ?_
    refine T_caseP (s := 10) rfl (fun h155 => ?_) (fun h155 => ?_)
    · have hx156 := ite_t h155 hx153
      refine T_condT rfl ?_
      refine T_skip ?_
      refine T_next ?_
      obtain ⟨j20, hj20, hx156⟩ := jn_some hx156
      refine T_cutP (τ := List S_api_Point) (γ := (Option Addr) × Nat) (J := j20) (out := x153) (fun s20 y20 => [(0, .slice (A0_0) ((p0).length) (c0_0)), (3, .slice (y20.1) ((s20).length) (y20.2)), (4, .int .i64 (s153.2))]) (fun s20 y20 => [.r (y20.1) ((s20).length) (y20.2) 53 9 ((s20).flatMap e_api_Point)] ++ [.old w]) (fun s20 y20 => True) ?_ ?_
      · intro s20 y20 hx303 hG304
        subst hj20
        refine T_reg ?_
        refine T_val (Ev_move rfl) rfl ?_
        refine T_val (Ev_add_w64 rfl rfl) rfl ?_
        refine T_val (Ev_assign rfl) rfl ?_
        refine T_nil ?_
        exact T_roundP (s20, w64 (s153.2 + 1)) (y20.1, y20.2) hx303 trivial (by exact .cons rfl (.cons rfl (.cons rfl (.nil)))) (by exact .pick 0 rfl (.refl))
      · skip
        refine T_block ?_
        refine T_seq ?_
        refine T_reg ?_
        refine T_val (Ev_assign rfl) rfl ?_
        refine T_nil ?_
        refine T_next ?_
        obtain ⟨j22, hj22, hx156⟩ := jn_some hx156
        refine T_cutP (τ := Bool) (γ := Unit) (J := j22) (out := x153) (fun s22 y22 => [(0, .slice (A0_0) ((p0).length) (c0_0)), (3, .slice (y153.1) ((s153.1).length) (y153.2)), (4, .int .i64 (s153.2)), (5, .bool (s22))]) (fun s22 y22 => [.r (y153.1) ((s153.1).length) (y153.2) 53 9 ((s153.1).flatMap e_api_Point)] ++ [.old w]) (fun s22 y22 => True) ?_ ?_
        · intro s22 y22 hx282 hG283
          subst hj22
          refine T_seq ?_
          refine T_reg ?_
          refine T_val (Ev_move rfl) rfl ?_
          refine T_nil ?_
          refine T_next ?_
          refine T_caseB (s := 44) rfl (fun h284 => ?_) (fun h284 => ?_)
          · have hx285 := ite_t h284 hx282
            refine T_condT rfl ?_
            refine T_reg ?_
            refine T_val (Ev_move rfl) rfl ?_
            refine T_val (Ev_move rfl) rfl ?_
            refine T_val (Ev_move rfl) rfl ?_
            obtain ⟨x286, h287, hx288⟩ := bnd_some hx285
            have hw296 := Has.low (E := []) ha0' hK
            obtain ⟨b289, o290, j291, hA292, hj293, hl294, hp295⟩ := Has.at_idx hw296 h287
            refine T_val (Ev_index rfl rfl hA292 (j := j291) hj293 hl294 slc31) rfl ?_
            refine T_val (Ev_loadPK0 rfl hp295 (SubE.cons2 (i := 1) rfl (SubE.nil)) rfl agg53) rfl ?_
            refine T_x (Wx_buildSlice rfl (bls31_1_0ai64i64i64i64i64i64i64i64i64 _ _ _ _ _ _ _ _ _) rfl (fun g297 => ?_))
            obtain ⟨h298, hx299⟩ := gd_some hx288
            refine T_h (Wh_appendP e_api_Point (s153.1) [x286] rfl rfl rfl elm31 (fun _ => rfl) (i' := 0) rfl rfl rfl rfl h298 rfl (fun _ _ => .there (.here)) (fun _ _ => .drop .refl) (by decide) (fun A300 c301 => ?_))
            refine T_val (Ev_assign rfl) rfl ?_
            refine T_nil ?_
            refine T_inN ?_
            exact T_metP (s153.1 ++ [x286]) (A300, c301) hx299 trivial (by exact .cons rfl (.cons rfl (.cons rfl (.nil)))) (by exact .pick 0 rfl (.refl))
          · have hx302 := ite_bf h284 hx282
            refine T_condF rfl ?_
            refine T_skip ?_
            refine T_inN ?_
            exact T_metP s153.1 (y153.1, y153.2) hx302 trivial (by exact .cons rfl (.cons rfl (.cons rfl (.nil)))) (by exact .pick 0 rfl (.refl))
        · skip
          refine T_seq ?_
          refine T_reg ?_
          refine T_val (Ev_assign rfl) rfl ?_
          refine T_nil ?_
          refine T_next ?_
          refine T_block ?_
          obtain ⟨t220, hl220, ho220⟩ := bnd_some hx156
          refine T_loopP (σ := Bool × Int) (γ := Unit) hl220 (fun s220 y220 => [(0, .slice (A0_0) ((p0).length) (c0_0)), (3, .slice (y153.1) ((s153.1).length) (y153.2)), (4, .int .i64 (s153.2)), (5, .bool (s220.1)), (6, .int .i64 (s220.2))]) (fun s220 y220 => [.r (y153.1) ((s153.1).length) (y153.2) 53 9 ((s153.1).flatMap e_api_Point)] ++ [.old w]) (fun s220 y220 => True) () trivial (by exact .cons rfl (.cons rfl (.cons rfl (.cons rfl (.cons rfl (.nil)))))) (by exact .pick 0 rfl (.refl)) ?_
          intro s220 y220 hG220 x220 hx220 ht220
          unfold lidarref07_bottoms_l7 at hx220
          refine T_seq ?_
          refine T_seq ?_
          refine T_reg ?_
          refine T_val (Ev_move rfl) rfl ?_
          refine T_val (Ev_move rfl) rfl ?_
          refine T_val (Ev_len rfl 53 Try.underlying31) rfl ?_
          refine T_val (Ev_lss rfl rfl) rfl ?_
          refine T_nil ?_
          refine T_next ?_
          refine T_caseP (s := 16) rfl (fun h221 => ?_) (fun h221 => ?_)
          · have hx222 := ite_t h221 hx220
            refine T_condT rfl ?_
            refine T_skip ?_
            refine T_next ?_
            obtain ⟨j29, hj29, hx222⟩ := jn_some hx222
            refine T_cutP (τ := Bool) (γ := Unit) (J := j29) (out := x220) (fun s29 y29 => [(0, .slice (A0_0) ((p0).length) (c0_0)), (3, .slice (y153.1) ((s153.1).length) (y153.2)), (4, .int .i64 (s153.2)), (5, .bool (s29)), (6, .int .i64 (s220.2))]) (fun s29 y29 => [.r (y153.1) ((s153.1).length) (y153.2) 53 9 ((s153.1).flatMap e_api_Point)] ++ [.old w]) (fun s29 y29 => True) ?_ ?_
            · intro s29 y29 hx280 hG281
              subst hj29
              refine T_reg ?_
              refine T_val (Ev_move rfl) rfl ?_
              refine T_val (Ev_add_w64 rfl rfl) rfl ?_
              refine T_val (Ev_assign rfl) rfl ?_
              refine T_nil ?_
              exact T_roundP (s29, w64 (s220.2 + 1)) () hx280 trivial (by exact .cons rfl (.cons rfl (.cons rfl (.cons rfl (.cons rfl (.nil)))))) (by exact .pick 0 rfl (.refl))
            · skip
              refine T_block ?_
              refine T_draw [0, 0, 0, 0, 0, 1, 0, 0, 0, 1, 2, 0, 0, 0, 0, 0, 1, 0, 0, 0, 1, 2, 0, 0, 0, 2] [[], [0], [0, 1], [0, 1], [0, 1, 2, 3], [0, 1, 2, 3, 4], [0, 1], [0, 1], [0, 1, 6, 7], [0, 1, 6, 7, 8], [0, 1, 2, 3, 4, 5, 6, 7, 8, 9], [0, 1, 2, 3, 4, 5, 6, 7, 8, 9, 10], [0, 1, 2, 3, 4, 5, 6, 7, 8, 9, 10, 11], [0, 1, 2, 3, 4, 5, 6, 7, 8, 9, 10, 11, 12], [0, 1, 2, 3, 4, 5, 6, 7, 8, 9, 10, 11, 12], [0, 1, 2, 3, 4, 5, 6, 7, 8, 9, 10, 11, 12, 13, 14], [0, 1, 2, 3, 4, 5, 6, 7, 8, 9, 10, 11, 12, 13, 14, 15], [0, 1, 2, 3, 4, 5, 6, 7, 8, 9, 10, 11, 12], [0, 1, 2, 3, 4, 5, 6, 7, 8, 9, 10, 11, 12], [0, 1, 2, 3, 4, 5, 6, 7, 8, 9, 10, 11, 12, 17, 18], [0, 1, 2, 3, 4, 5, 6, 7, 8, 9, 10, 11, 12, 17, 18, 19], [0, 1, 2, 3, 4, 5, 6, 7, 8, 9, 10, 11, 12, 13, 14, 15, 16, 17, 18, 19, 20], [0, 1, 2, 3, 4, 5, 6, 7, 8, 9, 10, 11, 12, 13, 14, 15, 16, 17, 18, 19, 20, 21], [0, 1, 2, 3, 4, 5, 6, 7, 8, 9, 10, 11, 12, 13, 14, 15, 16, 17, 18, 19, 20, 21, 22], [0, 1, 2, 3, 4, 5, 6, 7, 8, 9, 10, 11, 12, 13, 14, 15, 16, 17, 18, 19, 20, 21, 22, 23], [0, 1, 2, 3, 4, 5, 6, 7, 8, 9, 10, 11, 12, 13, 14, 15, 16, 17, 18, 19, 20, 21, 22, 23, 24]] (.q 0 (.q 1 (.q 2 (.q 3 (.q 4 (.q 5 (.q 6 (.q 7 (.q 8 (.q 9 (.e 10 (.q 11 (.q 12 (.q 13 (.q 14 (.q 15 (.q 16 (.q 17 (.q 18 (.q 19 (.q 20 (.e 21 (.q 22 (.q 23 (.q 24 (.e 25 (.done) (.stop))))) (.stop)))))))))))) (.stop)))))))))))) mixed (by kernel_rfl) (by kernel_rfl) ?_
              refine P_p rfl rfl (Ev_move rfl) rfl ?_
              refine P_p rfl rfl (Ev_move rfl) rfl ?_
              refine T_caseB (s := 20) rfl (fun h224 => ?_) (fun h224 => ?_)
              · have hx225 := ite_t h224 hx222
                refine P_pG rfl rfl rfl rfl rfl (Ev_move rfl) rfl ?_
                refine P_pG rfl rfl rfl rfl rfl (Ev_move rfl) rfl ?_
                obtain ⟨x226, h227, hx228⟩ := bnd_some hx225
                have hw236 := Has.low (E := []) ha0' hK
                obtain ⟨b229, o230, j231, hA232, hj233, hl234, hp235⟩ := Has.at_idx hw236 h227
                refine P_pG rfl rfl rfl rfl rfl (Ev_index rfl rfl hA232 (j := j231) hj233 hl234 slc31) rfl ?_
                refine P_qG rfl rfl rfl rfl rfl (Ev_loadPK0 rfl hp235 (SubE.cons2 (i := 1) rfl (SubE.nil)) rfl agg53) rfl ?_
                refine P_pG rfl rfl rfl rfl rfl (Ev_move rfl) rfl ?_
                refine P_pG rfl rfl rfl rfl rfl (Ev_move rfl) rfl ?_
                obtain ⟨x237, h238, hx239⟩ := bnd_some hx228
                have hw247 := Has.low (E := []) ha0' hK
                obtain ⟨b240, o241, j242, hA243, hj244, hl245, hp246⟩ := Has.at_idx hw247 h238
                refine P_pG rfl rfl rfl rfl rfl (Ev_index rfl rfl hA243 (j := j242) hj244 hl245 slc31) rfl ?_
                refine P_qG rfl rfl rfl rfl rfl (Ev_loadPK0 rfl hp246 (SubE.cons2 (i := 1) rfl (SubE.nil)) rfl agg53) rfl ?_
                obtain ⟨r248, h249, hx250⟩ := bnd_some hx239
                refine P_xG rfl rfl rfl rfl (Wx_callL rfl (fun w1 hw1 => lidarref07_apart_ok x226 x237  h249 w1) rfl ?_) ?_
                rotate_left; exact P_stop
                rintro _ _ hlo ⟨rfl, rfl, -⟩
                refine T_app0 ?_
                refine P_pG rfl rfl rfl rfl rfl (Ev_gtr rfl rfl) rfl ?_
                refine P_pG rfl rfl rfl rfl rfl (Ev_move rfl) rfl ?_
                refine T_caseP (s := 31) rfl (fun h251 => ?_) (fun h251 => ?_)
                · have hx252 := ite_t h251 hx250
                  refine P_skip rfl rfl rfl rfl rfl rfl ?_
                  refine P_skip rfl rfl rfl rfl rfl rfl ?_
                  refine P_skip rfl rfl rfl rfl rfl rfl ?_
                  refine P_skip rfl rfl rfl rfl rfl rfl ?_
                  refine P_skip rfl rfl rfl rfl rfl rfl ?_
                  refine P_skip rfl rfl rfl rfl rfl rfl ?_
                  refine P_skip rfl rfl rfl rfl rfl rfl ?_
                  refine P_skip rfl rfl rfl rfl rfl rfl ?_
                  refine P_skipE rfl rfl rfl rfl rfl rfl ?_ ?_
                  rotate_left; exact P_stop
                  refine P_skip rfl rfl rfl rfl rfl rfl ?_
                  refine P_pG rfl rfl rfl rfl rfl (Ev_pickT rfl rfl) rfl ?_
                  refine P_p rfl rfl (Ev_pickT rfl rfl) rfl ?_
                  refine P_x rfl (Wx_val (Ev_assign rfl) rfl ?_) ?_
                  rotate_left; exact P_stop
                  refine P_done ?_
                  refine T_inN ?_
                  exact T_metP true () hx252 trivial (by exact .cons rfl (.cons rfl (.cons rfl (.cons rfl (.cons rfl (.nil)))))) (by exact .pick 0 rfl (.refl))
                · have hx253 := ite_f h251 hx250
                  refine P_pG rfl rfl rfl rfl rfl (Ev_move rfl) rfl ?_
                  refine P_pG rfl rfl rfl rfl rfl (Ev_move rfl) rfl ?_
                  obtain ⟨x254, h255, hx256⟩ := bnd_some hx253
                  have hw264 := Has.low (E := []) ha0' hK
                  obtain ⟨b257, o258, j259, hA260, hj261, hl262, hp263⟩ := Has.at_idx hw264 h255
                  refine P_pG rfl rfl rfl rfl rfl (Ev_index rfl rfl hA260 (j := j259) hj261 hl262 slc31) rfl ?_
                  refine P_qG rfl rfl rfl rfl rfl (Ev_loadPK0 rfl hp263 (SubE.cons2 (i := 1) rfl (SubE.nil)) rfl agg53) rfl ?_
                  refine P_pG rfl rfl rfl rfl rfl (Ev_move rfl) rfl ?_
                  refine P_pG rfl rfl rfl rfl rfl (Ev_move rfl) rfl ?_
                  obtain ⟨x265, h266, hx267⟩ := bnd_some hx256
                  have hw275 := Has.low (E := []) ha0' hK
                  obtain ⟨b268, o269, j270, hA271, hj272, hl273, hp274⟩ := Has.at_idx hw275 h266
                  refine P_pG rfl rfl rfl rfl rfl (Ev_index rfl rfl hA271 (j := j270) hj272 hl273 slc31) rfl ?_
                  refine P_qG rfl rfl rfl rfl rfl (Ev_loadPK0 rfl hp274 (SubE.cons2 (i := 1) rfl (SubE.nil)) rfl agg53) rfl ?_
                  obtain ⟨r276, h277, hx278⟩ := bnd_some hx267
                  refine P_xG rfl rfl rfl rfl (Wx_callL rfl (fun w1 hw1 => lidarref07_lower_ok x254 x265  h277 w1) rfl ?_) ?_
                  rotate_left; exact P_stop
                  rintro _ _ hlo ⟨rfl, rfl, -⟩
                  refine T_app0 ?_
                  refine P_pG rfl rfl rfl rfl rfl (Ev_not rfl) rfl ?_
                  refine P_pG rfl rfl rfl rfl rfl (Ev_pickF rfl rfl) rfl ?_
                  refine P_p rfl rfl (Ev_pickT rfl rfl) rfl ?_
                  refine P_x rfl (Wx_val (Ev_assign rfl) rfl ?_) ?_
                  rotate_left; exact P_stop
                  refine P_done ?_
                  refine T_inN ?_
                  exact T_metP (!(r276)) () hx278 trivial (by exact .cons rfl (.cons rfl (.cons rfl (.cons rfl (.cons rfl (.nil)))))) (by exact .pick 0 rfl (.refl))
              · have hx279 := ite_bf h224 hx222
                refine P_skip rfl rfl rfl rfl rfl rfl ?_
                refine P_skip rfl rfl rfl rfl rfl rfl ?_
                refine P_skip rfl rfl rfl rfl rfl rfl ?_
                refine P_skip rfl rfl rfl rfl rfl rfl ?_
                refine P_skip rfl rfl rfl rfl rfl rfl ?_
                refine P_skip rfl rfl rfl rfl rfl rfl ?_
                refine P_skip rfl rfl rfl rfl rfl rfl ?_
                refine P_skip rfl rfl rfl rfl rfl rfl ?_
                refine P_skipE rfl rfl rfl rfl rfl rfl ?_ ?_
                rotate_left; exact P_stop
                refine P_skip rfl rfl rfl rfl rfl rfl ?_
                refine P_skip rfl rfl rfl rfl rfl rfl ?_
                refine P_skipU rfl rfl rfl rfl rfl ?_
                refine P_skipU rfl rfl rfl rfl rfl ?_
                refine P_skipU rfl rfl rfl rfl rfl ?_
                refine P_skipU rfl rfl rfl rfl rfl ?_
                refine P_skipU rfl rfl rfl rfl rfl ?_
                refine P_skipU rfl rfl rfl rfl rfl ?_
                refine P_skipU rfl rfl rfl rfl rfl ?_
                refine P_skipU rfl rfl rfl rfl rfl ?_
                refine P_skipEU rfl rfl rfl rfl rfl ?_ ?_
                rotate_left; exact P_stop
                refine P_skipU rfl rfl rfl rfl rfl ?_
                refine P_skip rfl rfl rfl rfl rfl rfl ?_
                refine P_p rfl rfl (Ev_pickF rfl rfl) rfl ?_
                refine P_x rfl (Wx_val (Ev_assign rfl) rfl ?_) ?_
                rotate_left; exact P_stop
                refine P_done ?_
                refine T_inN ?_
                exact T_metP false () hx279 trivial (by exact .cons rfl (.cons rfl (.cons rfl (.cons rfl (.cons rfl (.nil)))))) (by exact .pick 0 rfl (.refl))
          · have hx223 := ite_f h221 hx220
            refine T_condF rfl ?_
            refine T_exit ?_
            refine T_outX ?_
            obtain rfl := exit_eq ht220 hx223
            refine T_outX ?_
            refine T_here ?_
            exact T_metP s220.1 () ho220 trivial (by exact .cons rfl (.cons rfl (.cons rfl (.cons rfl (.nil))))) (by exact .pick 0 rfl (.refl))
    · have hx157 := ite_f h155 hx153
      refine T_condF rfl ?_
      refine T_exit ?_
      refine T_outX ?_
      obtain rfl := exit_eq ht153 hx157
      refine T_outX ?_
      refine T_here ?_
      exact T_metP s153.1 (y153.1, y153.2) ho153 trivial (by exact .cons rfl (.nil)) (by exact .pick 0 rfl (.refl))
set_option maxRecDepth 100000 in
theorem lidarref07_lasts_ok (p0 : List S_api_Point) {K : List Ent} {A0_0 : Option Addr} {c0_0 : Nat} (ha0 : Has K A0_0 (p0).length c0_0 9 e_api_Point (p0)) {r : List S_api_Point} (hx : lidarref07_lasts p0 = some r) (w : World) (hK : ∀ e ∈ K, Ent.ok w e) : CtL Try.prog 41 [.slice (A0_0) ((p0).length) (c0_0)] w fun v Ln => ∃ (A0 : Option Addr) (c0 : Nat), v = .slice (A0) ((r).length) (c0) ∧ Ln = [.r A0 (r).length c0 53 9 ((r).flatMap e_api_Point)] ∧ True := by
  have ha0' := Has.up0 ha0
  refine CtL.mk 30 Try.func41 rfl Try.ntmps41 (by kernel_rfl) rfl ?_
  show T 30 _ [(0, .slice (A0_0) ((p0).length) (c0_0))] _
  unfold lidarref07_lasts at hx
  refine T_seq ?_
  refine T_reg ?_
  refine T_val (Ev_assign rfl) rfl ?_
  refine T_nil ?_
  refine T_next ?_
  refine T_seq ?_
  refine T_reg ?_
  refine T_val (Ev_assign rfl) rfl ?_
  refine T_nil ?_
  refine T_next ?_
  obtain ⟨j3, hj3, hx⟩ := jn_some hx
  refine T_cutP (τ := List S_api_Point) (γ := (Option Addr) × Nat) (J := j3) (out := r) (fun s3 y3 => [(3, .slice (y3.1) ((s3).length) (y3.2))]) (fun s3 y3 => [.r (y3.1) ((s3).length) (y3.2) 53 9 ((s3).flatMap e_api_Point)] ++ [.old w]) (fun s3 y3 => True) ?_ ?_
  · intro s3 y3 hx97 hG98
    subst hj3
    refine T_seq ?_
    refine T_reg ?_
    refine T_val (Ev_move rfl) rfl ?_
    refine T_val (Ev_assign rfl) rfl ?_
    refine T_nil ?_
    refine T_next ?_
    refine T_retc ?_
    obtain rfl := Option.some.inj hx97
    exact T_retP (rs := [.tmp 2]) Try.results41 (.tmp rfl (.nil)) (Ln := [.r (y3.1) ((s3).length) (y3.2) 53 9 ((s3).flatMap e_api_Point)]) ⟨y3.1, y3.2, rfl, rfl, trivial⟩ (loCons rfl (loNil)) (by exact .pick 0 rfl (.refl))
  · skip
    refine T_seq ?_
    refine T_reg ?_
    refine T_val (Ev_assign rfl) rfl ?_
    refine T_nil ?_
    refine T_next ?_
    refine T_block ?_
    obtain ⟨t49, hl49, ho49⟩ := bnd_some hx
    refine T_none 53 9 ?_
    have hn50 : 0 = (([] : List S_api_Point)).length := by simp [setI_len, cpy_len, List.length_append] <;> omega
    refine T_ent (.here) (e' := .r (none) ((([] : List S_api_Point)).length) (0) 53 9 ((([] : List S_api_Point)).flatMap e_api_Point)) (by first | (rw [← hn50]; done) | rfl) ?_
    refine T_loopP (σ := (List S_api_Point) × Int) (γ := (Option Addr) × Nat) hl49 (fun s49 y49 => [(0, .slice (A0_0) ((p0).length) (c0_0)), (3, .slice (y49.1) ((s49.1).length) (y49.2)), (4, .int .i64 (s49.2))]) (fun s49 y49 => [.r (y49.1) ((s49.1).length) (y49.2) 53 9 ((s49.1).flatMap e_api_Point)] ++ [.old w]) (fun s49 y49 => True) (none, 0) trivial (by exact .cons rfl (.cons rfl (.cons rfl (.nil)))) (by exact .pick 0 rfl (.refl)) ?_
    intro s49 y49 hG49 x49 hx49 ht49
    unfold lidarref07_lasts_l3 at hx49
    refine T_seq ?_
    refine T_seq ?_
    refine T_reg ?_
    refine T_val (Ev_move rfl) rfl ?_
    refine T_val (Ev_move rfl) rfl ?_
    refine T_val (Ev_len rfl 53 Try.underlying31) rfl ?_
    refine T_val (Ev_lss rfl rfl) rfl ?_
    refine T_nil ?_
    refine T_next ?_
    refine T_caseP (s := 8) rfl (fun h51 => ?_) (fun h51 => ?_)
    · have hx52 := ite_t h51 hx49
      refine T_condT rfl ?_
      refine T_skip ?_
      refine T_next ?_
      obtain ⟨j11, hj11, hx52⟩ := jn_some hx52
      refine T_cutP (τ := List S_api_Point) (γ := (Option Addr) × Nat) (J := j11) (out := x49) (fun s11 y11 => [(0, .slice (A0_0) ((p0).length) (c0_0)), (3, .slice (y11.1) ((s11).length) (y11.2)), (4, .int .i64 (s49.2))]) (fun s11 y11 => [.r (y11.1) ((s11).length) (y11.2) 53 9 ((s11).flatMap e_api_Point)] ++ [.old w]) (fun s11 y11 => True) ?_ ?_
      · intro s11 y11 hx95 hG96
        subst hj11
        refine T_reg ?_
        refine T_val (Ev_move rfl) rfl ?_
        refine T_val (Ev_add_w64 rfl rfl) rfl ?_
        refine T_val (Ev_assign rfl) rfl ?_
        refine T_nil ?_
        exact T_roundP (s11, w64 (s49.2 + 1)) (y11.1, y11.2) hx95 trivial (by exact .cons rfl (.cons rfl (.cons rfl (.nil)))) (by exact .pick 0 rfl (.refl))
      · skip
        refine T_block ?_
        refine T_seq ?_
        refine T_draw [0, 0, 0, 0, 1, 0, 0, 0, 0, 1, 0] [[], [], [0, 1], [0, 1, 2], [0, 1, 2, 3], [], [], [5, 6], [5, 6, 7], [5, 6, 7, 8], [0, 1, 2, 3, 4, 5, 6, 7, 8, 9]] (.q 0 (.q 1 (.q 2 (.q 3 (.q 4 (.q 5 (.q 6 (.q 7 (.q 8 (.q 9 (.q 10 (.done)))))))))))) mixed (by kernel_rfl) (by kernel_rfl) ?_
        refine P_p rfl rfl (Ev_move rfl) rfl ?_
        refine P_p rfl rfl (Ev_move rfl) rfl ?_
        obtain ⟨x54, h55, hx56⟩ := bnd_some hx52
        have hw64 := Has.low (E := []) ha0' hK
        obtain ⟨b57, o58, j59, hA60, hj61, hl62, hp63⟩ := Has.at_idx hw64 h55
        refine P_p rfl rfl (Ev_index rfl rfl hA60 (j := j59) hj61 hl62 slc31) rfl ?_
        refine P_p rfl rfl (Ev_field rfl fld53_5 rfl) rfl ?_
        refine P_q rfl rfl (Ev_loadP1 (d := 6) rfl hp63 (SubE.cons2 (i := 1) rfl (SubE.nil)) rfl one3) rfl ?_
        refine P_p rfl rfl (Ev_move rfl) rfl ?_
        refine P_p rfl rfl (Ev_move rfl) rfl ?_
        obtain ⟨x65, h66, hx67⟩ := bnd_some hx56
        have hw75 := Has.low (E := []) ha0' hK
        obtain ⟨b68, o69, j70, hA71, hj72, hl73, hp74⟩ := Has.at_idx hw75 h66
        refine P_p rfl rfl (Ev_index rfl rfl hA71 (j := j70) hj72 hl73 slc31) rfl ?_
        refine P_p rfl rfl (Ev_field rfl fld53_6 rfl) rfl ?_
        refine P_q rfl rfl (Ev_loadP1 (d := 7) rfl hp74 (SubE.cons2 (i := 1) rfl (SubE.nil)) rfl one3) rfl ?_
        refine P_p rfl rfl (Ev_eql rfl rfl) rfl ?_
        refine P_done ?_
        refine T_next ?_
        refine T_caseP (s := 21) rfl (fun h76 => ?_) (fun h76 => ?_)
        · have hx77 := ite_t h76 hx67
          refine T_condT rfl ?_
          refine T_reg ?_
          refine T_val (Ev_move rfl) rfl ?_
          refine T_val (Ev_move rfl) rfl ?_
          refine T_val (Ev_move rfl) rfl ?_
          obtain ⟨x78, h79, hx80⟩ := bnd_some hx77
          have hw88 := Has.low (E := []) ha0' hK
          obtain ⟨b81, o82, j83, hA84, hj85, hl86, hp87⟩ := Has.at_idx hw88 h79
          refine T_val (Ev_index rfl rfl hA84 (j := j83) hj85 hl86 slc31) rfl ?_
          refine T_val (Ev_loadPK0 rfl hp87 (SubE.cons2 (i := 1) rfl (SubE.nil)) rfl agg53) rfl ?_
          refine T_x (Wx_buildSlice rfl (bls31_1_0ai64i64i64i64i64i64i64i64i64 _ _ _ _ _ _ _ _ _) rfl (fun g89 => ?_))
          obtain ⟨h90, hx91⟩ := gd_some hx80
          refine T_h (Wh_appendP e_api_Point (s49.1) [x78] rfl rfl rfl elm31 (fun _ => rfl) (i' := 0) rfl rfl rfl rfl h90 rfl (fun _ _ => .there (.here)) (fun _ _ => .drop .refl) (by decide) (fun A92 c93 => ?_))
          refine T_val (Ev_assign rfl) rfl ?_
          refine T_nil ?_
          refine T_inN ?_
          exact T_metP (s49.1 ++ [x78]) (A92, c93) hx91 trivial (by exact .cons rfl (.cons rfl (.cons rfl (.nil)))) (by exact .pick 0 rfl (.refl))
        · have hx94 := ite_f h76 hx67
          refine T_condF rfl ?_
          refine T_skip ?_
          refine T_inN ?_
          exact T_metP s49.1 (y49.1, y49.2) hx94 trivial (by exact .cons rfl (.cons rfl (.cons rfl (.nil)))) (by exact .pick 0 rfl (.refl))
    · have hx53 := ite_f h51 hx49
      refine T_condF rfl ?_
      refine T_exit ?_
      refine T_outX ?_
      obtain rfl := exit_eq ht49 hx53
      refine T_outX ?_
      refine T_here ?_
      exact T_metP s49.1 (y49.1, y49.2) ho49 trivial (by exact .cons rfl (.nil)) (by exact .pick 0 rfl (.refl))
set_option maxRecDepth 100000 in
theorem lidarref07_Lowest_ok (p0 : List S_api_Point) {K : List Ent} {A0_0 : Option Addr} {c0_0 : Nat} (ha0 : Has K A0_0 (p0).length c0_0 9 e_api_Point (p0)) {r : (List Int) × Int} (hx : lidarref07_Lowest p0 = some r) (w : World) (hK : ∀ e ∈ K, Ent.ok w e) : CtL Try.prog 15 [.slice (A0_0) ((p0).length) (c0_0)] w fun v Ln => ∃ (A0 : Option Addr) (c0 : Nat), v = .tuple #[.slice (A0) ((r.1).length) (c0), .int .i64 (r.2)] ∧ Ln = [.r A0 (r.1).length c0 3 1 ((r.1).flatMap e_i64)] ∧ True := by
  have ha0' := Has.up0 ha0
  refine CtL.mk 11 Try.func15 rfl Try.ntmps15 (by kernel_rfl) rfl ?_
  show T 11 _ [(0, .slice (A0_0) ((p0).length) (c0_0))] _
  unfold lidarref07_Lowest at hx
  refine T_seq ?_
  refine T_reg ?_
  refine T_val (Ev_assign rfl) rfl ?_
  refine T_val (Ev_assign rfl) rfl ?_
  refine T_nil ?_
  refine T_next ?_
  refine T_seq ?_
  refine T_seq ?_
  refine T_reg ?_
  refine T_val (Ev_move rfl) rfl ?_
  obtain ⟨r1, h2, hx3⟩ := bnd_some hx
  refine T_x (Wx_callL rfl (fun w1 hw1 => lidarref07_Valid_ok p0 (Has.len' ha0') h2 w1 (okApp (K := K) (K2 := []) hK (by exact (SubE.cons2 (i := 0) rfl (SubE.nil))) (by exact (SubE.nil)) hw1)) rfl ?_)
  rintro _ _ hlo ⟨rfl, rfl, -⟩
  refine T_app0 ?_
  refine T_val (Ev_not rfl) rfl ?_
  refine T_nil ?_
  refine T_next ?_
  refine T_caseNB (s := 6) rfl (fun h4 => ?_) (fun h4 => ?_)
  · have hx5 := ite_bf h4 hx3
    refine T_condT rfl ?_
    refine T_seq ?_
    refine T_reg ?_
    refine T_val (Ev_assign rfl) rfl ?_
    refine T_val (Ev_assign rfl) rfl ?_
    refine T_nil ?_
    refine T_next ?_
    refine T_retc ?_
    refine T_outR ?_
    refine T_none 3 1 ?_
    obtain rfl := Option.some.inj hx5
    exact T_retP (rs := [.tmp 2, .tmp 3]) Try.results15 (.tmp rfl (.tmp rfl (.nil))) (Ln := [.r (none) (0) (0) 3 1 ((([] : List Int)).flatMap e_i64)]) ⟨none, 0, rfl, rfl, trivial⟩ (loCons rfl (loNil)) (by exact .pick 0 rfl (.refl))
  · have hx6 := ite_t h4 hx3
    refine T_condF rfl ?_
    refine T_skip ?_
    refine T_next ?_
    refine T_seq ?_
    refine T_reg ?_
    refine T_val (Ev_move rfl) rfl ?_
    obtain ⟨r7, h8, hx9⟩ := bnd_some hx6
    refine T_x (Wx_callL rfl (fun w1 hw1 => lidarref07_lasts_ok p0 (Has.len' ha0') h8 w1 (okApp (K := K) (K2 := []) hK (by exact (SubE.cons2 (i := 0) rfl (SubE.nil))) (by exact (SubE.nil)) hw1)) rfl ?_)
    rintro _ _ hlo ⟨A10, c11, rfl, rfl, -⟩
    refine T_app1 ?_
    refine T_rowP (k := 0) rfl (by decide) (fun _ => rfl) (fun hn12 hs13 => ?_)
    obtain ⟨r14, h15, hx16⟩ := bnd_some hx9
    refine T_x (Wx_callL rfl (fun w1 hw1 => lidarref07_bottoms_ok r7 (Has.len' hs13) h15 w1 (okAll (K := ([.r (A10) ((r7).length) (c11) 53 9 ((r7).flatMap e_api_Point)] : List Ent)) (by exact (SubE.cons2 (i := 0) rfl (SubE.nil))) hw1)) rfl ?_)
    rintro _ _ hlo ⟨A17, c18, rfl, rfl, -⟩
    refine T_app1 ?_
    refine T_rowP (k := 0) rfl (by decide) (fun _ => rfl) (fun hn19 hs20 => ?_)
    obtain ⟨r21, h22, hx23⟩ := bnd_some hx16
    refine T_x (Wx_callL rfl (fun w1 hw1 => lidarref07_ids_ok r14 (Has.len' hs20) h22 w1 (okAll (K := ([.r (A17) ((r14).length) (c18) 53 9 ((r14).flatMap e_api_Point)] : List Ent)) (by exact (SubE.cons2 (i := 0) rfl (SubE.nil))) hw1)) rfl ?_)
    rintro _ _ hlo ⟨A24, c25, rfl, rfl, -⟩
    refine T_app1 ?_
    refine T_val (Ev_assign rfl) rfl ?_
    refine T_val (Ev_assign rfl) rfl ?_
    refine T_nil ?_
    refine T_next ?_
    refine T_retc ?_
    obtain rfl := Option.some.inj hx23
    exact T_retP (rs := [.tmp 2, .tmp 3]) Try.results15 (.tmp rfl (.tmp rfl (.nil))) (Ln := [.r (A24) ((r21).length) (c25) 3 1 ((r21).flatMap e_i64)]) ⟨A24, c25, rfl, rfl, trivial⟩ (loCons rfl (loNil)) (by exact .pick 0 rfl (.drop 0 rfl (.drop 0 rfl (.refl))))
set_option maxRecDepth 100000 in
theorem lidarref07_candidates_ok (p0 : List S_api_Point) (p1 : S_api_Terrain) {K : List Ent} {A0_0 : Option Addr} {c0_0 : Nat} (ha0 : Has K A0_0 (p0).length c0_0 9 e_api_Point (p0)) {r : List S_api_Point} (hx : lidarref07_candidates p0 p1 = some r) (w : World) (hK : ∀ e ∈ K, Ent.ok w e) : CtL Try.prog 47 [.slice (A0_0) ((p0).length) (c0_0), .agg #[.int .i64 (p1.Cell), .int .i64 (p1.Reach), .int .i64 (p1.Slope), .int .i64 (p1.Link), .int .i64 (p1.Flat), .int .i64 (p1.Tall), .int .i64 (p1.High), .int .i64 (p1.Low), .int .i64 (p1.Brush), .int .i64 (p1.Few)]] w fun v Ln => ∃ (A0 : Option Addr) (c0 : Nat), v = .slice (A0) ((r).length) (c0) ∧ Ln = [.r A0 (r).length c0 53 9 ((r).flatMap e_api_Point)] ∧ True := by
  have ha0' := Has.up0 ha0
  refine CtL.mk 31 Try.func47 rfl Try.ntmps47 (by kernel_rfl) rfl ?_
  show T 31 _ [(0, .slice (A0_0) ((p0).length) (c0_0)), (1, .agg #[.int .i64 (p1.Cell), .int .i64 (p1.Reach), .int .i64 (p1.Slope), .int .i64 (p1.Link), .int .i64 (p1.Flat), .int .i64 (p1.Tall), .int .i64 (p1.High), .int .i64 (p1.Low), .int .i64 (p1.Brush), .int .i64 (p1.Few)])] _
  unfold lidarref07_candidates at hx
  refine T_seq ?_
  refine T_reg ?_
  refine T_x (Wx_box rfl rfl rfl (fun g1 => ?_))
  refine T_val (Ev_assign rfl) rfl ?_
  refine T_nil ?_
  refine T_next ?_
  refine T_seq ?_
  refine T_reg ?_
  refine T_val (Ev_assign rfl) rfl ?_
  refine T_nil ?_
  refine T_next ?_
  obtain ⟨j3, hj3, hx⟩ := jn_some hx
  refine T_cutP (τ := List S_api_Point) (γ := (Option Addr) × Nat) (J := j3) (out := r) (fun s3 y3 => [(5, .slice (y3.1) ((s3).length) (y3.2))]) (fun s3 y3 => [.r (y3.1) ((s3).length) (y3.2) 53 9 ((s3).flatMap e_api_Point)] ++ [.old w]) (fun s3 y3 => True) ?_ ?_
  · intro s3 y3 hx82 hG83
    subst hj3
    refine T_seq ?_
    refine T_reg ?_
    refine T_val (Ev_move rfl) rfl ?_
    refine T_rowP (k := 0) rfl (by decide) (fun _ => rfl) (fun hn84 hs85 => ?_)
    obtain ⟨r86, h87, hx88⟩ := bnd_some hx82
    refine T_x (Wx_callL rfl (fun w1 hw1 => lidarref07_lasts_ok s3 (Has.len' hs85) h87 w1 (okAll (K := ([.r (y3.1) ((s3).length) (y3.2) 53 9 ((s3).flatMap e_api_Point)] : List Ent)) (by exact (SubE.cons2 (i := 0) rfl (SubE.nil))) hw1)) rfl ?_)
    rintro _ _ hlo ⟨A89, c90, rfl, rfl, -⟩
    refine T_app1 ?_
    refine T_rowP (k := 0) rfl (by decide) (fun _ => rfl) (fun hn91 hs92 => ?_)
    obtain ⟨r93, h94, hx95⟩ := bnd_some hx88
    refine T_x (Wx_callL rfl (fun w1 hw1 => lidarref07_bottoms_ok r86 (Has.len' hs92) h94 w1 (okAll (K := ([.r (A89) ((r86).length) (c90) 53 9 ((r86).flatMap e_api_Point)] : List Ent)) (by exact (SubE.cons2 (i := 0) rfl (SubE.nil))) hw1)) rfl ?_)
    rintro _ _ hlo ⟨A96, c97, rfl, rfl, -⟩
    refine T_app1 ?_
    refine T_val (Ev_assign rfl) rfl ?_
    refine T_nil ?_
    refine T_next ?_
    refine T_retc ?_
    obtain rfl := Option.some.inj hx95
    exact T_retP (rs := [.tmp 4]) Try.results47 (.tmp rfl (.nil)) (Ln := [.r (A96) ((r93).length) (c97) 53 9 ((r93).flatMap e_api_Point)]) ⟨A96, c97, rfl, rfl, trivial⟩ (loCons rfl (loNil)) (by exact .pick 0 rfl (.drop 0 rfl (.drop 0 rfl (.refl))))
  · skip
    refine T_seq ?_
    refine T_reg ?_
    refine T_val (Ev_assign rfl) rfl ?_
    refine T_nil ?_
    refine T_next ?_
    refine T_block ?_
    obtain ⟨t42, hl42, ho42⟩ := bnd_some hx
    refine T_none 53 9 ?_
    have hn43 : 0 = (([] : List S_api_Point)).length := by simp [setI_len, cpy_len, List.length_append] <;> omega
    refine T_ent (.here) (e' := .r (none) ((([] : List S_api_Point)).length) (0) 53 9 ((([] : List S_api_Point)).flatMap e_api_Point)) (by first | (rw [← hn43]; done) | rfl) ?_
    refine T_loopP (σ := (List S_api_Point) × Int) (γ := (Option Addr) × Nat) hl42 (fun s42 y42 => [(0, .slice (A0_0) ((p0).length) (c0_0)), (3, .pointer (some ⟨g1, 0, none⟩)), (5, .slice (y42.1) ((s42.1).length) (y42.2)), (6, .int .i64 (s42.2))]) (fun s42 y42 => [.r (y42.1) ((s42.1).length) (y42.2) 53 9 ((s42.1).flatMap e_api_Point), .m g1 33 [.int .i64 (p1.Cell), .int .i64 (p1.Reach), .int .i64 (p1.Slope), .int .i64 (p1.Link), .int .i64 (p1.Flat), .int .i64 (p1.Tall), .int .i64 (p1.High), .int .i64 (p1.Low), .int .i64 (p1.Brush), .int .i64 (p1.Few)]] ++ [.old w]) (fun s42 y42 => True) (none, 0) trivial (by exact .cons rfl (.cons rfl (.cons rfl (.cons rfl (.nil))))) (by exact .pick 0 rfl (.pick 0 rfl (.refl))) ?_
    intro s42 y42 hG42 x42 hx42 ht42
    unfold lidarref07_candidates_l3 at hx42
    refine T_seq ?_
    refine T_seq ?_
    refine T_reg ?_
    refine T_val (Ev_move rfl) rfl ?_
    refine T_val (Ev_move rfl) rfl ?_
    refine T_val (Ev_len rfl 53 Try.underlying31) rfl ?_
    refine T_val (Ev_lss rfl rfl) rfl ?_
    refine T_nil ?_
    refine T_next ?_
    refine T_caseP (s := 10) rfl (fun h44 => ?_) (fun h44 => ?_)
    · have hx45 := ite_t h44 hx42
      refine T_condT rfl ?_
      refine T_skip ?_
      refine T_next ?_
      obtain ⟨j11, hj11, hx45⟩ := jn_some hx45
      refine T_cutP (τ := List S_api_Point) (γ := (Option Addr) × Nat) (J := j11) (out := x42) (fun s11 y11 => [(0, .slice (A0_0) ((p0).length) (c0_0)), (3, .pointer (some ⟨g1, 0, none⟩)), (5, .slice (y11.1) ((s11).length) (y11.2)), (6, .int .i64 (s42.2))]) (fun s11 y11 => [.r (y11.1) ((s11).length) (y11.2) 53 9 ((s11).flatMap e_api_Point), .m g1 33 [.int .i64 (p1.Cell), .int .i64 (p1.Reach), .int .i64 (p1.Slope), .int .i64 (p1.Link), .int .i64 (p1.Flat), .int .i64 (p1.Tall), .int .i64 (p1.High), .int .i64 (p1.Low), .int .i64 (p1.Brush), .int .i64 (p1.Few)]] ++ [.old w]) (fun s11 y11 => True) ?_ ?_
      · intro s11 y11 hx80 hG81
        subst hj11
        refine T_reg ?_
        refine T_val (Ev_move rfl) rfl ?_
        refine T_val (Ev_add_w64 rfl rfl) rfl ?_
        refine T_val (Ev_assign rfl) rfl ?_
        refine T_nil ?_
        exact T_roundP (s11, w64 (s42.2 + 1)) (y11.1, y11.2) hx80 trivial (by exact .cons rfl (.cons rfl (.cons rfl (.cons rfl (.nil))))) (by exact .pick 0 rfl (.pick 0 rfl (.refl)))
      · skip
        refine T_block ?_
        refine T_seq ?_
        refine T_draw [0, 0, 0, 0, 1, 1, 2, 0] [[], [], [], [1, 2], [1, 2, 3], [], [0, 1, 2, 3, 4, 5], [0, 1, 2, 3, 4, 5, 6]] (.q 0 (.q 1 (.q 2 (.q 3 (.q 4 (.q 5 (.e 6 (.q 7 (.done)) (.stop)))))))) mixed (by kernel_rfl) (by kernel_rfl) ?_
        refine P_p rfl rfl (Ev_move rfl) rfl ?_
        refine P_p rfl rfl (Ev_move rfl) rfl ?_
        refine P_p rfl rfl (Ev_move rfl) rfl ?_
        obtain ⟨x47, h48, hx49⟩ := bnd_some hx45
        have hw57 := Has.low (E := []) ha0' hK
        obtain ⟨b50, o51, j52, hA53, hj54, hl55, hp56⟩ := Has.at_idx hw57 h48
        refine P_p rfl rfl (Ev_index rfl rfl hA53 (j := j52) hj54 hl55 slc31) rfl ?_
        refine P_q rfl rfl (Ev_loadPK0 rfl hp56 (SubE.cons2 (i := 2) rfl (SubE.nil)) rfl agg53) rfl ?_
        refine P_q rfl rfl (Ev_loadK rfl (i := 1) rfl rfl agg33) rfl ?_
        obtain ⟨r58, h59, hx60⟩ := bnd_some hx49
        refine P_x rfl (Wx_callL rfl (fun w1 hw1 => lidarref07_sunk_ok p0 x47 p1 (Has.len' ha0') h59 w1 (okApp (K := K) (K2 := []) hK (by exact (SubE.cons2 (i := 2) rfl (SubE.nil))) (by exact (SubE.nil)) hw1)) rfl ?_) ?_
        rotate_left; exact P_stop
        rintro _ _ hlo ⟨rfl, rfl, -⟩
        refine T_app0 ?_
        refine P_p rfl rfl (Ev_not rfl) rfl ?_
        refine P_done ?_
        refine T_next ?_
        refine T_caseNB (s := 20) rfl (fun h61 => ?_) (fun h61 => ?_)
        · have hx62 := ite_bf h61 hx60
          refine T_condT rfl ?_
          refine T_reg ?_
          refine T_val (Ev_move rfl) rfl ?_
          refine T_val (Ev_move rfl) rfl ?_
          refine T_val (Ev_move rfl) rfl ?_
          obtain ⟨x63, h64, hx65⟩ := bnd_some hx62
          have hw73 := Has.low (E := []) ha0' hK
          obtain ⟨b66, o67, j68, hA69, hj70, hl71, hp72⟩ := Has.at_idx hw73 h64
          refine T_val (Ev_index rfl rfl hA69 (j := j68) hj70 hl71 slc31) rfl ?_
          refine T_val (Ev_loadPK0 rfl hp72 (SubE.cons2 (i := 2) rfl (SubE.nil)) rfl agg53) rfl ?_
          refine T_x (Wx_buildSlice rfl (bls31_1_0ai64i64i64i64i64i64i64i64i64 _ _ _ _ _ _ _ _ _) rfl (fun g74 => ?_))
          obtain ⟨h75, hx76⟩ := gd_some hx65
          refine T_h (Wh_appendP e_api_Point (s42.1) [x63] rfl rfl rfl elm31 (fun _ => rfl) (i' := 0) rfl rfl rfl rfl h75 rfl (fun _ _ => .there (.here)) (fun _ _ => .drop .refl) (by decide) (fun A77 c78 => ?_))
          refine T_val (Ev_assign rfl) rfl ?_
          refine T_nil ?_
          refine T_inN ?_
          exact T_metP (s42.1 ++ [x63]) (A77, c78) hx76 trivial (by exact .cons rfl (.cons rfl (.cons rfl (.cons rfl (.nil))))) (by exact .pick 0 rfl (.pick 0 rfl (.refl)))
        · have hx79 := ite_t h61 hx60
          refine T_condF rfl ?_
          refine T_skip ?_
          refine T_inN ?_
          exact T_metP s42.1 (y42.1, y42.2) hx79 trivial (by exact .cons rfl (.cons rfl (.cons rfl (.cons rfl (.nil))))) (by exact .pick 0 rfl (.pick 0 rfl (.refl)))
    · have hx46 := ite_f h44 hx42
      refine T_condF rfl ?_
      refine T_exit ?_
      refine T_outX ?_
      obtain rfl := exit_eq ht42 hx46
      refine T_outX ?_
      refine T_here ?_
      exact T_metP s42.1 (y42.1, y42.2) ho42 trivial (by exact .cons rfl (.nil)) (by exact .pick 0 rfl (.drop 0 rfl (.refl)))
set_option maxRecDepth 100000 in
theorem lidarref07_cell_ok (p0 : Int) (p1 : Int)  {r : Int} (hx : lidarref07_cell p0 p1 = some r) (w : World) : CtL Try.prog 48 [.int .i64 (p0), .int .i64 (p1)] w fun v Ln => v = .int .i64 (r) ∧ Ln = [] ∧ True := by
  refine CtL.mk 17 Try.func48 rfl Try.ntmps48 (by kernel_rfl) rfl ?_
  show T 17 _ [(0, .int .i64 (p0)), (1, .int .i64 (p1))] _
  unfold lidarref07_cell at hx
  refine T_seq ?_
  refine T_reg ?_
  refine T_val (Ev_assign rfl) rfl ?_
  refine T_nil ?_
  refine T_next ?_
  refine T_seq ?_
  refine T_seq ?_
  refine T_reg ?_
  refine T_val (Ev_move rfl) rfl ?_
  refine T_val (Ev_lss rfl rfl) rfl ?_
  refine T_nil ?_
  refine T_next ?_
  refine T_caseP (s := 6) rfl (fun h1 => ?_) (fun h1 => ?_)
  · have hx2 := ite_t h1 hx
    refine T_condT rfl ?_
    refine T_seq ?_
    refine T_reg ?_
    refine T_val (Ev_move rfl) rfl ?_
    refine T_val (Ev_sub_w64 rfl rfl) rfl ?_
    refine T_val (Ev_move rfl) rfl ?_
    refine T_val (Ev_sub_w64 rfl rfl) rfl ?_
    refine T_val (Ev_move rfl) rfl ?_
    obtain ⟨h3, hx4⟩ := gd_some hx2
    refine T_val (Ev_quo_w64 rfl rfl h3) rfl ?_
    refine T_val (Ev_neg_w64 rfl) rfl ?_
    refine T_val (Ev_assign rfl) rfl ?_
    refine T_nil ?_
    refine T_next ?_
    refine T_retc ?_
    refine T_outR ?_
    obtain rfl := Option.some.inj hx4
    exact T_retP (rs := [.tmp 4]) Try.results48 (.tmp rfl (.nil)) (Ln := []) ⟨rfl, rfl, trivial⟩ (loNil) (by exact .refl)
  · have hx5 := ite_f h1 hx
    refine T_condF rfl ?_
    refine T_skip ?_
    refine T_next ?_
    refine T_seq ?_
    refine T_reg ?_
    refine T_val (Ev_move rfl) rfl ?_
    refine T_val (Ev_move rfl) rfl ?_
    obtain ⟨h6, hx7⟩ := gd_some hx5
    refine T_val (Ev_quo_w64 rfl rfl h6) rfl ?_
    refine T_val (Ev_assign rfl) rfl ?_
    refine T_nil ?_
    refine T_next ?_
    refine T_retc ?_
    obtain rfl := Option.some.inj hx7
    exact T_retP (rs := [.tmp 4]) Try.results48 (.tmp rfl (.nil)) (Ln := []) ⟨rfl, rfl, trivial⟩ (loNil) (by exact .refl)
end Go.Proofs.Ytdkjcoonmgjpfaa
