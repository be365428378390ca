/- Walks of the program, with their plain functions: the law TopChange. -/
import Derived.Test.YtdcdabkoajhllaaK4
namespace Go.Proofs.Ytdcdabkoajhllaa
open Go Go.RowKit
theorem bld23_2i643i644i64 (x0 : Int) (x1 : Int) (x2 : Int) : BuildOf Try.prog 23 [(2, .int .i64 x0), (3, .int .i64 x1), (4, .int .i64 x2)] [.int .i64 (0), .int .i64 (0), .int .i64 x0, .int .i64 x1, .int .i64 x2] := fun w => by kernel_rfl
theorem zer23 : ZeroOf Try.prog 23 [.int .i64 (0), .int .i64 (0), .int .i64 (0), .int .i64 (0), .int .i64 (0)] := ⟨_, Try.zeroValue23, rfl⟩
theorem bld26_0ai64i64i64i64i641s (x0 : Int) (x1 : Int) (x2 : Int) (x3 : Int) (x4 : Int) (x5 : Option Addr) (x6 : Nat) (x7 : Nat) : BuildOf Try.prog 26 [(0, .agg #[.int .i64 x0, .int .i64 x1, .int .i64 x2, .int .i64 x3, .int .i64 x4]), (1, .slice x5 x6 x7)] [.int .i64 x0, .int .i64 x1, .int .i64 x2, .int .i64 x3, .int .i64 x4, .slice x5 x6 x7] := fun w => by kernel_rfl
theorem slc44 : SliceOf Try.prog 44 53 8 := .mk Try.underlying44 (show Try.prog.info? 53 = some Try.t53 from by kernel_rfl) (by kernel_rfl)
theorem fld53_0 : FieldOf Try.prog 53 0 0 := .mk Try.underlying53 rfl rfl (show Try.prog.info? 3 = some Try.t3 from by kernel_rfl) (show Try.t3.size = 1 from by kernel_rfl) rfl
theorem fld31_0 : FieldOf Try.prog 31 0 0 := .mk Try.underlying31 rfl rfl (show Try.prog.info? 26 = some Try.t26 from by kernel_rfl) (show Try.t26.size = 6 from by kernel_rfl) rfl
theorem fld31_1 : FieldOf Try.prog 31 1 6 := .mk Try.underlying31 rfl rfl (show Try.prog.info? 27 = some Try.t27 from by kernel_rfl) (show Try.t27.size = 1 from by kernel_rfl) rfl
theorem fld31_2 : FieldOf Try.prog 31 2 7 := .mk Try.underlying31 rfl rfl (show Try.prog.info? 27 = some Try.t27 from by kernel_rfl) (show Try.t27.size = 1 from by kernel_rfl) rfl
theorem fld31_3 : FieldOf Try.prog 31 3 8 := .mk Try.underlying31 rfl rfl (show Try.prog.info? 28 = some Try.t28 from by kernel_rfl) (show Try.t28.size = 1 from by kernel_rfl) rfl
theorem one28 : OneOf Try.prog 28 := .mk Try.underlying28 rfl (show Try.prog.info? 28 = some Try.t28 from by kernel_rfl) (by kernel_rfl)
theorem fld31_4 : FieldOf Try.prog 31 4 9 := .mk Try.underlying31 rfl rfl (show Try.prog.info? 29 = some Try.t29 from by kernel_rfl) (show Try.t29.size = 1 from by kernel_rfl) rfl
theorem one29 : OneOf Try.prog 29 := .mk Try.underlying29 rfl (show Try.prog.info? 29 = some Try.t29 from by kernel_rfl) (by kernel_rfl)
theorem fld31_5 : FieldOf Try.prog 31 5 10 := .mk Try.underlying31 rfl rfl (show Try.prog.info? 5 = some Try.t5 from by kernel_rfl) (show Try.t5.size = 1 from by kernel_rfl) rfl
theorem one5 : OneOf Try.prog 5 := .mk Try.underlying5 rfl (show Try.prog.info? 5 = some Try.t5 from by kernel_rfl) (by kernel_rfl)
theorem slc29 : SliceOf Try.prog 29 40 1 := .mk Try.underlying29 (show Try.prog.info? 40 = some Try.t40 from by kernel_rfl) (by kernel_rfl)
theorem one40 : OneOf Try.prog 40 := .mk Try.underlying40 rfl (show Try.prog.info? 40 = some Try.t40 from by kernel_rfl) (by kernel_rfl)
theorem fld53_1 : FieldOf Try.prog 53 1 1 := .mk Try.underlying53 rfl rfl (show Try.prog.info? 34 = some Try.t34 from by kernel_rfl) (show Try.t34.size = 1 from by kernel_rfl) rfl
noncomputable def lidartop_one (p0 : S_api_Rat) (p1 : Int) : Option Bool :=
 bnd (exact_Floor p0) fun r2 =>
 bnd (exact_Ceil p0) fun r5 =>
 jn (fun (s4 : Bool) =>
 some s4)
 (fun j4 => if p1 = 0 then (if r2.2 = 0 then (if r5.2 = 0 then (if r2.1 = 1 then (j4 (decide (r5.1 = 1)))
 else (j4 false))
 else (j4 false))
 else (j4 false))
 else (j4 false))
noncomputable def lidartop_differs  : Option Bool :=
 bnd (model_Regions (⟨(⟨0, 0, 1, 1, 1⟩ : S_api_Raster), [(⟨false, (⟨1, 3⟩ : S_api_Span)⟩ : S_api_Cell)]⟩ : S_api_Grid) (⟨(⟨0, 0, 1, 1, 1⟩ : S_api_Raster), [(⟨false, (⟨4, 5⟩ : S_api_Span)⟩ : S_api_Cell)]⟩ : S_api_Grid) 1) fun r8 =>
 jn (fun (s6 : Bool) =>
 some s6)
 (fun j6 => if r8.2 = 0 then (if ((((r8.1).length : Nat) : Int)) = 1 then (bnd (idx r8.1 0) fun x25 =>
 if x25.State = 1 then (bnd (idx r8.1 0) fun x54 =>
 bnd (lidartop_one x54.Lo r8.2) fun r81 =>
 j6 r81)
 else (j6 false))
 else (j6 false))
 else (j6 false))
noncomputable def lidartop_height (p0 : S_api_Cell) (p1 : Int) (p2 : Int) : Option Int :=
 if p0.Void = true then (some p1)
 else (gd ((w64 ((w64 (p0.Z.Hi - p0.Z.Lo)) + 1)) ≠ 0) <|
 some (w64 (p0.Z.Lo + (Int.tmod (w64 ((w64 (p2)) + (w64 (7 * p1)))) (w64 ((w64 (p0.Z.Hi - p0.Z.Lo)) + 1))))))
structure S_lidartop_Change where
  G : S_api_Grid
  Part : Int
  More : Int
  Voids : Int
  Moved : List Int
  Few : Int
noncomputable def lidartop_TopChange_l7 (p0 : S_lidartop_Change) : ((List S_api_Cell) × (List S_api_Cell) × (List Int) × (List Int) × Int) → Option (Sum ((List S_api_Cell) × (List S_api_Cell) × (List Int) × (List Int) × Int) ((List S_api_Cell) × (List S_api_Cell) × (List Int) × (List Int))) := fun s122 =>
 if s122.2.2.2.2 < ((((p0.G.Cells).length : Nat) : Int)) then (jn (fun (s25 : (List S_api_Cell) × (List S_api_Cell) × (List Int) × (List Int)) =>
 some (.inl (s25.1, s25.2.1, s25.2.2.1, s25.2.2.2, w64 (s122.2.2.2.2 + 1))))
 (fun j25 => bnd (idx p0.G.Cells s122.2.2.2.2) fun x130 =>
 bnd (lidartop_height x130 s122.2.2.2.2 p0.Part) fun r141 =>
 jn (fun (s28 : Int) =>
 gd (((s122.2.2.1).length + 1) * 8 ≤ 140737488355328) <|
 gd (((s122.2.2.2.1).length + 1) * 8 ≤ 140737488355328) <|
 gd (0 ≤ (Int.tmod s122.2.2.2.2 16)) <|
 gd (0 ≤ (Int.tmod s122.2.2.2.2 13)) <|
 jn (fun (s34 : Bool × Int × Int × Bool × Int × Int) =>
 gd (((s122.1).length + 1) * 24 ≤ 140737488355328) <|
 gd (((s122.2.1).length + 1) * 24 ≤ 140737488355328) <|
 j25 (s122.1 ++ [(⟨s34.1, (⟨s34.2.1, s34.2.2.1⟩ : S_api_Span)⟩ : S_api_Cell)], s122.2.1 ++ [(⟨s34.2.2.2.1, (⟨s34.2.2.2.2.1, s34.2.2.2.2.2⟩ : S_api_Span)⟩ : S_api_Cell)], s122.2.2.1 ++ [r141], s122.2.2.2.1 ++ [s28]))
 (fun j34 => gd (0 ≤ (Int.tmod s122.2.2.2.2 16)) <|
 if (bit_and .u16 (shr_ .u16 p0.Voids (Int.tmod s122.2.2.2.2 16)) 1) = 1 then (j34 (true, 0, 0, true, 0, 0))
 else (j34 (false, w64 (r141 - (Int.tmod (w64 (shr_ .u32 p0.More (Int.tmod s122.2.2.2.2 16))) 50)), w64 (r141 + (Int.tmod (w64 (shr_ .u32 p0.More (Int.tmod s122.2.2.2.2 13))) 40)), false, w64 (s28 - (Int.tmod (w64 (shr_ .u32 p0.More (Int.tmod s122.2.2.2.2 13))) 40)), w64 (s28 + (Int.tmod (w64 (shr_ .u32 p0.More (Int.tmod s122.2.2.2.2 16))) 50))))))
 (fun j28 => if 0 < ((((p0.Moved).length : Nat) : Int)) then (gd (((((p0.Moved).length : Nat) : Int)) ≠ 0) <|
 bnd (idx p0.Moved (Int.tmod s122.2.2.2.2 ((((p0.Moved).length : Nat) : Int)))) fun x148 =>
 j28 (w64 (r141 + (w64 (x148)))))
 else (j28 r141))))
 else (some (.inr (s122.1, s122.2.1, s122.2.2.1, s122.2.2.2.1)))
noncomputable def lidartop_TopChange_l28 (s8 : (List S_api_Cell) × (List S_api_Cell) × (List Int) × (List Int)) (r261 : S_api_Grid × Int) (p0 : S_lidartop_Change) : Int → Option (Sum Int (Sum Unit Bool)) := fun s395 =>
 if s395 < ((((s8.2.2.1).length : Nat) : Int)) then (bnd (idx r261.1.Cells s395) fun x399 =>
 jn (fun (s57 : Bool) =>
 if s57 = true then (some (.inr (.inr (false))))
 else (some (.inl (w64 (s395 + 1)))))
 (fun j57 => bnd (idx p0.G.Cells s395) fun x411 =>
 if x411.Void = true then (bnd (idx s8.1 s395) fun x424 =>
 if ((x399.Void) == (x424.Void)) = true then (if x399.Void = true then (j57 false)
 else (bnd (idx s8.2.2.1 s395) fun x440 =>
 if x440 < x399.Z.Lo then (j57 true)
 else (bnd (idx s8.2.2.1 s395) fun x454 =>
 j57 (decide (x399.Z.Hi < x454)))))
 else (j57 true))
 else (if ((x399.Void) == (false)) = true then (if x399.Void = true then (j57 false)
 else (bnd (idx s8.2.2.1 s395) fun x472 =>
 if x472 < x399.Z.Lo then (j57 true)
 else (bnd (idx s8.2.2.1 s395) fun x486 =>
 j57 (decide (x399.Z.Hi < x486)))))
 else (j57 true))))
 else (some (.inr (.inl ())))
noncomputable def lidartop_TopChange_l41 (r507 : (List S_api_Region) × Int) (s1062 : Int) (s8 : (List S_api_Cell) × (List S_api_Cell) × (List Int) × (List Int)) : (Int × Int) → Option (Sum (Int × Int) (Sum Int Bool)) := fun s1220 =>
 bnd (idx r507.1 s1062) fun x1221 =>
 if s1220.2 < ((((x1221.Nodes).length : Nat) : Int)) then (bnd (idx r507.1 s1062) fun x1252 =>
 bnd (idx x1252.Nodes s1220.2) fun x1280 =>
 jn (fun (s108 : Bool) =>
 if s108 = true then (some (.inr (.inr (false))))
 else (bnd (idx s8.2.2.2 x1280) fun x1352 =>
 bnd (idx s8.2.2.1 x1280) fun x1363 =>
 some (.inl (w64 (s1220.1 + (w64 (x1352 - x1363))), w64 (s1220.2 + 1)))))
 (fun j108 => if x1280 < 0 then (j108 true)
 else (if ((((s8.2.2.1).length : Nat) : Int)) ≤ x1280 then (j108 true)
 else (bnd (idx s8.2.2.2 x1280) fun x1297 =>
 bnd (idx s8.2.2.1 x1280) fun x1308 =>
 bnd (idx r507.1 s1062) fun x1319 =>
 j108 (decide ((w64 ((w64 (x1297 - x1308)) * x1319.State)) ≤ 0))))))
 else (some (.inr (.inl s1220.1)))
noncomputable def lidartop_TopChange_l37 (r507 : (List S_api_Region) × Int) (p0 : S_lidartop_Change) (s8 : (List S_api_Cell) × (List S_api_Cell) × (List Int) × (List Int)) : Int → Option (Sum Int (Sum Unit Bool)) := fun s1062 =>
 if s1062 < ((((r507.1).length : Nat) : Int)) then (jn (fun (s94 : Int) =>
 jn (fun (s110 : Bool × (List Int) × (List Int) × Int) =>
 bnd (idx r507.1 s1062) fun x1483 =>
 bnd (exact_Cmp x1483.Lo (⟨s110.1, s110.2.1, s110.2.2.1⟩ : S_api_Rat)) fun r1515 =>
 bnd (idx r507.1 s1062) fun x1518 =>
 bnd (exact_Cmp x1518.Hi (⟨s110.1, s110.2.1, s110.2.2.1⟩ : S_api_Rat)) fun r1550 =>
 jn (fun (s113 : Bool) =>
 if s113 = true then (some (.inr (.inr (false))))
 else (some (.inl (w64 (s1062 + 1)))))
 (fun j113 => if s110.2.2.2 = 0 then (if r1515.2 = 0 then (if r1550.2 = 0 then (if 0 < r1515.1 then (j113 true)
 else (if r1550.1 < 0 then (j113 true)
 else (bnd (idx r507.1 s1062) fun x1568 =>
 j113 (decide (((((x1568.Nodes).length : Nat) : Int)) < (w64 (1 + (Int.tmod (w64 (p0.Few)) 9))))))))
 else (j113 true))
 else (j113 true))
 else (j113 true)))
 (fun j110 => bnd (exact_FromInt s94) fun r1376 =>
 bnd (exact_FromInt (w64 (p0.G.Raster.Step * p0.G.Raster.Step))) fun r1383 =>
 bnd (exact_Mul r1376 r1383) fun r1398 =>
 j110 (r1398.1.Neg, r1398.1.Num, r1398.1.Den, r1398.2)))
 (fun j94 => bnd (lfix (lidartop_TopChange_l41 r507 s1062 s8) (0, 0)) fun t1220 =>
 (match t1220 with
 | (.inl z1220) => j94 z1220
 | (.inr (z1220)) => some (.inr (.inr (z1220)))
 )))
 else (some (.inr (.inl ())))
noncomputable def lidartop_TopChange (p0 : S_lidartop_Change) : Option Bool :=
 jn (fun (s4 : Bool) =>
 if s4 = true then (bnd (lidartop_differs) fun r16 =>
 some r16)
 else (jn (fun (s6 : Unit) =>
 jn (fun (s8 : (List S_api_Cell) × (List S_api_Cell) × (List Int) × (List Int)) =>
 jn (fun (s37 : Bool) =>
 if s37 = true then (bnd (lidartop_differs) fun r235 =>
 some r235)
 else (bnd (model_Consistent p0.G (⟨p0.G.Raster, s8.1⟩ : S_api_Grid)) fun r241 =>
 bnd (model_Regions p0.G (⟨p0.G.Raster, s8.1⟩ : S_api_Grid) 1) fun r246 =>
 bnd (model_Common p0.G (⟨p0.G.Raster, s8.1⟩ : S_api_Grid)) fun r261 =>
 jn (fun (s43 : Bool) =>
 if s43 = true then (some false)
 else (jn (fun (s45 : Unit) =>
 bnd (model_Regions p0.G (⟨p0.G.Raster, s8.2.1⟩ : S_api_Grid) (w64 (1 + (Int.tmod (w64 (p0.Few)) 9)))) fun r507 =>
 if r507.2 = 0 then (jn (fun (s63 : Unit) =>
 bnd (lidartop_differs) fun r1603 =>
 some r1603)
 (fun j63 => bnd (lfix (lidartop_TopChange_l37 r507 p0 s8) 0) fun t1062 =>
 (match t1062 with
 | (.inl z1062) => j63 z1062
 | (.inr (z1062)) => some z1062
 )))
 else (some false))
 (fun j45 => bnd (lfix (lidartop_TopChange_l28 s8 r261 p0) 0) fun t395 =>
 (match t395 with
 | (.inl z395) => j45 z395
 | (.inr (z395)) => some z395
 ))))
 (fun j43 => if r241.2 = 0 then (if r246.2 = 0 then (if r261.2 = 0 then (if r241.1 = true then (if ((((r246.1).length : Nat) : Int)) = 0 then (j43 (!(decide (((((r261.1.Cells).length : Nat) : Int)) = ((((s8.2.2.1).length : Nat) : Int))))))
 else (j43 true))
 else (j43 true))
 else (j43 true))
 else (j43 true))
 else (j43 true))))
 (fun j37 => bnd (lidarref09_Valid (⟨p0.G.Raster, s8.1⟩ : S_api_Grid)) fun r220 =>
 if r220 = true then (bnd (lidarref09_Valid (⟨p0.G.Raster, s8.2.1⟩ : S_api_Grid)) fun r228 =>
 j37 (!(r228)))
 else (j37 true)))
 (fun j8 => bnd (lfix (lidartop_TopChange_l7 p0) (([] : List S_api_Cell), ([] : List S_api_Cell), ([] : List Int), ([] : List Int), 0)) fun t122 =>
 j8 t122))
 (fun j6 => j6 ())))
 (fun j4 => if 60 < ((((p0.G.Cells).length : Nat) : Int)) then (j4 true)
 else (if 200 < ((((p0.Moved).length : Nat) : Int)) then (j4 true)
 else (bnd (lidarref09_Valid p0.G) fun r9 =>
 j4 (!(r9)))))
def e_i16 (x : Int) : List Value := [.int .i16 (x)]
theorem e_i16_len (x : Int) : (e_i16 x).length = 1 := rfl
set_option maxRecDepth 100000 in
theorem lidartop_one_ok (p0 : S_api_Rat) (p1 : Int) {K : List Ent} {A0_0 : Option Addr} {c0_0 : Nat} {A0_1 : Option Addr} {c0_1 : Nat} (ha0 : Has K A0_0 (p0.Num).length c0_0 1 e_u32 (p0.Num)) (ha1 : Has K A0_1 (p0.Den).length c0_1 1 e_u32 (p0.Den)) {r : Bool} (hx : lidartop_one p0 p1 = some r) (w : World) (hK : ∀ e ∈ K, Ent.ok w e) : CtL Try.prog 14 [.agg #[.bool (p0.Neg), .slice (A0_0) ((p0.Num).length) (c0_0), .slice (A0_1) ((p0.Den).length) (c0_1)], .int .i64 (p1)] w fun v Ln => v = .bool (r) ∧ Ln = [] ∧ True := by
  have ha0' := Has.up0 ha0
  have ha1' := Has.up0 ha1
  refine CtL.mk 37 Try.func14 rfl Try.ntmps14 (by kernel_rfl) rfl ?_
  show T 37 _ [(0, .agg #[.bool (p0.Neg), .slice (A0_0) ((p0.Num).length) (c0_0), .slice (A0_1) ((p0.Den).length) (c0_1)]), (1, .int .i64 (p1))] _
  unfold lidartop_one at hx
  refine T_seq ?_
  refine T_reg ?_
  refine T_x (Wx_box rfl rfl rfl (fun g1 => ?_))
  refine T_val (Ev_assign rfl) rfl ?_
  refine T_nil ?_
  refine T_next ?_
  refine T_seq ?_
  refine T_reg ?_
  refine T_val (Ev_loadK rfl (i := 0) rfl rfl agg51) rfl ?_
  obtain ⟨r2, h3, hx4⟩ := bnd_some hx
  refine T_x (Wx_callL rfl (fun w1 hw1 => exact_Floor_ok p0 (Has.len' ha0') (Has.len' ha1') h3 w1 (okApp (K := K) (K2 := []) hK (by exact (SubE.cons2 (i := 1) rfl (SubE.nil))) (by exact (SubE.nil)) hw1)) rfl ?_)
  rintro _ _ hlo ⟨rfl, rfl, -⟩
  refine T_app0 ?_
  refine T_val (Ev_move rfl) rfl ?_
  refine T_val (Ev_extract rfl rfl) rfl ?_
  refine T_val (Ev_extract rfl rfl) rfl ?_
  refine T_val (Ev_assign rfl) rfl ?_
  refine T_val (Ev_assign rfl) rfl ?_
  refine T_nil ?_
  refine T_next ?_
  refine T_seq ?_
  refine T_reg ?_
  refine T_val (Ev_loadK rfl (i := 0) rfl rfl agg51) rfl ?_
  obtain ⟨r5, h6, hx7⟩ := bnd_some hx4
  refine T_x (Wx_callL rfl (fun w1 hw1 => exact_Ceil_ok p0 (Has.len' ha0') (Has.len' ha1') h6 w1 (okApp (K := K) (K2 := []) hK (by exact (SubE.cons2 (i := 1) rfl (SubE.nil))) (by exact (SubE.nil)) hw1)) rfl ?_)
  rintro _ _ hlo ⟨rfl, rfl, -⟩
  refine T_app0 ?_
  refine T_val (Ev_move rfl) rfl ?_
  refine T_val (Ev_extract rfl rfl) rfl ?_
  refine T_val (Ev_extract rfl rfl) rfl ?_
  refine T_val (Ev_assign rfl) rfl ?_
  refine T_val (Ev_assign rfl) rfl ?_
  refine T_nil ?_
  refine T_next ?_
  obtain ⟨j4, hj4, hx7⟩ := jn_some hx7
  refine T_cutP (τ := Bool) (γ := Unit) (J := j4) (out := r) (fun s4 y4 => [(4, .bool (s4))]) (fun s4 y4 => [] ++ [.old w]) (fun s4 y4 => True) ?_ ?_
  · intro s4 y4 hx20 hG21
    subst hj4
    refine T_retc ?_
    obtain rfl := Option.some.inj hx20
    exact T_retP (rs := [.tmp 4]) Try.results14 (.tmp rfl (.nil)) (Ln := []) ⟨rfl, rfl, trivial⟩ (loNil) (by exact .refl)
  · skip
    refine T_reg ?_
    refine T_val (Ev_move rfl) rfl ?_
    refine T_val (Ev_eql rfl rfl) rfl ?_
    refine T_val (Ev_move rfl) rfl ?_
    refine T_caseP (s := 21) rfl (fun h8 => ?_) (fun h8 => ?_)
    · have hx9 := ite_t h8 hx7
      refine T_valG rfl rfl rfl (Ev_move rfl) rfl ?_
      refine T_valG rfl rfl rfl (Ev_eql rfl rfl) rfl ?_
      refine T_val (Ev_pickT rfl rfl) rfl ?_
      refine T_val (Ev_move rfl) rfl ?_
      refine T_caseP (s := 25) rfl (fun h10 => ?_) (fun h10 => ?_)
      · have hx11 := ite_t h10 hx9
        refine T_valG rfl rfl rfl (Ev_move rfl) rfl ?_
        refine T_valG rfl rfl rfl (Ev_eql rfl rfl) rfl ?_
        refine T_val (Ev_pickT rfl rfl) rfl ?_
        refine T_val (Ev_move rfl) rfl ?_
        refine T_caseP (s := 29) rfl (fun h12 => ?_) (fun h12 => ?_)
        · have hx13 := ite_t h12 hx11
          refine T_valG rfl rfl rfl (Ev_move rfl) rfl ?_
          refine T_valG rfl rfl rfl (Ev_eql rfl rfl) rfl ?_
          refine T_val (Ev_pickT rfl rfl) rfl ?_
          refine T_val (Ev_move rfl) rfl ?_
          refine T_caseP (s := 33) rfl (fun h14 => ?_) (fun h14 => ?_)
          · have hx15 := ite_t h14 hx13
            refine T_valG rfl rfl rfl (Ev_move rfl) rfl ?_
            refine T_valG rfl rfl rfl (Ev_eql rfl rfl) rfl ?_
            refine T_val (Ev_pickT rfl rfl) rfl ?_
            refine T_val (Ev_assign rfl) rfl ?_
            refine T_nil ?_
            exact T_metP (decide (r5.1 = 1)) () hx15 trivial (by exact .cons rfl (.nil)) (by exact .drop 0 rfl (.refl))
          · have hx16 := ite_f h14 hx13
            refine T_skipG rfl rfl rfl rfl rfl ?_
            refine T_skipG rfl rfl rfl rfl rfl ?_
            refine T_val (Ev_pickF rfl rfl) rfl ?_
            refine T_val (Ev_assign rfl) rfl ?_
            refine T_nil ?_
            exact T_metP false () hx16 trivial (by exact .cons rfl (.nil)) (by exact .drop 0 rfl (.refl))
        · have hx17 := ite_f h12 hx11
          refine T_skipG rfl rfl rfl rfl rfl ?_
          refine T_skipG rfl rfl rfl rfl rfl ?_
          refine T_val (Ev_pickF rfl rfl) rfl ?_
          refine T_val (Ev_move rfl) rfl ?_
          refine T_skipG rfl rfl rfl rfl rfl ?_
          refine T_skipG rfl rfl rfl rfl rfl ?_
          refine T_val (Ev_pickF rfl rfl) rfl ?_
          refine T_val (Ev_assign rfl) rfl ?_
          refine T_nil ?_
          exact T_metP false () hx17 trivial (by exact .cons rfl (.nil)) (by exact .drop 0 rfl (.refl))
      · have hx18 := ite_f h10 hx9
        refine T_skipG rfl rfl rfl rfl rfl ?_
        refine T_skipG rfl rfl rfl rfl rfl ?_
        refine T_val (Ev_pickF rfl rfl) rfl ?_
        refine T_val (Ev_move rfl) rfl ?_
        refine T_skipG rfl rfl rfl rfl rfl ?_
        refine T_skipG rfl rfl rfl rfl rfl ?_
        refine T_val (Ev_pickF rfl rfl) rfl ?_
        refine T_val (Ev_move rfl) rfl ?_
        refine T_skipG rfl rfl rfl rfl rfl ?_
        refine T_skipG rfl rfl rfl rfl rfl ?_
        refine T_val (Ev_pickF rfl rfl) rfl ?_
        refine T_val (Ev_assign rfl) rfl ?_
        refine T_nil ?_
        exact T_metP false () hx18 trivial (by exact .cons rfl (.nil)) (by exact .drop 0 rfl (.refl))
    · have hx19 := ite_f h8 hx7
      refine T_skipG rfl rfl rfl rfl rfl ?_
      refine T_skipG rfl rfl rfl rfl rfl ?_
      refine T_val (Ev_pickF rfl rfl) rfl ?_
      refine T_val (Ev_move rfl) rfl ?_
      refine T_skipG rfl rfl rfl rfl rfl ?_
      refine T_skipG rfl rfl rfl rfl rfl ?_
      refine T_val (Ev_pickF rfl rfl) rfl ?_
      refine T_val (Ev_move rfl) rfl ?_
      refine T_skipG rfl rfl rfl rfl rfl ?_
      refine T_skipG rfl rfl rfl rfl rfl ?_
      refine T_val (Ev_pickF rfl rfl) rfl ?_
      refine T_val (Ev_move rfl) rfl ?_
      refine T_skipG rfl rfl rfl rfl rfl ?_
      refine T_skipG rfl rfl rfl rfl rfl ?_
      refine T_val (Ev_pickF rfl rfl) rfl ?_
      refine T_val (Ev_assign rfl) rfl ?_
      refine T_nil ?_
      exact T_metP false () hx19 trivial (by exact .cons rfl (.nil)) (by exact .drop 0 rfl (.refl))
set_option maxRecDepth 100000 in
theorem lidartop_differs_ok   {r : Bool} (hx : lidartop_differs = some r) (w : World) : CtL Try.prog 5 [] w fun v Ln => v = .bool (r) ∧ Ln = [] ∧ True := by
  refine CtL.mk 45 Try.func5 rfl Try.ntmps5 (by kernel_rfl) rfl ?_
  unfold lidartop_differs at hx
  refine T_seq ?_
  refine T_reg ?_
  refine T_val (Ev_assign rfl) rfl ?_
  refine T_nil ?_
  refine T_next ?_
  refine T_seq ?_
  refine T_reg ?_
  refine T_val (Ev_build rfl (bld23_2i643i644i64 _ _ _)) rfl ?_
  refine T_x (Wx_alloc zer23 rfl (fun g1 => ?_))
  refine T_h (Wh_store rfl rfl rfl (.here) (.put (.put (.put (.put (.put (.done)))))) rfl (List.cons_ne_nil _ _) agg23.2 ?_)
  refine T_nil ?_
  refine T_next ?_
  refine T_seq ?_
  refine T_reg ?_
  refine T_val (Ev_loadK rfl (i := 0) rfl rfl agg23) rfl ?_
  refine T_val (Ev_build rfl (bld37_0i641i64 _ _)) rfl ?_
  refine T_val (Ev_build rfl (bld39_1ai64i64 _ _)) rfl ?_
  refine T_x (Wx_buildSlice rfl (bls24_1_0abi64i64 _ _ _) rfl (fun g2 => ?_))
  refine T_val (Ev_build rfl (bld26_0ai64i64i64i64i641s _ _ _ _ _ _ _ _)) rfl ?_
  refine T_x (Wx_alloc zer26 rfl (fun g3 => ?_))
  refine T_h (Wh_store rfl rfl rfl (.here) (.put (.put (.put (.put (.put (.put (.done))))))) rfl (List.cons_ne_nil _ _) agg26.2 ?_)
  refine T_nil ?_
  refine T_next ?_
  refine T_seq ?_
  refine T_reg ?_
  refine T_val (Ev_loadK rfl (i := 2) rfl rfl agg23) rfl ?_
  refine T_val (Ev_build rfl (bld37_0i641i64 _ _)) rfl ?_
  refine T_val (Ev_build rfl (bld39_1ai64i64 _ _)) rfl ?_
  refine T_x (Wx_buildSlice rfl (bls24_1_0abi64i64 _ _ _) rfl (fun g4 => ?_))
  refine T_val (Ev_build rfl (bld26_0ai64i64i64i64i641s _ _ _ _ _ _ _ _)) rfl ?_
  refine T_x (Wx_alloc zer26 rfl (fun g5 => ?_))
  refine T_h (Wh_store rfl rfl rfl (.here) (.put (.put (.put (.put (.put (.put (.done))))))) rfl (List.cons_ne_nil _ _) agg26.2 ?_)
  refine T_nil ?_
  refine T_next ?_
  refine T_seq ?_
  refine T_reg ?_
  refine T_val (Ev_loadK rfl (i := 2) rfl rfl agg26) rfl ?_
  refine T_val (Ev_loadK rfl (i := 0) rfl rfl agg26) rfl ?_
  have hs6 : Has [.m g2 39 [.bool (false), .int .i64 (1), .int .i64 (3)]] (some ⟨g2, 0, none⟩) 1 1 3 e_api_Cell [(⟨false, (⟨1, 3⟩ : S_api_Span)⟩ : S_api_Cell)] := Has.ofM (fun _ _ => rfl) rfl (by decide) rfl
  have hs7 : Has [.m g4 39 [.bool (false), .int .i64 (4), .int .i64 (5)]] (some ⟨g4, 0, none⟩) 1 1 3 e_api_Cell [(⟨false, (⟨4, 5⟩ : S_api_Span)⟩ : S_api_Cell)] := Has.ofM (fun _ _ => rfl) rfl (by decide) rfl
  obtain ⟨r8, h9, hx10⟩ := bnd_some hx
  refine T_x (Wx_callL rfl (fun w1 hw1 => model_Regions_ok (⟨(⟨0, 0, 1, 1, 1⟩ : S_api_Raster), [(⟨false, (⟨1, 3⟩ : S_api_Span)⟩ : S_api_Cell)]⟩ : S_api_Grid) (⟨(⟨0, 0, 1, 1, 1⟩ : S_api_Raster), [(⟨false, (⟨4, 5⟩ : S_api_Span)⟩ : S_api_Cell)]⟩ : S_api_Grid) 1 (Has.len' (Has.up (L := ([.m g2 39 [.bool (false), .int .i64 (1), .int .i64 (3)], .m g4 39 [.bool (false), .int .i64 (4), .int .i64 (5)]] : List Ent)) hs6 (SubE.cons2 (i := 0) rfl (SubE.nil)))) (Has.len' (Has.up (L := ([.m g2 39 [.bool (false), .int .i64 (1), .int .i64 (3)], .m g4 39 [.bool (false), .int .i64 (4), .int .i64 (5)]] : List Ent)) hs7 (SubE.cons2 (i := 1) rfl (SubE.nil)))) h9 w1 (okAll (K := ([.m g2 39 [.bool (false), .int .i64 (1), .int .i64 (3)], .m g4 39 [.bool (false), .int .i64 (4), .int .i64 (5)]] : List Ent)) (by exact (SubE.cons2 (i := 3) rfl (SubE.cons2 (i := 1) rfl (SubE.nil)))) hw1)) rfl ?_)
  rintro _ _ hlo ⟨A11, c12, e13, e14, e15, rfl, rfl, hs16, -⟩
  have lo17 := hlo e13 (by simp)
  have lo18 := hlo e14 (by simp)
  have lo19 := hlo e15 (by simp)
  refine T_app3 ?_
  have hs20 : HasN ([.m g2 39 [.bool (false), .int .i64 (1), .int .i64 (3)], .m g4 39 [.bool (false), .int .i64 (4), .int .i64 (5)], e13, e14, e15] : List Ent) _ _ _ _ _ _ := id hs16
  refine T_val (Ev_move rfl) rfl ?_
  refine T_val (Ev_extract rfl rfl) rfl ?_
  refine T_val (Ev_extract rfl rfl) rfl ?_
  refine T_val (Ev_assign rfl) rfl ?_
  refine T_val (Ev_assign rfl) rfl ?_
  refine T_nil ?_
  refine T_next ?_
  obtain ⟨j6, hj6, hx10⟩ := jn_some hx10
  refine T_cutP (τ := Bool) (γ := Unit) (J := j6) (out := r) (fun s6 y6 => [(0, .bool (s6))]) (fun s6 y6 => [] ++ [.old w]) (fun s6 y6 => True) ?_ ?_
  · intro s6 y6 hx87 hG88
    subst hj6
    refine T_retc ?_
    obtain rfl := Option.some.inj hx87
    exact T_retP (rs := [.tmp 0]) Try.results5 (.tmp rfl (.nil)) (Ln := []) ⟨rfl, rfl, trivial⟩ (loNil) (by exact .refl)
  · skip
    refine T_reg ?_
    refine T_val (Ev_move rfl) rfl ?_
    refine T_val (Ev_eql rfl rfl) rfl ?_
    refine T_val (Ev_move rfl) rfl ?_
    refine T_caseP (s := 25) rfl (fun h21 => ?_) (fun h21 => ?_)
    · have hx22 := ite_t h21 hx10
      refine T_valG rfl rfl rfl (Ev_move rfl) rfl ?_
      refine T_valG rfl rfl rfl (Ev_len rfl 53 Try.underlying44) rfl ?_
      refine T_valG rfl rfl rfl (Ev_eql rfl rfl) rfl ?_
      refine T_val (Ev_pickT rfl rfl) rfl ?_
      refine T_val (Ev_move rfl) rfl ?_
      refine T_caseP (s := 30) rfl (fun h23 => ?_) (fun h23 => ?_)
      · have hx24 := ite_t h23 hx22
        refine T_valG rfl rfl rfl (Ev_move rfl) rfl ?_
        obtain ⟨x25, h26, hx27⟩ := bnd_some hx24
        obtain ⟨b28, o29, j30, ys50, hA31, hj32, hl33, hp34, hr51⟩ := HasN.at_idx hs20 h26
        obtain ⟨A35, c36, A38, c39, A41, c42, A44, c45, A47, c48, rfl, hs37, hs40, hs43, hs46, hs49⟩ := hr51
        refine T_valG rfl rfl rfl (Ev_index rfl rfl hA31 (j := j30) hj32 hl33 slc44) rfl ?_
        refine T_valG rfl rfl rfl (Ev_field rfl fld53_0 rfl) rfl ?_
        refine T_valG rfl rfl rfl (Ev_loadP1 (d := 0) rfl hp34 (SubE.cons2 (i := 6) rfl (SubE.cons2 (i := 4) rfl (SubE.cons2 (i := 0) rfl (SubE.cons2 (i := 1) rfl (SubE.cons2 (i := 2) rfl (SubE.nil)))))) rfl one3) rfl ?_
        refine T_valG rfl rfl rfl (Ev_eql rfl rfl) rfl ?_
        refine T_val (Ev_pickT rfl rfl) rfl ?_
        refine T_val (Ev_move rfl) rfl ?_
        refine T_caseP (s := 37) rfl (fun h52 => ?_) (fun h52 => ?_)
        · have hx53 := ite_t h52 hx27
          refine T_valG rfl rfl rfl (Ev_move rfl) rfl ?_
          obtain ⟨x54, h55, hx56⟩ := bnd_some hx53
          obtain ⟨b57, o58, j59, ys79, hA60, hj61, hl62, hp63, hr80⟩ := HasN.at_idx hs20 h55
          obtain ⟨A64, c65, A67, c68, A70, c71, A73, c74, A76, c77, rfl, hs66, hs69, hs72, hs75, hs78⟩ := hr80
          refine T_valG rfl rfl rfl (Ev_index rfl rfl hA60 (j := j59) hj61 hl62 slc44) rfl ?_
          refine T_valG rfl rfl rfl (Ev_field rfl fld53_2 rfl) rfl ?_
          refine T_valG rfl rfl rfl (Ev_loadPK (d := 2) rfl hp63 (SubE.cons2 (i := 6) rfl (SubE.cons2 (i := 4) rfl (SubE.cons2 (i := 0) rfl (SubE.cons2 (i := 1) rfl (SubE.cons2 (i := 2) rfl (SubE.nil)))))) rfl agg51) rfl ?_
          refine T_valG rfl rfl rfl (Ev_move rfl) rfl ?_
          obtain ⟨r81, h82, hx83⟩ := bnd_some hx56
          refine T_xG rfl rfl rfl (Wx_callL rfl (fun w1 hw1 => lidartop_one_ok x54.Lo r8.2 (Has.len' hs69) (Has.len' hs72) h82 w1 (okAll (K := ([.m g2 39 [.bool (false), .int .i64 (1), .int .i64 (3)], .m g4 39 [.bool (false), .int .i64 (4), .int .i64 (5)], e13, e14, e15] : List Ent)) (by exact (SubE.cons2 (i := 6) rfl (SubE.cons2 (i := 4) rfl (SubE.cons2 (i := 0) rfl (SubE.cons2 (i := 1) rfl (SubE.cons2 (i := 2) rfl (SubE.nil))))))) hw1)) rfl ?_)
          rintro _ _ hlo ⟨rfl, rfl, -⟩
          refine T_app0 ?_
          refine T_val (Ev_pickT rfl rfl) rfl ?_
          refine T_val (Ev_assign rfl) rfl ?_
          refine T_nil ?_
          exact T_metP r81 () hx83 trivial (by exact .cons rfl (.nil)) (by exact .drop 0 rfl (.drop 0 rfl (.drop 0 rfl (.drop 0 rfl (.drop 0 rfl (.drop 0 rfl (.drop 0 rfl (.drop 0 rfl (.refl)))))))))
        · have hx84 := ite_f h52 hx27
          refine T_skipG rfl rfl rfl rfl rfl ?_
          refine T_skipG rfl rfl rfl rfl rfl ?_
          refine T_skipG rfl rfl rfl rfl rfl ?_
          refine T_skipG rfl rfl rfl rfl rfl ?_
          refine T_skipG rfl rfl rfl rfl rfl ?_
          refine T_skipG rfl rfl rfl rfl rfl ?_
          refine T_val (Ev_pickF rfl rfl) rfl ?_
          refine T_val (Ev_assign rfl) rfl ?_
          refine T_nil ?_
          exact T_metP false () hx84 trivial (by exact .cons rfl (.nil)) (by exact .drop 0 rfl (.drop 0 rfl (.drop 0 rfl (.drop 0 rfl (.drop 0 rfl (.drop 0 rfl (.drop 0 rfl (.drop 0 rfl (.refl)))))))))
      · have hx85 := ite_f h23 hx22
        refine T_skipG rfl rfl rfl rfl rfl ?_
        refine T_skipG rfl rfl rfl rfl rfl ?_
        refine T_skipG rfl rfl rfl rfl rfl ?_
        refine T_skipG rfl rfl rfl rfl rfl ?_
        refine T_skipG rfl rfl rfl rfl rfl ?_
        refine T_val (Ev_pickF rfl rfl) rfl ?_
        refine T_val (Ev_move rfl) rfl ?_
        refine T_skipG rfl rfl rfl rfl rfl ?_
        refine T_skipG rfl rfl rfl rfl rfl ?_
        refine T_skipG rfl rfl rfl rfl rfl ?_
        refine T_skipG rfl rfl rfl rfl rfl ?_
        refine T_skipG rfl rfl rfl rfl rfl ?_
        refine T_skipG rfl rfl rfl rfl rfl ?_
        refine T_val (Ev_pickF rfl rfl) rfl ?_
        refine T_val (Ev_assign rfl) rfl ?_
        refine T_nil ?_
        exact T_metP false () hx85 trivial (by exact .cons rfl (.nil)) (by exact .drop 0 rfl (.drop 0 rfl (.drop 0 rfl (.drop 0 rfl (.drop 0 rfl (.drop 0 rfl (.drop 0 rfl (.drop 0 rfl (.refl)))))))))
    · have hx86 := ite_f h21 hx10
      refine T_skipG rfl rfl rfl rfl rfl ?_
      refine T_skipG rfl rfl rfl rfl rfl ?_
      refine T_skipG rfl rfl rfl rfl rfl ?_
      refine T_val (Ev_pickF rfl rfl) rfl ?_
      refine T_val (Ev_move rfl) rfl ?_
      refine T_skipG rfl rfl rfl rfl rfl ?_
      refine T_skipG rfl rfl rfl rfl rfl ?_
      refine T_skipG rfl rfl rfl rfl rfl ?_
      refine T_skipG rfl rfl rfl rfl rfl ?_
      refine T_skipG rfl rfl rfl rfl rfl ?_
      refine T_val (Ev_pickF rfl rfl) rfl ?_
      refine T_val (Ev_move rfl) rfl ?_
      refine T_skipG rfl rfl rfl rfl rfl ?_
      refine T_skipG rfl rfl rfl rfl rfl ?_
      refine T_skipG rfl rfl rfl rfl rfl ?_
      refine T_skipG rfl rfl rfl rfl rfl ?_
      refine T_skipG rfl rfl rfl rfl rfl ?_
      refine T_skipG rfl rfl rfl rfl rfl ?_
      refine T_val (Ev_pickF rfl rfl) rfl ?_
      refine T_val (Ev_assign rfl) rfl ?_
      refine T_nil ?_
      exact T_metP false () hx86 trivial (by exact .cons rfl (.nil)) (by exact .drop 0 rfl (.drop 0 rfl (.drop 0 rfl (.drop 0 rfl (.drop 0 rfl (.drop 0 rfl (.drop 0 rfl (.drop 0 rfl (.refl)))))))))
set_option maxRecDepth 100000 in
theorem lidartop_height_ok (p0 : S_api_Cell) (p1 : Int) (p2 : Int)  {r : Int} (hx : lidartop_height p0 p1 p2 = some r) (w : World) : CtL Try.prog 6 [.agg #[.bool (p0.Void), .int .i64 (p0.Z.Lo), .int .i64 (p0.Z.Hi)], .int .i64 (p1), .int .u32 (p2)] w fun v Ln => v = .int .i64 (r) ∧ Ln = [] ∧ True := by
  refine CtL.mk 28 Try.func6 rfl Try.ntmps6 (by kernel_rfl) rfl ?_
  show T 28 _ [(0, .agg #[.bool (p0.Void), .int .i64 (p0.Z.Lo), .int .i64 (p0.Z.Hi)]), (1, .int .i64 (p1)), (2, .int .u32 (p2))] _
  unfold lidartop_height at hx
  refine T_seq ?_
  refine T_reg ?_
  refine T_x (Wx_box rfl rfl rfl (fun g1 => ?_))
  refine T_val (Ev_assign rfl) rfl ?_
  refine T_nil ?_
  refine T_next ?_
  refine T_seq ?_
  refine T_seq ?_
  refine T_reg ?_
  refine T_val (Ev_field rfl fld39_0 rfl) rfl ?_
  refine T_val (Ev_load1 rfl (i := 0) rfl rfl one4) rfl ?_
  refine T_nil ?_
  refine T_next ?_
  refine T_caseB (s := 8) rfl (fun h2 => ?_) (fun h2 => ?_)
  · have hx3 := ite_t h2 hx
    refine T_condT rfl ?_
    refine T_seq ?_
    refine T_reg ?_
    refine T_val (Ev_move rfl) rfl ?_
    refine T_val (Ev_assign rfl) rfl ?_
    refine T_nil ?_
    refine T_next ?_
    refine T_retc ?_
    refine T_outR ?_
    obtain rfl := Option.some.inj hx3
    exact T_retP (rs := [.tmp 6]) Try.results6 (.tmp rfl (.nil)) (Ln := []) ⟨rfl, rfl, trivial⟩ (loNil) (by exact .drop 0 rfl (.refl))
  · have hx4 := ite_bf h2 hx
    refine T_condF rfl ?_
    refine T_skip ?_
    refine T_next ?_
    refine T_seq ?_
    refine T_draw [0, 0, 1, 0, 0, 0, 0, 0, 0, 0, 1, 0, 0, 1, 0, 0, 0, 0, 2] [[], [0], [0, 1], [], [3], [], [5], [3, 4, 5, 6], [], [8], [8, 9], [], [11], [11, 12], [8, 9, 10, 11, 12, 13], [8, 9, 10, 11, 12, 13, 14], [3, 4, 5, 6, 7, 8, 9, 10, 11, 12, 13, 14, 15], [0, 1, 2, 3, 4, 5, 6, 7, 8, 9, 10, 11, 12, 13, 14, 15, 16], [0, 1, 2, 3, 4, 5, 6, 7, 8, 9, 10, 11, 12, 13, 14, 15, 16, 17]] (.q 0 (.q 1 (.q 2 (.q 3 (.q 4 (.q 5 (.q 6 (.q 7 (.q 8 (.q 9 (.q 10 (.q 11 (.q 12 (.q 13 (.q 14 (.q 15 (.q 16 (.q 17 (.e 18 (.done) (.stop)))))))))))))))))))) mixed (by kernel_rfl) (by kernel_rfl) ?_
    refine P_p rfl rfl (Ev_field rfl fld39_1 rfl) rfl ?_
    refine P_p rfl rfl (Ev_field rfl fld37_0 rfl) rfl ?_
    refine P_q rfl rfl (Ev_load1 rfl (i := 0) rfl rfl one3) rfl ?_
    refine P_p rfl rfl (Ev_move rfl) rfl ?_
    refine P_p rfl rfl (Ev_conv_w64 rfl (by kernel_rfl) Try.underlying3) rfl ?_
    refine P_p rfl rfl (Ev_move rfl) rfl ?_
    refine P_p rfl rfl (Ev_mul_w64 rfl rfl) rfl ?_
    refine P_p rfl rfl (Ev_add_w64 rfl rfl) rfl ?_
    refine P_p rfl rfl (Ev_field rfl fld39_1 rfl) rfl ?_
    refine P_p rfl rfl (Ev_field rfl fld37_1 rfl) rfl ?_
    refine P_q rfl rfl (Ev_load1 rfl (i := 0) rfl rfl one3) rfl ?_
    refine P_p rfl rfl (Ev_field rfl fld39_1 rfl) rfl ?_
    refine P_p rfl rfl (Ev_field rfl fld37_0 rfl) rfl ?_
    refine P_q rfl rfl (Ev_load1 rfl (i := 0) rfl rfl one3) rfl ?_
    refine P_p rfl rfl (Ev_sub_w64 rfl rfl) rfl ?_
    refine P_p rfl rfl (Ev_add_w64 rfl rfl) rfl ?_
    obtain ⟨h5, hx6⟩ := gd_some hx4
    refine P_p rfl rfl (Ev_rem rfl rfl h5) rfl ?_
    refine P_p rfl rfl (Ev_add_w64 rfl rfl) rfl ?_
    refine P_x rfl (Wx_val (Ev_assign rfl) rfl ?_) ?_
    rotate_left; exact P_stop
    refine P_done ?_
    refine T_next ?_
    refine T_retc ?_
    obtain rfl := Option.some.inj hx6
    exact T_retP (rs := [.tmp 6]) Try.results6 (.tmp rfl (.nil)) (Ln := []) ⟨rfl, rfl, trivial⟩ (loNil) (by exact .drop 0 rfl (.refl))
set_option maxHeartbeats 1000000 in
set_option maxRecDepth 100000 in
theorem lidartop_TopChange_ok (p0 : S_lidartop_Change) {K : List Ent} {A0_0 : Option Addr} {c0_0 : Nat} {A0_1 : Option Addr} {c0_1 : Nat} (ha0 : Has K A0_0 (p0.G.Cells).length c0_0 3 e_api_Cell (p0.G.Cells)) (ha1 : Has K A0_1 (p0.Moved).length c0_1 1 e_i16 (p0.Moved)) {r : Bool} (hx : lidartop_TopChange p0 = some r) (w : World) (hK : ∀ e ∈ K, Ent.ok w e) : CtL Try.prog 3 [.agg #[.int .i64 (p0.G.Raster.X0), .int .i64 (p0.G.Raster.Y0), .int .i64 (p0.G.Raster.Step), .int .i64 (p0.G.Raster.NX), .int .i64 (p0.G.Raster.NY), .slice (A0_0) ((p0.G.Cells).length) (c0_0), .int .u32 (p0.Part), .int .u32 (p0.More), .int .u16 (p0.Voids), .slice (A0_1) ((p0.Moved).length) (c0_1), .int .u8 (p0.Few)]] w fun v Ln => v = .bool (r) ∧ Ln = [] ∧ True := by
  have ha0' := Has.up0 ha0
  have ha1' := Has.up0 ha1
  refine CtL.mk 403 Try.func3 rfl Try.ntmps3 (by kernel_rfl) rfl ?_
  show T 403 _ [(0, .agg #[.int .i64 (p0.G.Raster.X0), .int .i64 (p0.G.Raster.Y0), .int .i64 (p0.G.Raster.Step), .int .i64 (p0.G.Raster.NX), .int .i64 (p0.G.Raster.NY), .slice (A0_0) ((p0.G.Cells).length) (c0_0), .int .u32 (p0.Part), .int .u32 (p0.More), .int .u16 (p0.Voids), .slice (A0_1) ((p0.Moved).length) (c0_1), .int .u8 (p0.Few)])] _
  unfold lidartop_TopChange at hx
  refine T_seq ?_
  refine T_reg ?_
  refine T_x (Wx_box rfl rfl rfl (fun g1 => ?_))
  refine T_val (Ev_assign rfl) rfl ?_
  refine T_nil ?_
  refine T_next ?_
  refine T_seq ?_
  refine T_drawR [0, 1, 0, 1, 0, 1, 0, 1, 0, 1, 0, 1, 2, 3, 2, 2, 2, 2, 2] [[], [0], [], [2], [], [4], [], [6], [], [8], [], [10], [], [0, 1, 12], [0, 1, 2, 3, 12, 13], [0, 1, 2, 3, 4, 5, 12, 13, 14], [0, 1, 2, 3, 4, 5, 6, 7, 12, 13, 14, 15], [0, 1, 2, 3, 4, 5, 6, 7, 8, 9, 12, 13, 14, 15, 16], [0, 1, 2, 3, 4, 5, 6, 7, 8, 9, 10, 11, 12, 13, 14, 15, 16, 17]] [3, 5, 7, 9, 11] ([.m g1 31 [.int .i64 (p0.G.Raster.X0), .int .i64 (p0.G.Raster.Y0), .int .i64 (p0.G.Raster.Step), .int .i64 (p0.G.Raster.NX), .int .i64 (p0.G.Raster.NY), .slice (A0_0) ((p0.G.Cells).length) (c0_0), .int .u32 (p0.Part), .int .u32 (p0.More), .int .u16 (p0.Voids), .slice (A0_1) ((p0.Moved).length) (c0_1), .int .u8 (p0.Few)]]) (.q 0 (.q 1 (.q 2 (.q 3 (.q 4 (.q 5 (.q 6 (.q 7 (.q 8 (.q 9 (.q 10 (.q 11 (.e 12 (.e 13 (.e 14 (.e 15 (.e 16 (.e 17 (.e 18 (.done) (.stop)) (.stop)) (.stop)) (.stop)) (.stop)) (.stop)) (.stop)))))))))))))) mixed (by kernel_rfl) (by kernel_rfl) (fun w hw => SubE.ok (by exact ((SubE.cons2 (i := 0) rfl (SubE.nil)))) w hw) ?_
  refine P_p rfl rfl (Ev_field rfl fld31_0 rfl) rfl ?_
  refine P_q rfl rfl (Ev_loadK rfl (i := 0) rfl rfl agg26) rfl ?_
  refine P_p rfl rfl (Ev_field rfl fld31_1 rfl) rfl ?_
  refine P_r rfl rfl (Ev_load1 rfl (i := 0) rfl rfl one27) rfl ?_
  refine P_p rfl rfl (Ev_field rfl fld31_2 rfl) rfl ?_
  refine P_r rfl rfl (Ev_load1 rfl (i := 0) rfl rfl one27) rfl ?_
  refine P_p rfl rfl (Ev_field rfl fld31_3 rfl) rfl ?_
  refine P_r rfl rfl (Ev_load1 rfl (i := 0) rfl rfl one28) rfl ?_
  refine P_p rfl rfl (Ev_field rfl fld31_4 rfl) rfl ?_
  refine P_r rfl rfl (Ev_load1 rfl (i := 0) rfl rfl one29) rfl ?_
  refine P_p rfl rfl (Ev_field rfl fld31_5 rfl) rfl ?_
  refine P_r rfl rfl (Ev_load1 rfl (i := 0) rfl rfl one5) rfl ?_
  refine P_x rfl (Wx_alloc zer26 rfl (fun g2 => ?_)) ?_
  rotate_left; exact P_stop
  refine P_hR rfl rfl (Wh_store rfl rfl rfl (.here) (.put (.put (.put (.put (.put (.put (.done))))))) rfl (List.cons_ne_nil _ _) agg26.2 ?_) ?_
  rotate_left; exact P_stop
  refine T_keep (fun w hw => SubE.ok (by exact ((SubE.cons2 (i := 1) rfl (SubE.nil)))) w hw) ?_
  refine P_x rfl (Wx_val (Ev_assign rfl) rfl ?_) ?_
  rotate_left; exact P_stop
  refine P_x rfl (Wx_val (Ev_assign rfl) rfl ?_) ?_
  rotate_left; exact P_stop
  refine P_x rfl (Wx_val (Ev_assign rfl) rfl ?_) ?_
  rotate_left; exact P_stop
  refine P_x rfl (Wx_val (Ev_assign rfl) rfl ?_) ?_
  rotate_left; exact P_stop
  refine P_x rfl (Wx_val (Ev_assign rfl) rfl ?_) ?_
  rotate_left; exact P_stop
  refine P_done ?_
  refine T_next ?_
  refine T_seq ?_
  obtain ⟨j4, hj4, hx⟩ := jn_some hx
  refine T_cutP (τ := Bool) (γ := Unit) (J := j4) (out := r) (fun s4 y4 => [(3, .pointer (some ⟨g2, 0, none⟩)), (4, .int .u32 (p0.Part)), (5, .int .u32 (p0.More)), (6, .int .u16 (p0.Voids)), (7, .slice (A0_1) ((p0.Moved).length) (c0_1)), (8, .int .u8 (p0.Few)), (64, .bool (s4))]) (fun s4 y4 => [.m g2 26 [.int .i64 (p0.G.Raster.X0), .int .i64 (p0.G.Raster.Y0), .int .i64 (p0.G.Raster.Step), .int .i64 (p0.G.Raster.NX), .int .i64 (p0.G.Raster.NY), .slice (A0_0) ((p0.G.Cells).length) (c0_0)]] ++ [.old w]) (fun s4 y4 => True) ?_ ?_
  · intro s4 y4 hx12 hG13
    subst hj4
    refine T_caseB (s := 64) rfl (fun h14 => ?_) (fun h14 => ?_)
    · have hx15 := ite_t h14 hx12
      refine T_condT rfl ?_
      refine T_seq ?_
      refine T_reg ?_
      obtain ⟨r16, h17, hx18⟩ := bnd_some hx15
      refine T_x (Wx_callL rfl (fun w1 hw1 => lidartop_differs_ok  h17 w1) rfl ?_)
      rintro _ _ hlo ⟨rfl, rfl, -⟩
      refine T_app0 ?_
      refine T_val (Ev_assign rfl) rfl ?_
      refine T_nil ?_
      refine T_next ?_
      refine T_retc ?_
      refine T_outR ?_
      obtain rfl := Option.some.inj hx18
      exact T_retP (rs := [.tmp 2]) Try.results3 (.tmp rfl (.nil)) (Ln := []) ⟨rfl, rfl, trivial⟩ (loNil) (by exact .drop 0 rfl (.refl))
    · have hx19 := ite_bf h14 hx12
      refine T_condF rfl ?_
      refine T_skip ?_
      refine T_next ?_
      obtain ⟨j6, hj6, hx19⟩ := jn_some hx19
      refine T_cutP (τ := Unit) (γ := Nat × Nat) (J := j6) (out := r) (fun s6 y6 => [(3, .pointer (some ⟨g2, 0, none⟩)), (4, .int .u32 (p0.Part)), (5, .int .u32 (p0.More)), (6, .int .u16 (p0.Voids)), (7, .slice (A0_1) ((p0.Moved).length) (c0_1)), (8, .int .u8 (p0.Few)), (9, .pointer (some ⟨y6.1, 0, none⟩)), (10, .pointer (some ⟨y6.2, 0, none⟩))]) (fun s6 y6 => [.m y6.2 26 [.int .i64 (p0.G.Raster.X0), .int .i64 (p0.G.Raster.Y0), .int .i64 (p0.G.Raster.Step), .int .i64 (p0.G.Raster.NX), .int .i64 (p0.G.Raster.NY), .slice (none) (0) (0)], .m y6.1 26 [.int .i64 (p0.G.Raster.X0), .int .i64 (p0.G.Raster.Y0), .int .i64 (p0.G.Raster.Step), .int .i64 (p0.G.Raster.NX), .int .i64 (p0.G.Raster.NY), .slice (none) (0) (0)], .m g2 26 [.int .i64 (p0.G.Raster.X0), .int .i64 (p0.G.Raster.Y0), .int .i64 (p0.G.Raster.Step), .int .i64 (p0.G.Raster.NX), .int .i64 (p0.G.Raster.NY), .slice (A0_0) ((p0.G.Cells).length) (c0_0)]] ++ [.old w]) (fun s6 y6 => True) ?_ ?_
      · intro s6 y6 hx26 hG27
        subst hj6
        refine T_seq ?_
        refine T_reg ?_
        refine T_val (Ev_assign rfl) rfl ?_
        refine T_val (Ev_assign rfl) rfl ?_
        refine T_nil ?_
        refine T_next ?_
        obtain ⟨j8, hj8, hx26⟩ := jn_some hx26
        refine T_cutP (τ := (List S_api_Cell) × (List S_api_Cell) × (List Int) × (List Int)) (γ := (Option Addr) × Nat × (Option Addr) × Nat × (Option Addr) × Nat × (Option Addr) × Nat) (J := j8) (out := r) (fun s8 y8 => [(3, .pointer (some ⟨g2, 0, none⟩)), (8, .int .u8 (p0.Few)), (9, .pointer (some ⟨y6.1, 0, none⟩)), (10, .pointer (some ⟨y6.2, 0, none⟩)), (11, .slice (y8.2.2.2.2.1) ((s8.2.2.1).length) (y8.2.2.2.2.2.1)), (12, .slice (y8.2.2.2.2.2.2.1) ((s8.2.2.2).length) (y8.2.2.2.2.2.2.2))]) (fun s8 y8 => [.r (y8.1) ((s8.1).length) (y8.2.1) 39 3 ((s8.1).flatMap e_api_Cell), .r (y8.2.2.1) ((s8.2.1).length) (y8.2.2.2.1) 39 3 ((s8.2.1).flatMap e_api_Cell), .r (y8.2.2.2.2.1) ((s8.2.2.1).length) (y8.2.2.2.2.2.1) 3 1 ((s8.2.2.1).flatMap e_i64), .r (y8.2.2.2.2.2.2.1) ((s8.2.2.2).length) (y8.2.2.2.2.2.2.2) 3 1 ((s8.2.2.2).flatMap e_i64), .m y6.2 26 [.int .i64 (p0.G.Raster.X0), .int .i64 (p0.G.Raster.Y0), .int .i64 (p0.G.Raster.Step), .int .i64 (p0.G.Raster.NX), .int .i64 (p0.G.Raster.NY), .slice (y8.2.2.1) ((s8.2.1).length) (y8.2.2.2.1)], .m y6.1 26 [.int .i64 (p0.G.Raster.X0), .int .i64 (p0.G.Raster.Y0), .int .i64 (p0.G.Raster.Step), .int .i64 (p0.G.Raster.NX), .int .i64 (p0.G.Raster.NY), .slice (y8.1) ((s8.1).length) (y8.2.1)], .m g2 26 [.int .i64 (p0.G.Raster.X0), .int .i64 (p0.G.Raster.Y0), .int .i64 (p0.G.Raster.Step), .int .i64 (p0.G.Raster.NX), .int .i64 (p0.G.Raster.NY), .slice (A0_0) ((p0.G.Cells).length) (c0_0)]] ++ [.old w]) (fun s8 y8 => True) ?_ ?_
        · intro s8 y8 hx216 hG217
          subst hj8
          refine T_seq ?_
          obtain ⟨j37, hj37, hx216⟩ := jn_some hx216
          refine T_cutP (τ := Bool) (γ := Unit) (J := j37) (out := r) (fun s37 y37 => [(3, .pointer (some ⟨g2, 0, none⟩)), (8, .int .u8 (p0.Few)), (9, .pointer (some ⟨y6.1, 0, none⟩)), (10, .pointer (some ⟨y6.2, 0, none⟩)), (11, .slice (y8.2.2.2.2.1) ((s8.2.2.1).length) (y8.2.2.2.2.2.1)), (12, .slice (y8.2.2.2.2.2.2.1) ((s8.2.2.2).length) (y8.2.2.2.2.2.2.2)), (164, .bool (s37))]) (fun s37 y37 => [.r (y8.1) ((s8.1).length) (y8.2.1) 39 3 ((s8.1).flatMap e_api_Cell), .r (y8.2.2.1) ((s8.2.1).length) (y8.2.2.2.1) 39 3 ((s8.2.1).flatMap e_api_Cell), .r (y8.2.2.2.2.1) ((s8.2.2.1).length) (y8.2.2.2.2.2.1) 3 1 ((s8.2.2.1).flatMap e_i64), .r (y8.2.2.2.2.2.2.1) ((s8.2.2.2).length) (y8.2.2.2.2.2.2.2) 3 1 ((s8.2.2.2).flatMap e_i64), .m y6.2 26 [.int .i64 (p0.G.Raster.X0), .int .i64 (p0.G.Raster.Y0), .int .i64 (p0.G.Raster.Step), .int .i64 (p0.G.Raster.NX), .int .i64 (p0.G.Raster.NY), .slice (y8.2.2.1) ((s8.2.1).length) (y8.2.2.2.1)], .m y6.1 26 [.int .i64 (p0.G.Raster.X0), .int .i64 (p0.G.Raster.Y0), .int .i64 (p0.G.Raster.Step), .int .i64 (p0.G.Raster.NX), .int .i64 (p0.G.Raster.NY), .slice (y8.1) ((s8.1).length) (y8.2.1)], .m g2 26 [.int .i64 (p0.G.Raster.X0), .int .i64 (p0.G.Raster.Y0), .int .i64 (p0.G.Raster.Step), .int .i64 (p0.G.Raster.NX), .int .i64 (p0.G.Raster.NY), .slice (A0_0) ((p0.G.Cells).length) (c0_0)]] ++ [.old w]) (fun s37 y37 => True) ?_ ?_
          · intro s37 y37 hx231 hG232
            subst hj37
            refine T_caseB (s := 164) rfl (fun h233 => ?_) (fun h233 => ?_)
            · have hx234 := ite_t h233 hx231
              refine T_condT rfl ?_
              refine T_seq ?_
              refine T_reg ?_
              obtain ⟨r235, h236, hx237⟩ := bnd_some hx234
              refine T_x (Wx_callL rfl (fun w1 hw1 => lidartop_differs_ok  h236 w1) rfl ?_)
              rintro _ _ hlo ⟨rfl, rfl, -⟩
              refine T_app0 ?_
              refine T_val (Ev_assign rfl) rfl ?_
              refine T_nil ?_
              refine T_next ?_
              refine T_retc ?_
              refine T_outR ?_
              obtain rfl := Option.some.inj hx237
              exact T_retP (rs := [.tmp 2]) Try.results3 (.tmp rfl (.nil)) (Ln := []) ⟨rfl, rfl, trivial⟩ (loNil) (by exact .drop 0 rfl (.drop 0 rfl (.drop 0 rfl (.drop 0 rfl (.drop 0 rfl (.drop 0 rfl (.drop 0 rfl (.refl))))))))
            · have hx238 := ite_bf h233 hx231
              refine T_condF rfl ?_
              refine T_skip ?_
              refine T_next ?_
              refine T_seq ?_
              refine T_reg ?_
              refine T_val (Ev_loadK rfl (i := 6) rfl rfl agg26) rfl ?_
              refine T_val (Ev_loadK rfl (i := 5) rfl rfl agg26) rfl ?_
              refine T_rowP (k := 0) rfl (by decide) (fun _ => rfl) (fun hn239 hs240 => ?_)
              obtain ⟨r241, h242, hx243⟩ := bnd_some hx238
              refine T_x (Wx_callL rfl (fun w1 hw1 => model_Consistent_ok p0.G (⟨p0.G.Raster, s8.1⟩ : S_api_Grid) (Has.len' (Has.up (L := (K ++ [.r (y8.1) ((s8.1).length) (y8.2.1) 39 3 ((s8.1).flatMap e_api_Cell)])) ha0' (SubE.app2 SubE.nil))) (Has.len' (Has.up (L := (K ++ [.r (y8.1) ((s8.1).length) (y8.2.1) 39 3 ((s8.1).flatMap e_api_Cell)])) hs240 (SubE.appR2 (SubE.cons2 (i := 0) rfl (SubE.nil))))) h242 w1 (okApp (K := K) (K2 := [.r (y8.1) ((s8.1).length) (y8.2.1) 39 3 ((s8.1).flatMap e_api_Cell)]) hK (by exact (SubE.cons2 (i := 7) rfl (SubE.nil))) (by exact (SubE.cons2 (i := 0) rfl (SubE.nil))) hw1)) rfl ?_)
              rintro _ _ hlo ⟨rfl, rfl, -⟩
              refine T_app0 ?_
              refine T_val (Ev_move rfl) rfl ?_
              refine T_val (Ev_extract rfl rfl) rfl ?_
              refine T_val (Ev_extract rfl rfl) rfl ?_
              refine T_val (Ev_assign rfl) rfl ?_
              refine T_val (Ev_assign rfl) rfl ?_
              refine T_nil ?_
              refine T_next ?_
              refine T_seq ?_
              refine T_reg ?_
              refine T_val (Ev_loadK rfl (i := 6) rfl rfl agg26) rfl ?_
              refine T_val (Ev_loadK rfl (i := 5) rfl rfl agg26) rfl ?_
              refine T_rowP (k := 0) rfl (by decide) (fun _ => rfl) (fun hn244 hs245 => ?_)
              obtain ⟨r246, h247, hx248⟩ := bnd_some hx243
              refine T_x (Wx_callL rfl (fun w1 hw1 => model_Regions_ok p0.G (⟨p0.G.Raster, s8.1⟩ : S_api_Grid) 1 (Has.len' (Has.up (L := (K ++ [.r (y8.1) ((s8.1).length) (y8.2.1) 39 3 ((s8.1).flatMap e_api_Cell)])) ha0' (SubE.app2 SubE.nil))) (Has.len' (Has.up (L := (K ++ [.r (y8.1) ((s8.1).length) (y8.2.1) 39 3 ((s8.1).flatMap e_api_Cell)])) hs245 (SubE.appR2 (SubE.cons2 (i := 0) rfl (SubE.nil))))) h247 w1 (okApp (K := K) (K2 := [.r (y8.1) ((s8.1).length) (y8.2.1) 39 3 ((s8.1).flatMap e_api_Cell)]) hK (by exact (SubE.cons2 (i := 7) rfl (SubE.nil))) (by exact (SubE.cons2 (i := 0) rfl (SubE.nil))) hw1)) rfl ?_)
              rintro _ _ hlo ⟨A249, c250, e251, e252, e253, rfl, rfl, hs254, -⟩
              have lo255 := hlo e251 (by simp)
              have lo256 := hlo e252 (by simp)
              have lo257 := hlo e253 (by simp)
              refine T_app3 ?_
              have hs258 : HasN (K ++ [.r (y8.1) ((s8.1).length) (y8.2.1) 39 3 ((s8.1).flatMap e_api_Cell), e251, e252, e253]) _ _ _ _ _ _ := HasN.assoc hs254
              refine T_val (Ev_move rfl) rfl ?_
              refine T_val (Ev_extract rfl rfl) rfl ?_
              refine T_val (Ev_extract rfl rfl) rfl ?_
              refine T_val (Ev_assign rfl) rfl ?_
              refine T_val (Ev_assign rfl) rfl ?_
              refine T_nil ?_
              refine T_next ?_
              refine T_seq ?_
              refine T_reg ?_
              refine T_val (Ev_loadK rfl (i := 9) rfl rfl agg26) rfl ?_
              refine T_val (Ev_loadK rfl (i := 8) rfl rfl agg26) rfl ?_
              refine T_rowP (k := 3) rfl (by decide) (fun _ => rfl) (fun hn259 hs260 => ?_)
              obtain ⟨r261, h262, hx263⟩ := bnd_some hx248
              refine T_x (Wx_callL rfl (fun w1 hw1 => model_Common_ok p0.G (⟨p0.G.Raster, s8.1⟩ : S_api_Grid) (Has.len' (Has.up (L := (K ++ [.r (y8.1) ((s8.1).length) (y8.2.1) 39 3 ((s8.1).flatMap e_api_Cell)])) ha0' (SubE.app2 SubE.nil))) (Has.len' (Has.up (L := (K ++ [.r (y8.1) ((s8.1).length) (y8.2.1) 39 3 ((s8.1).flatMap e_api_Cell)])) hs260 (SubE.appR2 (SubE.cons2 (i := 0) rfl (SubE.nil))))) h262 w1 (okApp (K := K) (K2 := [.r (y8.1) ((s8.1).length) (y8.2.1) 39 3 ((s8.1).flatMap e_api_Cell)]) hK (by exact (SubE.cons2 (i := 10) rfl (SubE.nil))) (by exact (SubE.cons2 (i := 3) rfl (SubE.nil))) hw1)) rfl ?_)
              rintro _ _ hlo ⟨A264, c265, rfl, rfl, -⟩
              refine T_app1 ?_
              refine T_val (Ev_move rfl) rfl ?_
              refine T_val (Ev_extract rfl rfl) rfl ?_
              refine T_val (Ev_extract rfl rfl) rfl ?_
              refine T_x (Wx_alloc zer26 rfl (fun g266 => ?_))
              refine T_h (Wh_store rfl rfl rfl (.here) (.put (.put (.put (.put (.put (.put (.done))))))) rfl (List.cons_ne_nil _ _) agg26.2 ?_)
              refine T_val (Ev_assign rfl) rfl ?_
              refine T_nil ?_
              refine T_next ?_
              refine T_seq ?_
              obtain ⟨j43, hj43, hx263⟩ := jn_some hx263
              refine T_cutP (τ := Bool) (γ := Unit) (J := j43) (out := r) (fun s43 y43 => [(3, .pointer (some ⟨g2, 0, none⟩)), (8, .int .u8 (p0.Few)), (9, .pointer (some ⟨y6.1, 0, none⟩)), (10, .pointer (some ⟨y6.2, 0, none⟩)), (11, .slice (y8.2.2.2.2.1) ((s8.2.2.1).length) (y8.2.2.2.2.2.1)), (12, .slice (y8.2.2.2.2.2.2.1) ((s8.2.2.2).length) (y8.2.2.2.2.2.2.2)), (24, .pointer (some ⟨g266, 0, none⟩)), (210, .bool (s43))]) (fun s43 y43 => [.m g266 26 [.int .i64 (r261.1.Raster.X0), .int .i64 (r261.1.Raster.Y0), .int .i64 (r261.1.Raster.Step), .int .i64 (r261.1.Raster.NX), .int .i64 (r261.1.Raster.NY), .slice (A264) ((r261.1.Cells).length) (c265)], .r (A264) ((r261.1.Cells).length) (c265) 39 3 ((r261.1.Cells).flatMap e_api_Cell), .r (y8.1) ((s8.1).length) (y8.2.1) 39 3 ((s8.1).flatMap e_api_Cell), .r (y8.2.2.1) ((s8.2.1).length) (y8.2.2.2.1) 39 3 ((s8.2.1).flatMap e_api_Cell), .r (y8.2.2.2.2.1) ((s8.2.2.1).length) (y8.2.2.2.2.2.1) 3 1 ((s8.2.2.1).flatMap e_i64), .r (y8.2.2.2.2.2.2.1) ((s8.2.2.2).length) (y8.2.2.2.2.2.2.2) 3 1 ((s8.2.2.2).flatMap e_i64), .m y6.2 26 [.int .i64 (p0.G.Raster.X0), .int .i64 (p0.G.Raster.Y0), .int .i64 (p0.G.Raster.Step), .int .i64 (p0.G.Raster.NX), .int .i64 (p0.G.Raster.NY), .slice (y8.2.2.1) ((s8.2.1).length) (y8.2.2.2.1)], .m y6.1 26 [.int .i64 (p0.G.Raster.X0), .int .i64 (p0.G.Raster.Y0), .int .i64 (p0.G.Raster.Step), .int .i64 (p0.G.Raster.NX), .int .i64 (p0.G.Raster.NY), .slice (y8.1) ((s8.1).length) (y8.2.1)], .m g2 26 [.int .i64 (p0.G.Raster.X0), .int .i64 (p0.G.Raster.Y0), .int .i64 (p0.G.Raster.Step), .int .i64 (p0.G.Raster.NX), .int .i64 (p0.G.Raster.NY), .slice (A0_0) ((p0.G.Cells).length) (c0_0)]] ++ [.old w]) (fun s43 y43 => True) ?_ ?_
              · intro s43 y43 hx282 hG283
                subst hj43
                refine T_caseB (s := 210) rfl (fun h284 => ?_) (fun h284 => ?_)
                · have hx285 := ite_t h284 hx282
                  refine T_condT rfl ?_
                  refine T_seq ?_
                  refine T_reg ?_
                  refine T_val (Ev_assign rfl) rfl ?_
                  refine T_nil ?_
                  refine T_next ?_
                  refine T_retc ?_
                  refine T_outR ?_
                  obtain rfl := Option.some.inj hx285
                  exact T_retP (rs := [.tmp 2]) Try.results3 (.tmp rfl (.nil)) (Ln := []) ⟨rfl, rfl, trivial⟩ (loNil) (by exact .drop 0 rfl (.drop 0 rfl (.drop 0 rfl (.drop 0 rfl (.drop 0 rfl (.drop 0 rfl (.drop 0 rfl (.drop 0 rfl (.drop 0 rfl (.refl))))))))))
                · have hx286 := ite_bf h284 hx282
                  refine T_condF rfl ?_
                  refine T_skip ?_
                  refine T_next ?_
                  obtain ⟨j45, hj45, hx286⟩ := jn_some hx286
                  refine T_cutP (τ := Unit) (γ := Unit) (J := j45) (out := r) (fun s45 y45 => [(3, .pointer (some ⟨g2, 0, none⟩)), (8, .int .u8 (p0.Few)), (10, .pointer (some ⟨y6.2, 0, none⟩)), (11, .slice (y8.2.2.2.2.1) ((s8.2.2.1).length) (y8.2.2.2.2.2.1)), (12, .slice (y8.2.2.2.2.2.2.1) ((s8.2.2.2).length) (y8.2.2.2.2.2.2.2))]) (fun s45 y45 => [.r (y8.2.2.1) ((s8.2.1).length) (y8.2.2.2.1) 39 3 ((s8.2.1).flatMap e_api_Cell), .r (y8.2.2.2.2.1) ((s8.2.2.1).length) (y8.2.2.2.2.2.1) 3 1 ((s8.2.2.1).flatMap e_i64), .r (y8.2.2.2.2.2.2.1) ((s8.2.2.2).length) (y8.2.2.2.2.2.2.2) 3 1 ((s8.2.2.2).flatMap e_i64), .m y6.2 26 [.int .i64 (p0.G.Raster.X0), .int .i64 (p0.G.Raster.Y0), .int .i64 (p0.G.Raster.Step), .int .i64 (p0.G.Raster.NX), .int .i64 (p0.G.Raster.NY), .slice (y8.2.2.1) ((s8.2.1).length) (y8.2.2.2.1)], .m g2 26 [.int .i64 (p0.G.Raster.X0), .int .i64 (p0.G.Raster.Y0), .int .i64 (p0.G.Raster.Step), .int .i64 (p0.G.Raster.NX), .int .i64 (p0.G.Raster.NY), .slice (A0_0) ((p0.G.Cells).length) (c0_0)]] ++ [.old w]) (fun s45 y45 => True) ?_ ?_
                  · intro s45 y45 hx503 hG504
                    subst hj45
                    refine T_seq ?_
                    refine T_reg ?_
                    refine T_val (Ev_loadK rfl (i := 4) rfl rfl agg26) rfl ?_
                    refine T_val (Ev_loadK rfl (i := 3) rfl rfl agg26) rfl ?_
                    refine T_val (Ev_move rfl) rfl ?_
                    refine T_val (Ev_conv_w64 rfl (by kernel_rfl) Try.underlying3) rfl ?_
                    refine T_val (Ev_rem rfl rfl (by decide)) rfl ?_
                    refine T_val (Ev_add_w64 rfl rfl) rfl ?_
                    refine T_rowP (k := 0) rfl (by decide) (fun _ => rfl) (fun hn505 hs506 => ?_)
                    obtain ⟨r507, h508, hx509⟩ := bnd_some hx503
                    refine T_x (Wx_callL rfl (fun w1 hw1 => model_Regions_ok p0.G (⟨p0.G.Raster, s8.2.1⟩ : S_api_Grid) (w64 (1 + (Int.tmod (w64 (p0.Few)) 9))) (Has.len' (Has.up (L := (K ++ [.r (y8.2.2.1) ((s8.2.1).length) (y8.2.2.2.1) 39 3 ((s8.2.1).flatMap e_api_Cell)])) ha0' (SubE.app2 SubE.nil))) (Has.len' (Has.up (L := (K ++ [.r (y8.2.2.1) ((s8.2.1).length) (y8.2.2.2.1) 39 3 ((s8.2.1).flatMap e_api_Cell)])) hs506 (SubE.appR2 (SubE.cons2 (i := 0) rfl (SubE.nil))))) h508 w1 (okApp (K := K) (K2 := [.r (y8.2.2.1) ((s8.2.1).length) (y8.2.2.2.1) 39 3 ((s8.2.1).flatMap e_api_Cell)]) hK (by exact (SubE.cons2 (i := 5) rfl (SubE.nil))) (by exact (SubE.cons2 (i := 0) rfl (SubE.nil))) hw1)) rfl ?_)
                    rintro _ _ hlo ⟨A510, c511, e512, e513, e514, rfl, rfl, hs515, -⟩
                    have lo516 := hlo e512 (by simp)
                    have lo517 := hlo e513 (by simp)
                    have lo518 := hlo e514 (by simp)
                    refine T_app3 ?_
                    have hs519 : HasN (K ++ [.r (y8.2.2.1) ((s8.2.1).length) (y8.2.2.2.1) 39 3 ((s8.2.1).flatMap e_api_Cell), e512, e513, e514]) _ _ _ _ _ _ := HasN.assoc hs515
                    refine T_val (Ev_move rfl) rfl ?_
                    refine T_val (Ev_extract rfl rfl) rfl ?_
                    refine T_val (Ev_extract rfl rfl) rfl ?_
                    refine T_val (Ev_assign rfl) rfl ?_
                    refine T_val (Ev_assign rfl) rfl ?_
                    refine T_nil ?_
                    refine T_next ?_
                    refine T_seq ?_
                    refine T_seq ?_
                    refine T_reg ?_
                    refine T_val (Ev_move rfl) rfl ?_
                    refine T_val (Ev_neq rfl rfl) rfl ?_
                    refine T_nil ?_
                    refine T_next ?_
                    refine T_caseNP (s := 275) rfl (fun h520 => ?_) (fun h520 => ?_)
                    · have hx521 := ite_f h520 hx509
                      refine T_condT rfl ?_
                      refine T_seq ?_
                      refine T_reg ?_
                      refine T_val (Ev_assign rfl) rfl ?_
                      refine T_nil ?_
                      refine T_next ?_
                      refine T_retc ?_
                      refine T_outR ?_
                      obtain rfl := Option.some.inj hx521
                      exact T_retP (rs := [.tmp 2]) Try.results3 (.tmp rfl (.nil)) (Ln := []) ⟨rfl, rfl, trivial⟩ (loNil) (by exact .drop 0 rfl (.drop 0 rfl (.drop 0 rfl (.drop 0 rfl (.drop 0 rfl (.drop 0 rfl (.drop 0 rfl (.drop 0 rfl (.refl)))))))))
                    · have hx522 := ite_t h520 hx509
                      refine T_condF rfl ?_
                      refine T_skip ?_
                      refine T_next ?_
                      obtain ⟨j63, hj63, hx522⟩ := jn_some hx522
                      refine T_cutP (τ := Unit) (γ := Unit) (J := j63) (out := r) (fun s63 y63 => []) (fun s63 y63 => [] ++ [.old w]) (fun s63 y63 => True) ?_ ?_
                      · intro s63 y63 hx1601 hG1602
                        subst hj63
                        refine T_seq ?_
                        refine T_reg ?_
                        obtain ⟨r1603, h1604, hx1605⟩ := bnd_some hx1601
                        refine T_x (Wx_callL rfl (fun w1 hw1 => lidartop_differs_ok  h1604 w1) rfl ?_)
                        rintro _ _ hlo ⟨rfl, rfl, -⟩
                        refine T_app0 ?_
                        refine T_val (Ev_assign rfl) rfl ?_
                        refine T_nil ?_
                        refine T_next ?_
                        refine T_retc ?_
                        obtain rfl := Option.some.inj hx1605
                        exact T_retP (rs := [.tmp 2]) Try.results3 (.tmp rfl (.nil)) (Ln := []) ⟨rfl, rfl, trivial⟩ (loNil) (by exact .refl)
                      · skip
                        refine T_seq ?_
                        refine T_reg ?_
                        refine T_val (Ev_assign rfl) rfl ?_
                        refine T_nil ?_
                        refine T_next ?_
                        refine T_block ?_
                        obtain ⟨t1062, hl1062, ho1062⟩ := bnd_some hx522
                        refine T_loopP (σ := Int) (γ := Unit) hl1062 (fun s1062 y1062 => [(3, .pointer (some ⟨g2, 0, none⟩)), (8, .int .u8 (p0.Few)), (11, .slice (y8.2.2.2.2.1) ((s8.2.2.1).length) (y8.2.2.2.2.2.1)), (12, .slice (y8.2.2.2.2.2.2.1) ((s8.2.2.2).length) (y8.2.2.2.2.2.2.2)), (28, .slice (A510) ((r507.1).length) (c511)), (29, .int .i64 (s1062))]) (fun s1062 y1062 => [e512, e513, e514, .r (y8.2.2.1) ((s8.2.1).length) (y8.2.2.2.1) 39 3 ((s8.2.1).flatMap e_api_Cell), .r (y8.2.2.2.2.1) ((s8.2.2.1).length) (y8.2.2.2.2.2.1) 3 1 ((s8.2.2.1).flatMap e_i64), .r (y8.2.2.2.2.2.2.1) ((s8.2.2.2).length) (y8.2.2.2.2.2.2.2) 3 1 ((s8.2.2.2).flatMap e_i64), .m g2 26 [.int .i64 (p0.G.Raster.X0), .int .i64 (p0.G.Raster.Y0), .int .i64 (p0.G.Raster.Step), .int .i64 (p0.G.Raster.NX), .int .i64 (p0.G.Raster.NY), .slice (A0_0) ((p0.G.Cells).length) (c0_0)]] ++ [.old w]) (fun s1062 y1062 => True) () trivial (by exact .cons rfl (.cons rfl (.cons rfl (.cons rfl (.cons rfl (.cons rfl (.nil))))))) (by exact .pick 0 rfl (.pick 0 rfl (.pick 0 rfl (.pick 0 rfl (.pick 0 rfl (.pick 0 rfl (.pick 1 rfl (.drop 0 rfl (.refl))))))))) ?_
                        intro s1062 y1062 hG1062 x1062 hx1062 ht1062
                        unfold lidartop_TopChange_l37 at hx1062
                        refine T_seq ?_
                        refine T_seq ?_
                        refine T_reg ?_
                        refine T_val (Ev_move rfl) rfl ?_
                        refine T_val (Ev_move rfl) rfl ?_
                        refine T_val (Ev_len rfl 53 Try.underlying44) rfl ?_
                        refine T_val (Ev_lss rfl rfl) rfl ?_
                        refine T_nil ?_
                        refine T_next ?_
                        refine T_caseP (s := 279) rfl (fun h1063 => ?_) (fun h1063 => ?_)
                        · have hx1064 := ite_t h1063 hx1062
                          refine T_condT rfl ?_
                          refine T_skip ?_
                          refine T_next ?_
                          refine T_seq ?_
                          refine T_block ?_
                          refine T_seq ?_
                          refine T_reg ?_
                          refine T_val (Ev_assign rfl) rfl ?_
                          refine T_nil ?_
                          refine T_next ?_
                          obtain ⟨j94, hj94, hx1064⟩ := jn_some hx1064
                          refine T_cutP (τ := Int) (γ := Unit) (J := j94) (out := x1062) (fun s94 y94 => [(3, .pointer (some ⟨g2, 0, none⟩)), (8, .int .u8 (p0.Few)), (11, .slice (y8.2.2.2.2.1) ((s8.2.2.1).length) (y8.2.2.2.2.2.1)), (12, .slice (y8.2.2.2.2.2.2.1) ((s8.2.2.2).length) (y8.2.2.2.2.2.2.2)), (28, .slice (A510) ((r507.1).length) (c511)), (29, .int .i64 (s1062)), (30, .int .i64 (s94))]) (fun s94 y94 => [e512, e513, e514, .r (y8.2.2.1) ((s8.2.1).length) (y8.2.2.2.1) 39 3 ((s8.2.1).flatMap e_api_Cell), .r (y8.2.2.2.2.1) ((s8.2.2.1).length) (y8.2.2.2.2.2.1) 3 1 ((s8.2.2.1).flatMap e_i64), .r (y8.2.2.2.2.2.2.1) ((s8.2.2.2).length) (y8.2.2.2.2.2.2.2) 3 1 ((s8.2.2.2).flatMap e_i64), .m g2 26 [.int .i64 (p0.G.Raster.X0), .int .i64 (p0.G.Raster.Y0), .int .i64 (p0.G.Raster.Step), .int .i64 (p0.G.Raster.NX), .int .i64 (p0.G.Raster.NY), .slice (A0_0) ((p0.G.Cells).length) (c0_0)]] ++ [.old w]) (fun s94 y94 => True) ?_ ?_
                          · intro s94 y94 hx1374 hG1375
                            subst hj94
                            obtain ⟨j110, hj110, hx1374⟩ := jn_some hx1374
                            refine T_cutP (τ := Bool × (List Int) × (List Int) × Int) (γ := Nat × (Option Addr) × Nat × (Option Addr) × Nat) (J := j110) (out := x1062) (fun s110 y110 => [(3, .pointer (some ⟨g2, 0, none⟩)), (8, .int .u8 (p0.Few)), (11, .slice (y8.2.2.2.2.1) ((s8.2.2.1).length) (y8.2.2.2.2.2.1)), (12, .slice (y8.2.2.2.2.2.2.1) ((s8.2.2.2).length) (y8.2.2.2.2.2.2.2)), (28, .slice (A510) ((r507.1).length) (c511)), (29, .int .i64 (s1062)), (33, .pointer (some ⟨y110.1, 0, none⟩)), (34, .int .i64 (s110.2.2.2))]) (fun s110 y110 => [.m y110.1 51 [.bool (s110.1), .slice (y110.2.1) ((s110.2.1).length) (y110.2.2.1), .slice (y110.2.2.2.1) ((s110.2.2.1).length) (y110.2.2.2.2)], .r (y110.2.1) ((s110.2.1).length) (y110.2.2.1) 27 1 ((s110.2.1).flatMap e_u32), .r (y110.2.2.2.1) ((s110.2.2.1).length) (y110.2.2.2.2) 27 1 ((s110.2.2.1).flatMap e_u32), e512, e513, e514, .r (y8.2.2.1) ((s8.2.1).length) (y8.2.2.2.1) 39 3 ((s8.2.1).flatMap e_api_Cell), .r (y8.2.2.2.2.1) ((s8.2.2.1).length) (y8.2.2.2.2.2.1) 3 1 ((s8.2.2.1).flatMap e_i64), .r (y8.2.2.2.2.2.2.1) ((s8.2.2.2).length) (y8.2.2.2.2.2.2.2) 3 1 ((s8.2.2.2).flatMap e_i64), .m g2 26 [.int .i64 (p0.G.Raster.X0), .int .i64 (p0.G.Raster.Y0), .int .i64 (p0.G.Raster.Step), .int .i64 (p0.G.Raster.NX), .int .i64 (p0.G.Raster.NY), .slice (A0_0) ((p0.G.Cells).length) (c0_0)]] ++ [.old w]) (fun s110 y110 => True) ?_ ?_
                            · intro s110 y110 hx1481 hG1482
                              subst hj110
                              refine T_seq ?_
                              refine T_draw [0, 0, 0, 0, 1, 1, 2, 0, 0, 0, 2, 2] [[], [], [0, 1], [0, 1, 2], [0, 1, 2, 3], [], [0, 1, 2, 3, 4, 5], [0, 1, 2, 3, 4, 5, 6], [0, 1, 2, 3, 4, 5, 6, 7], [0, 1, 2, 3, 4, 5, 6, 7], [0, 1, 2, 3, 4, 5, 6, 7, 8], [0, 1, 2, 3, 4, 5, 6, 7, 8, 9, 10]] (.q 0 (.q 1 (.q 2 (.q 3 (.q 4 (.q 5 (.e 6 (.q 7 (.q 8 (.q 9 (.e 10 (.e 11 (.done) (.stop)) (.stop))))) (.stop)))))))) mixed (by kernel_rfl) (by kernel_rfl) ?_
                              refine P_p rfl rfl (Ev_move rfl) rfl ?_
                              refine P_p rfl rfl (Ev_move rfl) rfl ?_
                              obtain ⟨x1483, h1484, hx1485⟩ := bnd_some hx1481
                              obtain ⟨b1486, o1487, j1488, ys1508, hA1489, hj1490, hl1491, hp1492, hr1509⟩ := HasN.at_idx hs519 h1484
                              obtain ⟨A1493, c1494, A1496, c1497, A1499, c1500, A1502, c1503, A1505, c1506, rfl, hs1495, hs1498, hs1501, hs1504, hs1507⟩ := hr1509
                              have hp1510 := Pt.low (E := [.r (y8.2.2.1) ((s8.2.1).length) (y8.2.2.2.1) 39 3 ((s8.2.1).flatMap e_api_Cell), e512, e513, e514]) hp1492 hK
                              refine P_p rfl rfl (Ev_index rfl rfl hA1489 (j := j1488) hj1490 hl1491 slc44) rfl ?_
                              refine P_p rfl rfl (Ev_field rfl fld53_2 rfl) rfl ?_
                              refine P_q rfl rfl (Ev_loadPK (d := 2) rfl hp1510 (SubE.cons2 (i := 10) rfl (SubE.cons2 (i := 6) rfl (SubE.cons2 (i := 3) rfl (SubE.cons2 (i := 4) rfl (SubE.cons2 (i := 5) rfl (SubE.nil)))))) rfl agg51) rfl ?_
                              refine P_q rfl rfl (Ev_loadK rfl (i := 0) rfl rfl agg51) rfl ?_
                              refine T_rowP (k := 1) rfl (by decide) (fun _ => rfl) (fun hn1511 hs1512 => ?_)
                              refine T_rowP (k := 2) rfl (by decide) (fun _ => rfl) (fun hn1513 hs1514 => ?_)
                              obtain ⟨r1515, h1516, hx1517⟩ := bnd_some hx1485
                              refine P_x rfl (Wx_callL rfl (fun w1 hw1 => exact_Cmp_ok x1483.Lo (⟨s110.1, s110.2.1, s110.2.2.1⟩ : S_api_Rat) (Has.len' (Has.up (L := (K ++ [.r (y8.2.2.1) ((s8.2.1).length) (y8.2.2.2.1) 39 3 ((s8.2.1).flatMap e_api_Cell), e512, e513, e514, .r (y110.2.1) ((s110.2.1).length) (y110.2.2.1) 27 1 ((s110.2.1).flatMap e_u32), .r (y110.2.2.2.1) ((s110.2.2.1).length) (y110.2.2.2.2) 27 1 ((s110.2.2.1).flatMap e_u32)])) hs1498 (SubE.app2 (SubE.cons2 (i := 0) rfl (SubE.cons2 (i := 1) rfl (SubE.cons2 (i := 2) rfl (SubE.cons2 (i := 3) rfl (SubE.nil)))))))) (Has.len' (Has.up (L := (K ++ [.r (y8.2.2.1) ((s8.2.1).length) (y8.2.2.2.1) 39 3 ((s8.2.1).flatMap e_api_Cell), e512, e513, e514, .r (y110.2.1) ((s110.2.1).length) (y110.2.2.1) 27 1 ((s110.2.1).flatMap e_u32), .r (y110.2.2.2.1) ((s110.2.2.1).length) (y110.2.2.2.2) 27 1 ((s110.2.2.1).flatMap e_u32)])) hs1501 (SubE.app2 (SubE.cons2 (i := 0) rfl (SubE.cons2 (i := 1) rfl (SubE.cons2 (i := 2) rfl (SubE.cons2 (i := 3) rfl (SubE.nil)))))))) (Has.len' (Has.up (L := (K ++ [.r (y8.2.2.1) ((s8.2.1).length) (y8.2.2.2.1) 39 3 ((s8.2.1).flatMap e_api_Cell), e512, e513, e514, .r (y110.2.1) ((s110.2.1).length) (y110.2.2.1) 27 1 ((s110.2.1).flatMap e_u32), .r (y110.2.2.2.1) ((s110.2.2.1).length) (y110.2.2.2.2) 27 1 ((s110.2.2.1).flatMap e_u32)])) hs1512 (SubE.appR2 (SubE.cons2 (i := 4) rfl (SubE.nil))))) (Has.len' (Has.up (L := (K ++ [.r (y8.2.2.1) ((s8.2.1).length) (y8.2.2.2.1) 39 3 ((s8.2.1).flatMap e_api_Cell), e512, e513, e514, .r (y110.2.1) ((s110.2.1).length) (y110.2.2.1) 27 1 ((s110.2.1).flatMap e_u32), .r (y110.2.2.2.1) ((s110.2.2.1).length) (y110.2.2.2.2) 27 1 ((s110.2.2.1).flatMap e_u32)])) hs1514 (SubE.appR2 (SubE.cons2 (i := 5) rfl (SubE.nil))))) h1516 w1 (okApp (K := K) (K2 := [.r (y8.2.2.1) ((s8.2.1).length) (y8.2.2.2.1) 39 3 ((s8.2.1).flatMap e_api_Cell), e512, e513, e514, .r (y110.2.1) ((s110.2.1).length) (y110.2.2.1) 27 1 ((s110.2.1).flatMap e_u32), .r (y110.2.2.2.1) ((s110.2.2.1).length) (y110.2.2.2.2) 27 1 ((s110.2.2.1).flatMap e_u32)]) hK (by exact (SubE.cons2 (i := 10) rfl (SubE.nil))) (by exact (SubE.cons2 (i := 6) rfl (SubE.cons2 (i := 3) rfl (SubE.cons2 (i := 4) rfl (SubE.cons2 (i := 5) rfl (SubE.cons2 (i := 1) rfl (SubE.cons2 (i := 2) rfl (SubE.nil)))))))) hw1)) rfl ?_) ?_
                              rotate_left; exact P_stop
                              rintro _ _ hlo ⟨rfl, rfl, -⟩
                              refine T_app0 ?_
                              refine P_p rfl rfl (Ev_move rfl) rfl ?_
                              refine P_p rfl rfl (Ev_extract rfl rfl) rfl ?_
                              refine P_p rfl rfl (Ev_extract rfl rfl) rfl ?_
                              refine P_x rfl (Wx_val (Ev_assign rfl) rfl ?_) ?_
                              rotate_left; exact P_stop
                              refine P_x rfl (Wx_val (Ev_assign rfl) rfl ?_) ?_
                              rotate_left; exact P_stop
                              refine P_done ?_
                              refine T_next ?_
                              refine T_seq ?_
                              refine T_draw [0, 0, 0, 0, 1, 1, 2, 0, 0, 0, 2, 2] [[], [], [0, 1], [0, 1, 2], [0, 1, 2, 3], [], [0, 1, 2, 3, 4, 5], [0, 1, 2, 3, 4, 5, 6], [0, 1, 2, 3, 4, 5, 6, 7], [0, 1, 2, 3, 4, 5, 6, 7], [0, 1, 2, 3, 4, 5, 6, 7, 8], [0, 1, 2, 3, 4, 5, 6, 7, 8, 9, 10]] (.q 0 (.q 1 (.q 2 (.q 3 (.q 4 (.q 5 (.e 6 (.q 7 (.q 8 (.q 9 (.e 10 (.e 11 (.done) (.stop)) (.stop))))) (.stop)))))))) mixed (by kernel_rfl) (by kernel_rfl) ?_
                              refine P_p rfl rfl (Ev_move rfl) rfl ?_
                              refine P_p rfl rfl (Ev_move rfl) rfl ?_
                              obtain ⟨x1518, h1519, hx1520⟩ := bnd_some hx1517
                              obtain ⟨b1521, o1522, j1523, ys1543, hA1524, hj1525, hl1526, hp1527, hr1544⟩ := HasN.at_idx hs519 h1519
                              obtain ⟨A1528, c1529, A1531, c1532, A1534, c1535, A1537, c1538, A1540, c1541, rfl, hs1530, hs1533, hs1536, hs1539, hs1542⟩ := hr1544
                              have hp1545 := Pt.low (E := [.r (y8.2.2.1) ((s8.2.1).length) (y8.2.2.2.1) 39 3 ((s8.2.1).flatMap e_api_Cell), e512, e513, e514]) hp1527 hK
                              refine P_p rfl rfl (Ev_index rfl rfl hA1524 (j := j1523) hj1525 hl1526 slc44) rfl ?_
                              refine P_p rfl rfl (Ev_field rfl fld53_3 rfl) rfl ?_
                              refine P_q rfl rfl (Ev_loadPK (d := 5) rfl hp1545 (SubE.cons2 (i := 10) rfl (SubE.cons2 (i := 6) rfl (SubE.cons2 (i := 3) rfl (SubE.cons2 (i := 4) rfl (SubE.cons2 (i := 5) rfl (SubE.nil)))))) rfl agg51) rfl ?_
                              refine P_q rfl rfl (Ev_loadK rfl (i := 0) rfl rfl agg51) rfl ?_
                              refine T_rowP (k := 1) rfl (by decide) (fun _ => rfl) (fun hn1546 hs1547 => ?_)
                              refine T_rowP (k := 2) rfl (by decide) (fun _ => rfl) (fun hn1548 hs1549 => ?_)
                              obtain ⟨r1550, h1551, hx1552⟩ := bnd_some hx1520
                              refine P_x rfl (Wx_callL rfl (fun w1 hw1 => exact_Cmp_ok x1518.Hi (⟨s110.1, s110.2.1, s110.2.2.1⟩ : S_api_Rat) (Has.len' (Has.up (L := (K ++ [.r (y8.2.2.1) ((s8.2.1).length) (y8.2.2.2.1) 39 3 ((s8.2.1).flatMap e_api_Cell), e512, e513, e514, .r (y110.2.1) ((s110.2.1).length) (y110.2.2.1) 27 1 ((s110.2.1).flatMap e_u32), .r (y110.2.2.2.1) ((s110.2.2.1).length) (y110.2.2.2.2) 27 1 ((s110.2.2.1).flatMap e_u32)])) hs1539 (SubE.app2 (SubE.cons2 (i := 0) rfl (SubE.cons2 (i := 1) rfl (SubE.cons2 (i := 2) rfl (SubE.cons2 (i := 3) rfl (SubE.nil)))))))) (Has.len' (Has.up (L := (K ++ [.r (y8.2.2.1) ((s8.2.1).length) (y8.2.2.2.1) 39 3 ((s8.2.1).flatMap e_api_Cell), e512, e513, e514, .r (y110.2.1) ((s110.2.1).length) (y110.2.2.1) 27 1 ((s110.2.1).flatMap e_u32), .r (y110.2.2.2.1) ((s110.2.2.1).length) (y110.2.2.2.2) 27 1 ((s110.2.2.1).flatMap e_u32)])) hs1542 (SubE.app2 (SubE.cons2 (i := 0) rfl (SubE.cons2 (i := 1) rfl (SubE.cons2 (i := 2) rfl (SubE.cons2 (i := 3) rfl (SubE.nil)))))))) (Has.len' (Has.up (L := (K ++ [.r (y8.2.2.1) ((s8.2.1).length) (y8.2.2.2.1) 39 3 ((s8.2.1).flatMap e_api_Cell), e512, e513, e514, .r (y110.2.1) ((s110.2.1).length) (y110.2.2.1) 27 1 ((s110.2.1).flatMap e_u32), .r (y110.2.2.2.1) ((s110.2.2.1).length) (y110.2.2.2.2) 27 1 ((s110.2.2.1).flatMap e_u32)])) hs1547 (SubE.appR2 (SubE.cons2 (i := 4) rfl (SubE.nil))))) (Has.len' (Has.up (L := (K ++ [.r (y8.2.2.1) ((s8.2.1).length) (y8.2.2.2.1) 39 3 ((s8.2.1).flatMap e_api_Cell), e512, e513, e514, .r (y110.2.1) ((s110.2.1).length) (y110.2.2.1) 27 1 ((s110.2.1).flatMap e_u32), .r (y110.2.2.2.1) ((s110.2.2.1).length) (y110.2.2.2.2) 27 1 ((s110.2.2.1).flatMap e_u32)])) hs1549 (SubE.appR2 (SubE.cons2 (i := 5) rfl (SubE.nil))))) h1551 w1 (okApp (K := K) (K2 := [.r (y8.2.2.1) ((s8.2.1).length) (y8.2.2.2.1) 39 3 ((s8.2.1).flatMap e_api_Cell), e512, e513, e514, .r (y110.2.1) ((s110.2.1).length) (y110.2.2.1) 27 1 ((s110.2.1).flatMap e_u32), .r (y110.2.2.2.1) ((s110.2.2.1).length) (y110.2.2.2.2) 27 1 ((s110.2.2.1).flatMap e_u32)]) hK (by exact (SubE.cons2 (i := 10) rfl (SubE.nil))) (by exact (SubE.cons2 (i := 6) rfl (SubE.cons2 (i := 3) rfl (SubE.cons2 (i := 4) rfl (SubE.cons2 (i := 5) rfl (SubE.cons2 (i := 1) rfl (SubE.cons2 (i := 2) rfl (SubE.nil)))))))) hw1)) rfl ?_) ?_
                              rotate_left; exact P_stop
                              rintro _ _ hlo ⟨rfl, rfl, -⟩
                              refine T_app0 ?_
                              refine P_p rfl rfl (Ev_move rfl) rfl ?_
                              refine P_p rfl rfl (Ev_extract rfl rfl) rfl ?_
                              refine P_p rfl rfl (Ev_extract rfl rfl) rfl ?_
                              refine P_x rfl (Wx_val (Ev_assign rfl) rfl ?_) ?_
                              rotate_left; exact P_stop
                              refine P_x rfl (Wx_val (Ev_assign rfl) rfl ?_) ?_
                              rotate_left; exact P_stop
                              refine P_done ?_
                              refine T_next ?_
                              obtain ⟨j113, hj113, hx1552⟩ := jn_some hx1552
                              refine T_cutP (τ := Bool) (γ := Unit) (J := j113) (out := x1062) (fun s113 y113 => [(3, .pointer (some ⟨g2, 0, none⟩)), (8, .int .u8 (p0.Few)), (11, .slice (y8.2.2.2.2.1) ((s8.2.2.1).length) (y8.2.2.2.2.2.1)), (12, .slice (y8.2.2.2.2.2.2.1) ((s8.2.2.2).length) (y8.2.2.2.2.2.2.2)), (28, .slice (A510) ((r507.1).length) (c511)), (29, .int .i64 (s1062)), (401, .bool (s113))]) (fun s113 y113 => [e512, e513, e514, .r (y8.2.2.1) ((s8.2.1).length) (y8.2.2.2.1) 39 3 ((s8.2.1).flatMap e_api_Cell), .r (y8.2.2.2.2.1) ((s8.2.2.1).length) (y8.2.2.2.2.2.1) 3 1 ((s8.2.2.1).flatMap e_i64), .r (y8.2.2.2.2.2.2.1) ((s8.2.2.2).length) (y8.2.2.2.2.2.2.2) 3 1 ((s8.2.2.2).flatMap e_i64), .m g2 26 [.int .i64 (p0.G.Raster.X0), .int .i64 (p0.G.Raster.Y0), .int .i64 (p0.G.Raster.Step), .int .i64 (p0.G.Raster.NX), .int .i64 (p0.G.Raster.NY), .slice (A0_0) ((p0.G.Cells).length) (c0_0)]] ++ [.old w]) (fun s113 y113 => True) ?_ ?_
                              · intro s113 y113 hx1596 hG1597
                                subst hj113
                                refine T_caseB (s := 401) rfl (fun h1598 => ?_) (fun h1598 => ?_)
                                · have hx1599 := ite_t h1598 hx1596
                                  refine T_condT rfl ?_
                                  refine T_seq ?_
                                  refine T_reg ?_
                                  refine T_val (Ev_assign rfl) rfl ?_
                                  refine T_nil ?_
                                  refine T_next ?_
                                  refine T_retc ?_
                                  refine T_inR ?_
                                  refine T_outR ?_
                                  obtain rfl := exit_eq ht1062 hx1599
                                  refine T_outR ?_
                                  refine T_inR ?_
                                  refine T_outR ?_
                                  obtain rfl := Option.some.inj ho1062
                                  exact T_retP (rs := [.tmp 2]) Try.results3 (.tmp rfl (.nil)) (Ln := []) ⟨rfl, rfl, trivial⟩ (loNil) (by exact .drop 0 rfl (.drop 0 rfl (.drop 0 rfl (.drop 0 rfl (.drop 0 rfl (.drop 0 rfl (.drop 0 rfl (.refl))))))))
                                · have hx1600 := ite_bf h1598 hx1596
                                  refine T_condF rfl ?_
                                  refine T_skip ?_
                                  refine T_inN ?_
                                  refine T_next ?_
                                  refine T_reg ?_
                                  refine T_val (Ev_move rfl) rfl ?_
                                  refine T_val (Ev_add_w64 rfl rfl) rfl ?_
                                  refine T_val (Ev_assign rfl) rfl ?_
                                  refine T_nil ?_
                                  exact T_roundP (w64 (s1062 + 1)) () hx1600 trivial (by exact .cons rfl (.cons rfl (.cons rfl (.cons rfl (.cons rfl (.cons rfl (.nil))))))) (by exact .pick 0 rfl (.pick 0 rfl (.pick 0 rfl (.pick 0 rfl (.pick 0 rfl (.pick 0 rfl (.pick 0 rfl (.refl))))))))
                              · skip
                                refine T_reg ?_
                                refine T_val (Ev_move rfl) rfl ?_
                                refine T_val (Ev_neq rfl rfl) rfl ?_
                                refine T_val (Ev_move rfl) rfl ?_
                                refine T_caseNP (s := 373) rfl (fun h1553 => ?_) (fun h1553 => ?_)
                                · have hx1554 := ite_f h1553 hx1552
                                  refine T_skipG rfl rfl rfl rfl rfl ?_
                                  refine T_skipG rfl rfl rfl rfl rfl ?_
                                  refine T_val (Ev_pickT rfl rfl) rfl ?_
                                  refine T_val (Ev_move rfl) rfl ?_
                                  refine T_skipG rfl rfl rfl rfl rfl ?_
                                  refine T_skipG rfl rfl rfl rfl rfl ?_
                                  refine T_val (Ev_pickT rfl rfl) rfl ?_
                                  refine T_val (Ev_move rfl) rfl ?_
                                  refine T_skipG rfl rfl rfl rfl rfl ?_
                                  refine T_skipG rfl rfl rfl rfl rfl ?_
                                  refine T_val (Ev_pickT rfl rfl) rfl ?_
                                  refine T_val (Ev_move rfl) rfl ?_
                                  refine T_skipG rfl rfl rfl rfl rfl ?_
                                  refine T_skipG rfl rfl rfl rfl rfl ?_
                                  refine T_val (Ev_pickT rfl rfl) rfl ?_
                                  refine T_val (Ev_move rfl) rfl ?_
                                  refine T_skipG rfl rfl rfl rfl rfl ?_
                                  refine T_skipG rfl rfl rfl rfl rfl ?_
                                  refine T_skipG rfl rfl rfl rfl rfl ?_
                                  refine T_skipG rfl rfl rfl rfl rfl ?_
                                  refine T_skipG rfl rfl rfl rfl rfl ?_
                                  refine T_skipG rfl rfl rfl rfl rfl ?_
                                  refine T_skipG rfl rfl rfl rfl rfl ?_
                                  refine T_skipG rfl rfl rfl rfl rfl ?_
                                  refine T_skipG rfl rfl rfl rfl rfl ?_
                                  refine T_skipG rfl rfl rfl rfl rfl ?_
                                  refine T_skipG rfl rfl rfl rfl rfl ?_
                                  refine T_val (Ev_pickT rfl rfl) rfl ?_
                                  refine T_nil ?_
                                  exact T_metP true () hx1554 trivial (by exact .cons rfl (.cons rfl (.cons rfl (.cons rfl (.cons rfl (.cons rfl (.cons rfl (.nil)))))))) (by exact .pick 3 rfl (.pick 3 rfl (.pick 3 rfl (.pick 3 rfl (.pick 3 rfl (.pick 3 rfl (.pick 3 rfl (.drop 0 rfl (.drop 0 rfl (.drop 0 rfl (.refl)))))))))))
                                · have hx1555 := ite_t h1553 hx1552
                                  refine T_valG rfl rfl rfl (Ev_move rfl) rfl ?_
                                  refine T_valG rfl rfl rfl (Ev_neq rfl rfl) rfl ?_
                                  refine T_val (Ev_pickF rfl rfl) rfl ?_
                                  refine T_val (Ev_move rfl) rfl ?_
                                  refine T_caseNP (s := 377) rfl (fun h1556 => ?_) (fun h1556 => ?_)
                                  · have hx1557 := ite_f h1556 hx1555
                                    refine T_skipG rfl rfl rfl rfl rfl ?_
                                    refine T_skipG rfl rfl rfl rfl rfl ?_
                                    refine T_val (Ev_pickT rfl rfl) rfl ?_
                                    refine T_val (Ev_move rfl) rfl ?_
                                    refine T_skipG rfl rfl rfl rfl rfl ?_
                                    refine T_skipG rfl rfl rfl rfl rfl ?_
                                    refine T_val (Ev_pickT rfl rfl) rfl ?_
                                    refine T_val (Ev_move rfl) rfl ?_
                                    refine T_skipG rfl rfl rfl rfl rfl ?_
                                    refine T_skipG rfl rfl rfl rfl rfl ?_
                                    refine T_val (Ev_pickT rfl rfl) rfl ?_
                                    refine T_val (Ev_move rfl) rfl ?_
                                    refine T_skipG rfl rfl rfl rfl rfl ?_
                                    refine T_skipG rfl rfl rfl rfl rfl ?_
                                    refine T_skipG rfl rfl rfl rfl rfl ?_
                                    refine T_skipG rfl rfl rfl rfl rfl ?_
                                    refine T_skipG rfl rfl rfl rfl rfl ?_
                                    refine T_skipG rfl rfl rfl rfl rfl ?_
                                    refine T_skipG rfl rfl rfl rfl rfl ?_
                                    refine T_skipG rfl rfl rfl rfl rfl ?_
                                    refine T_skipG rfl rfl rfl rfl rfl ?_
                                    refine T_skipG rfl rfl rfl rfl rfl ?_
                                    refine T_skipG rfl rfl rfl rfl rfl ?_
                                    refine T_val (Ev_pickT rfl rfl) rfl ?_
                                    refine T_nil ?_
                                    exact T_metP true () hx1557 trivial (by exact .cons rfl (.cons rfl (.cons rfl (.cons rfl (.cons rfl (.cons rfl (.cons rfl (.nil)))))))) (by exact .pick 3 rfl (.pick 3 rfl (.pick 3 rfl (.pick 3 rfl (.pick 3 rfl (.pick 3 rfl (.pick 3 rfl (.drop 0 rfl (.drop 0 rfl (.drop 0 rfl (.refl)))))))))))
                                  · have hx1558 := ite_t h1556 hx1555
                                    refine T_valG rfl rfl rfl (Ev_move rfl) rfl ?_
                                    refine T_valG rfl rfl rfl (Ev_neq rfl rfl) rfl ?_
                                    refine T_val (Ev_pickF rfl rfl) rfl ?_
                                    refine T_val (Ev_move rfl) rfl ?_
                                    refine T_caseNP (s := 381) rfl (fun h1559 => ?_) (fun h1559 => ?_)
                                    · have hx1560 := ite_f h1559 hx1558
                                      refine T_skipG rfl rfl rfl rfl rfl ?_
                                      refine T_skipG rfl rfl rfl rfl rfl ?_
                                      refine T_val (Ev_pickT rfl rfl) rfl ?_
                                      refine T_val (Ev_move rfl) rfl ?_
                                      refine T_skipG rfl rfl rfl rfl rfl ?_
                                      refine T_skipG rfl rfl rfl rfl rfl ?_
                                      refine T_val (Ev_pickT rfl rfl) rfl ?_
                                      refine T_val (Ev_move rfl) rfl ?_
                                      refine T_skipG rfl rfl rfl rfl rfl ?_
                                      refine T_skipG rfl rfl rfl rfl rfl ?_
                                      refine T_skipG rfl rfl rfl rfl rfl ?_
                                      refine T_skipG rfl rfl rfl rfl rfl ?_
                                      refine T_skipG rfl rfl rfl rfl rfl ?_
                                      refine T_skipG rfl rfl rfl rfl rfl ?_
                                      refine T_skipG rfl rfl rfl rfl rfl ?_
                                      refine T_skipG rfl rfl rfl rfl rfl ?_
                                      refine T_skipG rfl rfl rfl rfl rfl ?_
                                      refine T_skipG rfl rfl rfl rfl rfl ?_
                                      refine T_skipG rfl rfl rfl rfl rfl ?_
                                      refine T_val (Ev_pickT rfl rfl) rfl ?_
                                      refine T_nil ?_
                                      exact T_metP true () hx1560 trivial (by exact .cons rfl (.cons rfl (.cons rfl (.cons rfl (.cons rfl (.cons rfl (.cons rfl (.nil)))))))) (by exact .pick 3 rfl (.pick 3 rfl (.pick 3 rfl (.pick 3 rfl (.pick 3 rfl (.pick 3 rfl (.pick 3 rfl (.drop 0 rfl (.drop 0 rfl (.drop 0 rfl (.refl)))))))))))
                                    · have hx1561 := ite_t h1559 hx1558
                                      refine T_valG rfl rfl rfl (Ev_move rfl) rfl ?_
                                      refine T_valG rfl rfl rfl (Ev_gtr rfl rfl) rfl ?_
                                      refine T_val (Ev_pickF rfl rfl) rfl ?_
                                      refine T_val (Ev_move rfl) rfl ?_
                                      refine T_caseP (s := 385) rfl (fun h1562 => ?_) (fun h1562 => ?_)
                                      · have hx1563 := ite_t h1562 hx1561
                                        refine T_skipG rfl rfl rfl rfl rfl ?_
                                        refine T_skipG rfl rfl rfl rfl rfl ?_
                                        refine T_val (Ev_pickT rfl rfl) rfl ?_
                                        refine T_val (Ev_move rfl) rfl ?_
                                        refine T_skipG rfl rfl rfl rfl rfl ?_
                                        refine T_skipG rfl rfl rfl rfl rfl ?_
                                        refine T_skipG rfl rfl rfl rfl rfl ?_
                                        refine T_skipG rfl rfl rfl rfl rfl ?_
                                        refine T_skipG rfl rfl rfl rfl rfl ?_
                                        refine T_skipG rfl rfl rfl rfl rfl ?_
                                        refine T_skipG rfl rfl rfl rfl rfl ?_
                                        refine T_skipG rfl rfl rfl rfl rfl ?_
                                        refine T_skipG rfl rfl rfl rfl rfl ?_
                                        refine T_skipG rfl rfl rfl rfl rfl ?_
                                        refine T_skipG rfl rfl rfl rfl rfl ?_
                                        refine T_val (Ev_pickT rfl rfl) rfl ?_
                                        refine T_nil ?_
                                        exact T_metP true () hx1563 trivial (by exact .cons rfl (.cons rfl (.cons rfl (.cons rfl (.cons rfl (.cons rfl (.cons rfl (.nil)))))))) (by exact .pick 3 rfl (.pick 3 rfl (.pick 3 rfl (.pick 3 rfl (.pick 3 rfl (.pick 3 rfl (.pick 3 rfl (.drop 0 rfl (.drop 0 rfl (.drop 0 rfl (.refl)))))))))))
                                      · have hx1564 := ite_f h1562 hx1561
                                        refine T_valG rfl rfl rfl (Ev_move rfl) rfl ?_
                                        refine T_valG rfl rfl rfl (Ev_lss rfl rfl) rfl ?_
                                        refine T_val (Ev_pickF rfl rfl) rfl ?_
                                        refine T_val (Ev_move rfl) rfl ?_
                                        refine T_caseP (s := 389) rfl (fun h1565 => ?_) (fun h1565 => ?_)
                                        · have hx1566 := ite_t h1565 hx1564
                                          refine T_skipG rfl rfl rfl rfl rfl ?_
                                          refine T_skipG rfl rfl rfl rfl rfl ?_
                                          refine T_skipG rfl rfl rfl rfl rfl ?_
                                          refine T_skipG rfl rfl rfl rfl rfl ?_
                                          refine T_skipG rfl rfl rfl rfl rfl ?_
                                          refine T_skipG rfl rfl rfl rfl rfl ?_
                                          refine T_skipG rfl rfl rfl rfl rfl ?_
                                          refine T_skipG rfl rfl rfl rfl rfl ?_
                                          refine T_skipG rfl rfl rfl rfl rfl ?_
                                          refine T_skipG rfl rfl rfl rfl rfl ?_
                                          refine T_skipG rfl rfl rfl rfl rfl ?_
                                          refine T_val (Ev_pickT rfl rfl) rfl ?_
                                          refine T_nil ?_
                                          exact T_metP true () hx1566 trivial (by exact .cons rfl (.cons rfl (.cons rfl (.cons rfl (.cons rfl (.cons rfl (.cons rfl (.nil)))))))) (by exact .pick 3 rfl (.pick 3 rfl (.pick 3 rfl (.pick 3 rfl (.pick 3 rfl (.pick 3 rfl (.pick 3 rfl (.drop 0 rfl (.drop 0 rfl (.drop 0 rfl (.refl)))))))))))
                                        · have hx1567 := ite_f h1565 hx1564
                                          refine T_valG rfl rfl rfl (Ev_move rfl) rfl ?_
                                          refine T_valG rfl rfl rfl (Ev_move rfl) rfl ?_
                                          obtain ⟨x1568, h1569, hx1570⟩ := bnd_some hx1567
                                          obtain ⟨b1571, o1572, j1573, ys1593, hA1574, hj1575, hl1576, hp1577, hr1594⟩ := HasN.at_idx hs519 h1569
                                          obtain ⟨A1578, c1579, A1581, c1582, A1584, c1585, A1587, c1588, A1590, c1591, rfl, hs1580, hs1583, hs1586, hs1589, hs1592⟩ := hr1594
                                          have hp1595 := Pt.low (E := [.r (y8.2.2.1) ((s8.2.1).length) (y8.2.2.2.1) 39 3 ((s8.2.1).flatMap e_api_Cell), e512, e513, e514]) hp1577 hK
                                          refine T_valG rfl rfl rfl (Ev_index rfl rfl hA1574 (j := j1573) hj1575 hl1576 slc44) rfl ?_
                                          refine T_valG rfl rfl rfl (Ev_field rfl fld53_1 rfl) rfl ?_
                                          refine T_valG rfl rfl rfl (Ev_loadP1 (d := 1) rfl hp1595 (SubE.cons2 (i := 10) rfl (SubE.cons2 (i := 6) rfl (SubE.cons2 (i := 3) rfl (SubE.cons2 (i := 4) rfl (SubE.cons2 (i := 5) rfl (SubE.nil)))))) rfl one34) rfl ?_
                                          refine T_valG rfl rfl rfl (Ev_len rfl 3 Try.underlying34) rfl ?_
                                          refine T_valG rfl rfl rfl (Ev_move rfl) rfl ?_
                                          refine T_valG rfl rfl rfl (Ev_conv_w64 rfl (by kernel_rfl) Try.underlying3) rfl ?_
                                          refine T_valG rfl rfl rfl (Ev_rem rfl rfl (by decide)) rfl ?_
                                          refine T_valG rfl rfl rfl (Ev_add_w64 rfl rfl) rfl ?_
                                          refine T_valG rfl rfl rfl (Ev_lss rfl rfl) rfl ?_
                                          refine T_val (Ev_pickF rfl rfl) rfl ?_
                                          refine T_nil ?_
                                          exact T_metP (decide (((((x1568.Nodes).length : Nat) : Int)) < (w64 (1 + (Int.tmod (w64 (p0.Few)) 9))))) () hx1570 trivial (by exact .cons rfl (.cons rfl (.cons rfl (.cons rfl (.cons rfl (.cons rfl (.cons rfl (.nil)))))))) (by exact .pick 3 rfl (.pick 3 rfl (.pick 3 rfl (.pick 3 rfl (.pick 3 rfl (.pick 3 rfl (.pick 3 rfl (.drop 0 rfl (.drop 0 rfl (.drop 0 rfl (.refl)))))))))))
                            · skip
                              obtain ⟨r1376, h1377, hx1406⟩ := bnd_some hx1374
                              obtain ⟨r1383, h1384, hx1407⟩ := bnd_some hx1406
                              obtain ⟨r1398, h1399, hx1408⟩ := bnd_some hx1407
                              refine T_draw [0, 2, 0, 0, 1, 0, 0, 1, 0, 2, 2, 0, 0, 0, 2, 3, 2] [[], [0], [], [2], [2, 3], [], [5], [5, 6], [2, 3, 4, 5, 6, 7], [0, 1, 2, 3, 4, 5, 6, 7, 8], [0, 1, 2, 3, 4, 5, 6, 7, 8, 9], [0, 1, 2, 3, 4, 5, 6, 7, 8, 9, 10], [0, 1, 2, 3, 4, 5, 6, 7, 8, 9, 10, 11], [0, 1, 2, 3, 4, 5, 6, 7, 8, 9, 10, 11], [], [0, 1, 2, 3, 4, 5, 6, 7, 8, 9, 10, 11, 12, 14], [0, 1, 2, 3, 4, 5, 6, 7, 8, 9, 10, 11, 12, 13, 14, 15]] (.q 0 (.q 2 (.q 3 (.q 4 (.q 5 (.q 6 (.q 7 (.q 8 (.e 1 (.e 9 (.e 10 (.q 11 (.q 12 (.q 13 (.e 14 (.e 15 (.e 16 (.done) (.stop)) (.stop)) (.stop))))) (.e 14 (.e 10 (.q 11 (.q 12 (.q 13 (.e 15 (.e 16 (.done) (.stop)) (.stop))))) (.stop)) (.stop))) (.e 14 (.e 9 (.e 10 (.q 11 (.q 12 (.q 13 (.e 15 (.e 16 (.done) (.stop)) (.stop))))) (.stop)) (.stop)) (.stop))) (.e 14 (.e 1 (.e 9 (.e 10 (.q 11 (.q 12 (.q 13 (.e 15 (.e 16 (.done) (.stop)) (.stop))))) (.stop)) (.stop)) (.stop)) (.stop))))))))))) mixed (by kernel_rfl) (by kernel_rfl) ?_
                              refine P_p rfl rfl (Ev_move rfl) rfl ?_
                              refine P_p rfl rfl (Ev_field rfl fld26_0 rfl) rfl ?_
                              refine P_p rfl rfl (Ev_field rfl fld23_2 rfl) rfl ?_
                              refine P_q rfl rfl (Ev_load1 rfl (i := 6) rfl rfl one3) rfl ?_
                              refine P_p rfl rfl (Ev_field rfl fld26_0 rfl) rfl ?_
                              refine P_p rfl rfl (Ev_field rfl fld23_2 rfl) rfl ?_
                              refine P_q rfl rfl (Ev_load1 rfl (i := 6) rfl rfl one3) rfl ?_
                              refine P_p rfl rfl (Ev_mul_w64 rfl rfl) rfl ?_
                              refine P_x rfl (Wx_callL rfl (fun w1 hw1 => exact_FromInt_ok s94  h1377 w1) rfl ?_) ?_
                              · skip
                                rintro _ _ hlo ⟨A1409, c1410, A1411, c1412, rfl, rfl, -⟩
                                refine T_app2 ?_
                                refine P_x rfl (Wx_callL rfl (fun w1 hw1 => exact_FromInt_ok (w64 (p0.G.Raster.Step * p0.G.Raster.Step))  h1384 w1) rfl ?_) ?_
                                · skip
                                  rintro _ _ hlo ⟨A1413, c1414, A1415, c1416, rfl, rfl, -⟩
                                  refine T_app2 ?_
                                  refine T_rowP (k := 2) rfl (by decide) (fun _ => rfl) (fun hn1417 hs1418 => ?_)
                                  refine T_rowP (k := 3) rfl (by decide) (fun _ => rfl) (fun hn1419 hs1420 => ?_)
                                  refine T_rowP (k := 0) rfl (by decide) (fun _ => rfl) (fun hn1421 hs1422 => ?_)
                                  refine T_rowP (k := 1) rfl (by decide) (fun _ => rfl) (fun hn1423 hs1424 => ?_)
                                  refine P_x rfl (Wx_callL rfl (fun w1 hw1 => exact_Mul_ok r1376 r1383 (Has.len' (Has.up (L := ([.r (A1409) ((r1376.Num).length) (c1410) 27 1 ((r1376.Num).flatMap e_u32), .r (A1411) ((r1376.Den).length) (c1412) 27 1 ((r1376.Den).flatMap e_u32), .r (A1413) ((r1383.Num).length) (c1414) 27 1 ((r1383.Num).flatMap e_u32), .r (A1415) ((r1383.Den).length) (c1416) 27 1 ((r1383.Den).flatMap e_u32)] : List Ent)) hs1418 (SubE.cons2 (i := 0) rfl (SubE.nil)))) (Has.len' (Has.up (L := ([.r (A1409) ((r1376.Num).length) (c1410) 27 1 ((r1376.Num).flatMap e_u32), .r (A1411) ((r1376.Den).length) (c1412) 27 1 ((r1376.Den).flatMap e_u32), .r (A1413) ((r1383.Num).length) (c1414) 27 1 ((r1383.Num).flatMap e_u32), .r (A1415) ((r1383.Den).length) (c1416) 27 1 ((r1383.Den).flatMap e_u32)] : List Ent)) hs1420 (SubE.cons2 (i := 1) rfl (SubE.nil)))) (Has.len' (Has.up (L := ([.r (A1409) ((r1376.Num).length) (c1410) 27 1 ((r1376.Num).flatMap e_u32), .r (A1411) ((r1376.Den).length) (c1412) 27 1 ((r1376.Den).flatMap e_u32), .r (A1413) ((r1383.Num).length) (c1414) 27 1 ((r1383.Num).flatMap e_u32), .r (A1415) ((r1383.Den).length) (c1416) 27 1 ((r1383.Den).flatMap e_u32)] : List Ent)) hs1422 (SubE.cons2 (i := 2) rfl (SubE.nil)))) (Has.len' (Has.up (L := ([.r (A1409) ((r1376.Num).length) (c1410) 27 1 ((r1376.Num).flatMap e_u32), .r (A1411) ((r1376.Den).length) (c1412) 27 1 ((r1376.Den).flatMap e_u32), .r (A1413) ((r1383.Num).length) (c1414) 27 1 ((r1383.Num).flatMap e_u32), .r (A1415) ((r1383.Den).length) (c1416) 27 1 ((r1383.Den).flatMap e_u32)] : List Ent)) hs1424 (SubE.cons2 (i := 3) rfl (SubE.nil)))) h1399 w1 (okAll (K := ([.r (A1409) ((r1376.Num).length) (c1410) 27 1 ((r1376.Num).flatMap e_u32), .r (A1411) ((r1376.Den).length) (c1412) 27 1 ((r1376.Den).flatMap e_u32), .r (A1413) ((r1383.Num).length) (c1414) 27 1 ((r1383.Num).flatMap e_u32), .r (A1415) ((r1383.Den).length) (c1416) 27 1 ((r1383.Den).flatMap e_u32)] : List Ent)) (by exact (SubE.cons2 (i := 2) rfl (SubE.cons2 (i := 3) rfl (SubE.cons2 (i := 0) rfl (SubE.cons2 (i := 1) rfl (SubE.nil)))))) hw1)) rfl ?_) ?_
                                  · skip
                                    rintro _ _ hlo ⟨A1425, c1426, A1427, c1428, rfl, rfl, -⟩
                                    refine T_app2 ?_
                                    refine P_p rfl rfl (Ev_move rfl) rfl ?_
                                    refine P_p rfl rfl (Ev_extract rfl rfl) rfl ?_
                                    refine P_p rfl rfl (Ev_extract rfl rfl) rfl ?_
                                    refine P_x rfl (Wx_alloc zer51 rfl (fun g1429 => ?_)) ?_
                                    rotate_left; exact P_stop
                                    refine P_h rfl rfl (Wh_store rfl rfl rfl (.here) (.put (.put (.put (.done)))) rfl (List.cons_ne_nil _ _) agg51.2 ?_) ?_
                                    rotate_left; exact P_stop
                                    refine P_x rfl (Wx_val (Ev_assign rfl) rfl ?_) ?_
                                    rotate_left; exact P_stop
                                    refine P_done ?_
                                    exact T_metP (r1398.1.Neg, r1398.1.Num, r1398.1.Den, r1398.2) (g1429, A1425, c1426, A1427, c1428) hx1408 trivial (by exact .cons rfl (.cons rfl (.cons rfl (.cons rfl (.cons rfl (.cons rfl (.cons rfl (.cons rfl (.nil))))))))) (by exact .pick 0 rfl (.pick 0 rfl (.pick 0 rfl (.pick 4 rfl (.pick 4 rfl (.pick 4 rfl (.pick 4 rfl (.pick 4 rfl (.pick 4 rfl (.pick 4 rfl (.drop 0 rfl (.drop 0 rfl (.drop 0 rfl (.drop 0 rfl (.refl)))))))))))))))
                                  · skip
                                    refine P_x rfl (Wx_alloc zer51 rfl (fun g1430 => ?_)) ?_
                                    rotate_left; exact P_stop
                                    refine T_rowP (k := 3) rfl (by decide) (fun _ => rfl) (fun hn1431 hs1432 => ?_)
                                    refine T_rowP (k := 4) rfl (by decide) (fun _ => rfl) (fun hn1433 hs1434 => ?_)
                                    refine T_rowP (k := 1) rfl (by decide) (fun _ => rfl) (fun hn1435 hs1436 => ?_)
                                    refine T_rowP (k := 2) rfl (by decide) (fun _ => rfl) (fun hn1437 hs1438 => ?_)
                                    refine P_x rfl (Wx_callL rfl (fun w1 hw1 => exact_Mul_ok r1376 r1383 (Has.len' (Has.up (L := ([.r (A1409) ((r1376.Num).length) (c1410) 27 1 ((r1376.Num).flatMap e_u32), .r (A1411) ((r1376.Den).length) (c1412) 27 1 ((r1376.Den).flatMap e_u32), .r (A1413) ((r1383.Num).length) (c1414) 27 1 ((r1383.Num).flatMap e_u32), .r (A1415) ((r1383.Den).length) (c1416) 27 1 ((r1383.Den).flatMap e_u32)] : List Ent)) hs1432 (SubE.cons2 (i := 0) rfl (SubE.nil)))) (Has.len' (Has.up (L := ([.r (A1409) ((r1376.Num).length) (c1410) 27 1 ((r1376.Num).flatMap e_u32), .r (A1411) ((r1376.Den).length) (c1412) 27 1 ((r1376.Den).flatMap e_u32), .r (A1413) ((r1383.Num).length) (c1414) 27 1 ((r1383.Num).flatMap e_u32), .r (A1415) ((r1383.Den).length) (c1416) 27 1 ((r1383.Den).flatMap e_u32)] : List Ent)) hs1434 (SubE.cons2 (i := 1) rfl (SubE.nil)))) (Has.len' (Has.up (L := ([.r (A1409) ((r1376.Num).length) (c1410) 27 1 ((r1376.Num).flatMap e_u32), .r (A1411) ((r1376.Den).length) (c1412) 27 1 ((r1376.Den).flatMap e_u32), .r (A1413) ((r1383.Num).length) (c1414) 27 1 ((r1383.Num).flatMap e_u32), .r (A1415) ((r1383.Den).length) (c1416) 27 1 ((r1383.Den).flatMap e_u32)] : List Ent)) hs1436 (SubE.cons2 (i := 2) rfl (SubE.nil)))) (Has.len' (Has.up (L := ([.r (A1409) ((r1376.Num).length) (c1410) 27 1 ((r1376.Num).flatMap e_u32), .r (A1411) ((r1376.Den).length) (c1412) 27 1 ((r1376.Den).flatMap e_u32), .r (A1413) ((r1383.Num).length) (c1414) 27 1 ((r1383.Num).flatMap e_u32), .r (A1415) ((r1383.Den).length) (c1416) 27 1 ((r1383.Den).flatMap e_u32)] : List Ent)) hs1438 (SubE.cons2 (i := 3) rfl (SubE.nil)))) h1399 w1 (okAll (K := ([.r (A1409) ((r1376.Num).length) (c1410) 27 1 ((r1376.Num).flatMap e_u32), .r (A1411) ((r1376.Den).length) (c1412) 27 1 ((r1376.Den).flatMap e_u32), .r (A1413) ((r1383.Num).length) (c1414) 27 1 ((r1383.Num).flatMap e_u32), .r (A1415) ((r1383.Den).length) (c1416) 27 1 ((r1383.Den).flatMap e_u32)] : List Ent)) (by exact (SubE.cons2 (i := 3) rfl (SubE.cons2 (i := 4) rfl (SubE.cons2 (i := 1) rfl (SubE.cons2 (i := 2) rfl (SubE.nil)))))) hw1)) rfl ?_) ?_
                                    rotate_left; exact P_stop
                                    rintro _ _ hlo ⟨A1439, c1440, A1441, c1442, rfl, rfl, -⟩
                                    refine T_app2 ?_
                                    refine P_p rfl rfl (Ev_move rfl) rfl ?_
                                    refine P_p rfl rfl (Ev_extract rfl rfl) rfl ?_
                                    refine P_p rfl rfl (Ev_extract rfl rfl) rfl ?_
                                    refine P_h rfl rfl (Wh_store rfl rfl rfl (.there (.there (.here))) (.put (.put (.put (.done)))) rfl (List.cons_ne_nil _ _) agg51.2 ?_) ?_
                                    rotate_left; exact P_stop
                                    refine P_x rfl (Wx_val (Ev_assign rfl) rfl ?_) ?_
                                    rotate_left; exact P_stop
                                    refine P_done ?_
                                    exact T_metP (r1398.1.Neg, r1398.1.Num, r1398.1.Den, r1398.2) (g1430, A1439, c1440, A1441, c1442) hx1408 trivial (by exact .cons rfl (.cons rfl (.cons rfl (.cons rfl (.cons rfl (.cons rfl (.cons rfl (.cons rfl (.nil))))))))) (by exact .pick 2 rfl (.pick 0 rfl (.pick 0 rfl (.pick 4 rfl (.pick 4 rfl (.pick 4 rfl (.pick 4 rfl (.pick 4 rfl (.pick 4 rfl (.pick 4 rfl (.drop 0 rfl (.drop 0 rfl (.drop 0 rfl (.drop 0 rfl (.refl)))))))))))))))
                                · skip
                                  refine P_x rfl (Wx_alloc zer51 rfl (fun g1443 => ?_)) ?_
                                  rotate_left; exact P_stop
                                  refine P_x rfl (Wx_callL rfl (fun w1 hw1 => exact_FromInt_ok (w64 (p0.G.Raster.Step * p0.G.Raster.Step))  h1384 w1) rfl ?_) ?_
                                  rotate_left; exact P_stop
                                  rintro _ _ hlo ⟨A1444, c1445, A1446, c1447, rfl, rfl, -⟩
                                  refine T_app2 ?_
                                  refine T_rowP (k := 3) rfl (by decide) (fun _ => rfl) (fun hn1448 hs1449 => ?_)
                                  refine T_rowP (k := 4) rfl (by decide) (fun _ => rfl) (fun hn1450 hs1451 => ?_)
                                  refine T_rowP (k := 0) rfl (by decide) (fun _ => rfl) (fun hn1452 hs1453 => ?_)
                                  refine T_rowP (k := 1) rfl (by decide) (fun _ => rfl) (fun hn1454 hs1455 => ?_)
                                  refine P_x rfl (Wx_callL rfl (fun w1 hw1 => exact_Mul_ok r1376 r1383 (Has.len' (Has.up (L := ([.r (A1409) ((r1376.Num).length) (c1410) 27 1 ((r1376.Num).flatMap e_u32), .r (A1411) ((r1376.Den).length) (c1412) 27 1 ((r1376.Den).flatMap e_u32), .r (A1444) ((r1383.Num).length) (c1445) 27 1 ((r1383.Num).flatMap e_u32), .r (A1446) ((r1383.Den).length) (c1447) 27 1 ((r1383.Den).flatMap e_u32)] : List Ent)) hs1449 (SubE.cons2 (i := 0) rfl (SubE.nil)))) (Has.len' (Has.up (L := ([.r (A1409) ((r1376.Num).length) (c1410) 27 1 ((r1376.Num).flatMap e_u32), .r (A1411) ((r1376.Den).length) (c1412) 27 1 ((r1376.Den).flatMap e_u32), .r (A1444) ((r1383.Num).length) (c1445) 27 1 ((r1383.Num).flatMap e_u32), .r (A1446) ((r1383.Den).length) (c1447) 27 1 ((r1383.Den).flatMap e_u32)] : List Ent)) hs1451 (SubE.cons2 (i := 1) rfl (SubE.nil)))) (Has.len' (Has.up (L := ([.r (A1409) ((r1376.Num).length) (c1410) 27 1 ((r1376.Num).flatMap e_u32), .r (A1411) ((r1376.Den).length) (c1412) 27 1 ((r1376.Den).flatMap e_u32), .r (A1444) ((r1383.Num).length) (c1445) 27 1 ((r1383.Num).flatMap e_u32), .r (A1446) ((r1383.Den).length) (c1447) 27 1 ((r1383.Den).flatMap e_u32)] : List Ent)) hs1453 (SubE.cons2 (i := 2) rfl (SubE.nil)))) (Has.len' (Has.up (L := ([.r (A1409) ((r1376.Num).length) (c1410) 27 1 ((r1376.Num).flatMap e_u32), .r (A1411) ((r1376.Den).length) (c1412) 27 1 ((r1376.Den).flatMap e_u32), .r (A1444) ((r1383.Num).length) (c1445) 27 1 ((r1383.Num).flatMap e_u32), .r (A1446) ((r1383.Den).length) (c1447) 27 1 ((r1383.Den).flatMap e_u32)] : List Ent)) hs1455 (SubE.cons2 (i := 3) rfl (SubE.nil)))) h1399 w1 (okAll (K := ([.r (A1409) ((r1376.Num).length) (c1410) 27 1 ((r1376.Num).flatMap e_u32), .r (A1411) ((r1376.Den).length) (c1412) 27 1 ((r1376.Den).flatMap e_u32), .r (A1444) ((r1383.Num).length) (c1445) 27 1 ((r1383.Num).flatMap e_u32), .r (A1446) ((r1383.Den).length) (c1447) 27 1 ((r1383.Den).flatMap e_u32)] : List Ent)) (by exact (SubE.cons2 (i := 3) rfl (SubE.cons2 (i := 4) rfl (SubE.cons2 (i := 0) rfl (SubE.cons2 (i := 1) rfl (SubE.nil)))))) hw1)) rfl ?_) ?_
                                  rotate_left; exact P_stop
                                  rintro _ _ hlo ⟨A1456, c1457, A1458, c1459, rfl, rfl, -⟩
                                  refine T_app2 ?_
                                  refine P_p rfl rfl (Ev_move rfl) rfl ?_
                                  refine P_p rfl rfl (Ev_extract rfl rfl) rfl ?_
                                  refine P_p rfl rfl (Ev_extract rfl rfl) rfl ?_
                                  refine P_h rfl rfl (Wh_store rfl rfl rfl (.there (.there (.there (.there (.here))))) (.put (.put (.put (.done)))) rfl (List.cons_ne_nil _ _) agg51.2 ?_) ?_
                                  rotate_left; exact P_stop
                                  refine P_x rfl (Wx_val (Ev_assign rfl) rfl ?_) ?_
                                  rotate_left; exact P_stop
                                  refine P_done ?_
                                  exact T_metP (r1398.1.Neg, r1398.1.Num, r1398.1.Den, r1398.2) (g1443, A1456, c1457, A1458, c1459) hx1408 trivial (by exact .cons rfl (.cons rfl (.cons rfl (.cons rfl (.cons rfl (.cons rfl (.cons rfl (.cons rfl (.nil))))))))) (by exact .pick 4 rfl (.pick 0 rfl (.pick 0 rfl (.pick 4 rfl (.pick 4 rfl (.pick 4 rfl (.pick 4 rfl (.pick 4 rfl (.pick 4 rfl (.pick 4 rfl (.drop 0 rfl (.drop 0 rfl (.drop 0 rfl (.drop 0 rfl (.refl)))))))))))))))
                              · skip
                                refine P_x rfl (Wx_alloc zer51 rfl (fun g1460 => ?_)) ?_
                                rotate_left; exact P_stop
                                refine P_x rfl (Wx_callL rfl (fun w1 hw1 => exact_FromInt_ok s94  h1377 w1) rfl ?_) ?_
                                rotate_left; exact P_stop
                                rintro _ _ hlo ⟨A1461, c1462, A1463, c1464, rfl, rfl, -⟩
                                refine T_app2 ?_
                                refine P_x rfl (Wx_callL rfl (fun w1 hw1 => exact_FromInt_ok (w64 (p0.G.Raster.Step * p0.G.Raster.Step))  h1384 w1) rfl ?_) ?_
                                rotate_left; exact P_stop
                                rintro _ _ hlo ⟨A1465, c1466, A1467, c1468, rfl, rfl, -⟩
                                refine T_app2 ?_
                                refine T_rowP (k := 2) rfl (by decide) (fun _ => rfl) (fun hn1469 hs1470 => ?_)
                                refine T_rowP (k := 3) rfl (by decide) (fun _ => rfl) (fun hn1471 hs1472 => ?_)
                                refine T_rowP (k := 0) rfl (by decide) (fun _ => rfl) (fun hn1473 hs1474 => ?_)
                                refine T_rowP (k := 1) rfl (by decide) (fun _ => rfl) (fun hn1475 hs1476 => ?_)
                                refine P_x rfl (Wx_callL rfl (fun w1 hw1 => exact_Mul_ok r1376 r1383 (Has.len' (Has.up (L := ([.r (A1461) ((r1376.Num).length) (c1462) 27 1 ((r1376.Num).flatMap e_u32), .r (A1463) ((r1376.Den).length) (c1464) 27 1 ((r1376.Den).flatMap e_u32), .r (A1465) ((r1383.Num).length) (c1466) 27 1 ((r1383.Num).flatMap e_u32), .r (A1467) ((r1383.Den).length) (c1468) 27 1 ((r1383.Den).flatMap e_u32)] : List Ent)) hs1470 (SubE.cons2 (i := 0) rfl (SubE.nil)))) (Has.len' (Has.up (L := ([.r (A1461) ((r1376.Num).length) (c1462) 27 1 ((r1376.Num).flatMap e_u32), .r (A1463) ((r1376.Den).length) (c1464) 27 1 ((r1376.Den).flatMap e_u32), .r (A1465) ((r1383.Num).length) (c1466) 27 1 ((r1383.Num).flatMap e_u32), .r (A1467) ((r1383.Den).length) (c1468) 27 1 ((r1383.Den).flatMap e_u32)] : List Ent)) hs1472 (SubE.cons2 (i := 1) rfl (SubE.nil)))) (Has.len' (Has.up (L := ([.r (A1461) ((r1376.Num).length) (c1462) 27 1 ((r1376.Num).flatMap e_u32), .r (A1463) ((r1376.Den).length) (c1464) 27 1 ((r1376.Den).flatMap e_u32), .r (A1465) ((r1383.Num).length) (c1466) 27 1 ((r1383.Num).flatMap e_u32), .r (A1467) ((r1383.Den).length) (c1468) 27 1 ((r1383.Den).flatMap e_u32)] : List Ent)) hs1474 (SubE.cons2 (i := 2) rfl (SubE.nil)))) (Has.len' (Has.up (L := ([.r (A1461) ((r1376.Num).length) (c1462) 27 1 ((r1376.Num).flatMap e_u32), .r (A1463) ((r1376.Den).length) (c1464) 27 1 ((r1376.Den).flatMap e_u32), .r (A1465) ((r1383.Num).length) (c1466) 27 1 ((r1383.Num).flatMap e_u32), .r (A1467) ((r1383.Den).length) (c1468) 27 1 ((r1383.Den).flatMap e_u32)] : List Ent)) hs1476 (SubE.cons2 (i := 3) rfl (SubE.nil)))) h1399 w1 (okAll (K := ([.r (A1461) ((r1376.Num).length) (c1462) 27 1 ((r1376.Num).flatMap e_u32), .r (A1463) ((r1376.Den).length) (c1464) 27 1 ((r1376.Den).flatMap e_u32), .r (A1465) ((r1383.Num).length) (c1466) 27 1 ((r1383.Num).flatMap e_u32), .r (A1467) ((r1383.Den).length) (c1468) 27 1 ((r1383.Den).flatMap e_u32)] : List Ent)) (by exact (SubE.cons2 (i := 2) rfl (SubE.cons2 (i := 3) rfl (SubE.cons2 (i := 0) rfl (SubE.cons2 (i := 1) rfl (SubE.nil)))))) hw1)) rfl ?_) ?_
                                rotate_left; exact P_stop
                                rintro _ _ hlo ⟨A1477, c1478, A1479, c1480, rfl, rfl, -⟩
                                refine T_app2 ?_
                                refine P_p rfl rfl (Ev_move rfl) rfl ?_
                                refine P_p rfl rfl (Ev_extract rfl rfl) rfl ?_
                                refine P_p rfl rfl (Ev_extract rfl rfl) rfl ?_
                                refine P_h rfl rfl (Wh_store rfl rfl rfl (.there (.there (.there (.there (.there (.there (.here))))))) (.put (.put (.put (.done)))) rfl (List.cons_ne_nil _ _) agg51.2 ?_) ?_
                                rotate_left; exact P_stop
                                refine P_x rfl (Wx_val (Ev_assign rfl) rfl ?_) ?_
                                rotate_left; exact P_stop
                                refine P_done ?_
                                exact T_metP (r1398.1.Neg, r1398.1.Num, r1398.1.Den, r1398.2) (g1460, A1477, c1478, A1479, c1480) hx1408 trivial (by exact .cons rfl (.cons rfl (.cons rfl (.cons rfl (.cons rfl (.cons rfl (.cons rfl (.cons rfl (.nil))))))))) (by exact .pick 6 rfl (.pick 0 rfl (.pick 0 rfl (.pick 4 rfl (.pick 4 rfl (.pick 4 rfl (.pick 4 rfl (.pick 4 rfl (.pick 4 rfl (.pick 4 rfl (.drop 0 rfl (.drop 0 rfl (.drop 0 rfl (.drop 0 rfl (.refl)))))))))))))))
                          · skip
                            refine T_seq ?_
                            refine T_reg ?_
                            refine T_val (Ev_assign rfl) rfl ?_
                            refine T_nil ?_
                            refine T_next ?_
                            refine T_block ?_
                            obtain ⟨t1220, hl1220, ho1220⟩ := bnd_some hx1064
                            refine T_loopP (σ := Int × Int) (γ := Unit) hl1220 (fun s1220 y1220 => [(3, .pointer (some ⟨g2, 0, none⟩)), (8, .int .u8 (p0.Few)), (11, .slice (y8.2.2.2.2.1) ((s8.2.2.1).length) (y8.2.2.2.2.2.1)), (12, .slice (y8.2.2.2.2.2.2.1) ((s8.2.2.2).length) (y8.2.2.2.2.2.2.2)), (28, .slice (A510) ((r507.1).length) (c511)), (29, .int .i64 (s1062)), (30, .int .i64 (s1220.1)), (31, .int .i64 (s1220.2))]) (fun s1220 y1220 => [e512, e513, e514, .r (y8.2.2.1) ((s8.2.1).length) (y8.2.2.2.1) 39 3 ((s8.2.1).flatMap e_api_Cell), .r (y8.2.2.2.2.1) ((s8.2.2.1).length) (y8.2.2.2.2.2.1) 3 1 ((s8.2.2.1).flatMap e_i64), .r (y8.2.2.2.2.2.2.1) ((s8.2.2.2).length) (y8.2.2.2.2.2.2.2) 3 1 ((s8.2.2.2).flatMap e_i64), .m g2 26 [.int .i64 (p0.G.Raster.X0), .int .i64 (p0.G.Raster.Y0), .int .i64 (p0.G.Raster.Step), .int .i64 (p0.G.Raster.NX), .int .i64 (p0.G.Raster.NY), .slice (A0_0) ((p0.G.Cells).length) (c0_0)]] ++ [.old w]) (fun s1220 y1220 => True) () trivial (by exact .cons rfl (.cons rfl (.cons rfl (.cons rfl (.cons rfl (.cons rfl (.cons rfl (.cons rfl (.nil))))))))) (by exact .pick 0 rfl (.pick 0 rfl (.pick 0 rfl (.pick 0 rfl (.pick 0 rfl (.pick 0 rfl (.pick 0 rfl (.refl)))))))) ?_
                            intro s1220 y1220 hG1220 x1220 hx1220 ht1220
                            unfold lidartop_TopChange_l41 at hx1220
                            refine T_seq ?_
                            refine T_seq ?_
                            refine T_reg ?_
                            refine T_val (Ev_move rfl) rfl ?_
                            refine T_val (Ev_move rfl) rfl ?_
                            refine T_val (Ev_move rfl) rfl ?_
                            obtain ⟨x1221, h1222, hx1223⟩ := bnd_some hx1220
                            obtain ⟨b1224, o1225, j1226, ys1246, hA1227, hj1228, hl1229, hp1230, hr1247⟩ := HasN.at_idx hs519 h1222
                            obtain ⟨A1231, c1232, A1234, c1235, A1237, c1238, A1240, c1241, A1243, c1244, rfl, hs1233, hs1236, hs1239, hs1242, hs1245⟩ := hr1247
                            have hp1248 := Pt.low (E := [.r (y8.2.2.1) ((s8.2.1).length) (y8.2.2.2.1) 39 3 ((s8.2.1).flatMap e_api_Cell), e512, e513, e514]) hp1230 hK
                            refine T_val (Ev_index rfl rfl hA1227 (j := j1226) hj1228 hl1229 slc44) rfl ?_
                            refine T_val (Ev_field rfl fld53_1 rfl) rfl ?_
                            refine T_val (Ev_loadP1 (d := 1) rfl hp1248 (SubE.cons2 (i := 7) rfl (SubE.cons2 (i := 3) rfl (SubE.cons2 (i := 0) rfl (SubE.cons2 (i := 1) rfl (SubE.cons2 (i := 2) rfl (SubE.nil)))))) rfl one34) rfl ?_
                            refine T_val (Ev_len rfl 3 Try.underlying34) rfl ?_
                            refine T_val (Ev_lss rfl rfl) rfl ?_
                            refine T_nil ?_
                            refine T_next ?_
                            refine T_caseP (s := 289) rfl (fun h1249 => ?_) (fun h1249 => ?_)
                            · have hx1250 := ite_t h1249 hx1223
                              refine T_condT rfl ?_
                              refine T_skip ?_
                              refine T_next ?_
                              refine T_seq ?_
                              refine T_block ?_
                              refine T_seq ?_
                              refine T_reg ?_
                              refine T_val (Ev_move rfl) rfl ?_
                              refine T_val (Ev_move rfl) rfl ?_
                              obtain ⟨x1252, h1253, hx1254⟩ := bnd_some hx1250
                              obtain ⟨b1255, o1256, j1257, ys1277, hA1258, hj1259, hl1260, hp1261, hr1278⟩ := HasN.at_idx hs519 h1253
                              obtain ⟨A1262, c1263, A1265, c1266, A1268, c1269, A1271, c1272, A1274, c1275, rfl, hs1264, hs1267, hs1270, hs1273, hs1276⟩ := hr1278
                              have hp1279 := Pt.low (E := [.r (y8.2.2.1) ((s8.2.1).length) (y8.2.2.2.1) 39 3 ((s8.2.1).flatMap e_api_Cell), e512, e513, e514]) hp1261 hK
                              refine T_val (Ev_index rfl rfl hA1258 (j := j1257) hj1259 hl1260 slc44) rfl ?_
                              refine T_val (Ev_field rfl fld53_1 rfl) rfl ?_
                              refine T_val (Ev_loadP1 (d := 1) rfl hp1279 (SubE.cons2 (i := 7) rfl (SubE.cons2 (i := 3) rfl (SubE.cons2 (i := 0) rfl (SubE.cons2 (i := 1) rfl (SubE.cons2 (i := 2) rfl (SubE.nil)))))) rfl one34) rfl ?_
                              refine T_val (Ev_move rfl) rfl ?_
                              obtain ⟨x1280, h1281, hx1282⟩ := bnd_some hx1254
                              have hw1290 := Has.low (E := [.r (y8.2.2.1) ((s8.2.1).length) (y8.2.2.2.1) 39 3 ((s8.2.1).flatMap e_api_Cell), e512, e513, e514]) hs1264 hK
                              obtain ⟨b1283, o1284, j1285, hA1286, hj1287, hl1288, hp1289⟩ := Has.at_idx hw1290 h1281
                              refine T_val (Ev_index rfl rfl hA1286 (j := j1285) hj1287 hl1288 slc34) rfl ?_
                              refine T_val (Ev_loadP0 rfl hp1289 (SubE.cons2 (i := 7) rfl (SubE.cons2 (i := 3) rfl (SubE.cons2 (i := 0) rfl (SubE.cons2 (i := 1) rfl (SubE.cons2 (i := 2) rfl (SubE.nil)))))) rfl one3) rfl ?_
                              refine T_val (Ev_assign rfl) rfl ?_
                              refine T_nil ?_
                              refine T_next ?_
                              refine T_seq ?_
                              obtain ⟨j108, hj108, hx1282⟩ := jn_some hx1282
                              refine T_cutP (τ := Bool) (γ := Unit) (J := j108) (out := x1220) (fun s108 y108 => [(3, .pointer (some ⟨g2, 0, none⟩)), (8, .int .u8 (p0.Few)), (11, .slice (y8.2.2.2.2.1) ((s8.2.2.1).length) (y8.2.2.2.2.2.1)), (12, .slice (y8.2.2.2.2.2.2.1) ((s8.2.2.2).length) (y8.2.2.2.2.2.2.2)), (28, .slice (A510) ((r507.1).length) (c511)), (29, .int .i64 (s1062)), (30, .int .i64 (s1220.1)), (31, .int .i64 (s1220.2)), (32, .int .i64 (x1280)), (325, .bool (s108))]) (fun s108 y108 => [e512, e513, e514, .r (y8.2.2.1) ((s8.2.1).length) (y8.2.2.2.1) 39 3 ((s8.2.1).flatMap e_api_Cell), .r (y8.2.2.2.2.1) ((s8.2.2.1).length) (y8.2.2.2.2.2.1) 3 1 ((s8.2.2.1).flatMap e_i64), .r (y8.2.2.2.2.2.2.1) ((s8.2.2.2).length) (y8.2.2.2.2.2.2.2) 3 1 ((s8.2.2.2).flatMap e_i64), .m g2 26 [.int .i64 (p0.G.Raster.X0), .int .i64 (p0.G.Raster.Y0), .int .i64 (p0.G.Raster.Step), .int .i64 (p0.G.Raster.NX), .int .i64 (p0.G.Raster.NY), .slice (A0_0) ((p0.G.Cells).length) (c0_0)]] ++ [.old w]) (fun s108 y108 => True) ?_ ?_
                              · intro s108 y108 hx1347 hG1348
                                subst hj108
                                refine T_caseB (s := 325) rfl (fun h1349 => ?_) (fun h1349 => ?_)
                                · have hx1350 := ite_t h1349 hx1347
                                  refine T_condT rfl ?_
                                  refine T_seq ?_
                                  refine T_reg ?_
                                  refine T_val (Ev_assign rfl) rfl ?_
                                  refine T_nil ?_
                                  refine T_next ?_
                                  refine T_retc ?_
                                  refine T_outR ?_
                                  refine T_inR ?_
                                  refine T_outR ?_
                                  obtain rfl := exit_eq ht1220 hx1350
                                  refine T_outR ?_
                                  refine T_inR ?_
                                  refine T_outR ?_
                                  refine T_inR ?_
                                  refine T_outR ?_
                                  obtain rfl := exit_eq ht1062 ho1220
                                  refine T_outR ?_
                                  refine T_inR ?_
                                  refine T_outR ?_
                                  obtain rfl := Option.some.inj ho1062
                                  exact T_retP (rs := [.tmp 2]) Try.results3 (.tmp rfl (.nil)) (Ln := []) ⟨rfl, rfl, trivial⟩ (loNil) (by exact .drop 0 rfl (.drop 0 rfl (.drop 0 rfl (.drop 0 rfl (.drop 0 rfl (.drop 0 rfl (.drop 0 rfl (.refl))))))))
                                · have hx1351 := ite_bf h1349 hx1347
                                  refine T_condF rfl ?_
                                  refine T_skip ?_
                                  refine T_next ?_
                                  refine T_draw [0, 0, 0, 0, 1, 0, 0, 0, 1, 0, 0, 2] [[], [], [], [1, 2], [1, 2, 3], [], [], [5, 6], [5, 6, 7], [1, 2, 3, 4, 5, 6, 7, 8], [0, 1, 2, 3, 4, 5, 6, 7, 8, 9], [0, 1, 2, 3, 4, 5, 6, 7, 8, 9, 10]] (.q 0 (.q 1 (.q 2 (.q 3 (.q 4 (.q 5 (.q 6 (.q 7 (.q 8 (.q 9 (.q 10 (.e 11 (.done) (.stop))))))))))))) mixed (by kernel_rfl) (by kernel_rfl) ?_
                                  refine P_p rfl rfl (Ev_move rfl) rfl ?_
                                  refine P_p rfl rfl (Ev_move rfl) rfl ?_
                                  refine P_p rfl rfl (Ev_move rfl) rfl ?_
                                  obtain ⟨x1352, h1353, hx1354⟩ := bnd_some hx1351
                                  refine T_idxR (k := 5) rfl (by decide) (fun _ => rfl) h1353 (fun b1355 j1357 hA1358 hj1359 hl1360 hm1362 hp1361 => ?_)
                                  refine P_p rfl rfl (Ev_index rfl rfl hA1358 (j := j1357) hj1359 hl1360 slc34) rfl ?_
                                  refine P_q rfl rfl (Ev_loadP0 rfl hp1361 (SubE.cons2 (i := 5) rfl (SubE.nil)) rfl one3) rfl ?_
                                  refine P_p rfl rfl (Ev_move rfl) rfl ?_
                                  refine P_p rfl rfl (Ev_move rfl) rfl ?_
                                  obtain ⟨x1363, h1364, hx1365⟩ := bnd_some hx1354
                                  refine T_idxR (k := 4) rfl (by decide) (fun _ => rfl) h1364 (fun b1366 j1368 hA1369 hj1370 hl1371 hm1373 hp1372 => ?_)
                                  refine P_p rfl rfl (Ev_index rfl rfl hA1369 (j := j1368) hj1370 hl1371 slc34) rfl ?_
                                  refine P_q rfl rfl (Ev_loadP0 rfl hp1372 (SubE.cons2 (i := 4) rfl (SubE.nil)) rfl one3) rfl ?_
                                  refine P_p rfl rfl (Ev_sub_w64 rfl rfl) rfl ?_
                                  refine P_p rfl rfl (Ev_add_w64 rfl rfl) rfl ?_
                                  refine P_x rfl (Wx_val (Ev_assign rfl) rfl ?_) ?_
                                  rotate_left; exact P_stop
                                  refine P_done ?_
                                  refine T_inN ?_
                                  refine T_next ?_
                                  refine T_reg ?_
                                  refine T_val (Ev_move rfl) rfl ?_
                                  refine T_val (Ev_add_w64 rfl rfl) rfl ?_
                                  refine T_val (Ev_assign rfl) rfl ?_
                                  refine T_nil ?_
                                  exact T_roundP (w64 (s1220.1 + (w64 (x1352 - x1363))), w64 (s1220.2 + 1)) () hx1365 trivial (by exact .cons rfl (.cons rfl (.cons rfl (.cons rfl (.cons rfl (.cons rfl (.cons rfl (.cons rfl (.nil))))))))) (by exact .pick 0 rfl (.pick 0 rfl (.pick 0 rfl (.pick 0 rfl (.pick 0 rfl (.pick 0 rfl (.pick 0 rfl (.refl))))))))
                              · skip
                                refine T_draw [0, 0, 0, 0, 0, 0, 0, 0, 0, 0, 0, 0, 1, 0, 0, 0, 1, 0, 0, 0, 0, 0, 1, 0, 0, 0] [[], [0], [0, 1], [0, 1, 2], [0, 1, 2], [0, 1, 2, 4], [0, 1, 2, 3, 4, 5], [0, 1, 2, 3, 4, 5, 6], [0, 1, 2, 3, 4, 5, 6, 7], [0, 1, 2, 3, 4, 5, 6, 7, 8], [0, 1, 2, 3, 4, 5, 6, 7, 8], [0, 1, 2, 3, 4, 5, 6, 7, 8, 9, 10], [0, 1, 2, 3, 4, 5, 6, 7, 8, 9, 10, 11], [0, 1, 2, 3, 4, 5, 6, 7, 8], [0, 1, 2, 3, 4, 5, 6, 7, 8], [0, 1, 2, 3, 4, 5, 6, 7, 8, 13, 14], [0, 1, 2, 3, 4, 5, 6, 7, 8, 13, 14, 15], [0, 1, 2, 3, 4, 5, 6, 7, 8, 9, 10, 11, 12, 13, 14, 15, 16], [0, 1, 2, 3, 4, 5, 6, 7, 8], [0, 1, 2, 3, 4, 5, 6, 7, 8], [0, 1, 2, 3, 4, 5, 6, 7, 8, 18, 19], [0, 1, 2, 3, 4, 5, 6, 7, 8, 18, 19, 20], [0, 1, 2, 3, 4, 5, 6, 7, 8, 18, 19, 20, 21], [0, 1, 2, 3, 4, 5, 6, 7, 8, 9, 10, 11, 12, 13, 14, 15, 16, 17, 18, 19, 20, 21, 22], [0, 1, 2, 3, 4, 5, 6, 7, 8, 9, 10, 11, 12, 13, 14, 15, 16, 17, 18, 19, 20, 21, 22, 23], [0, 1, 2, 3, 4, 5, 6, 7, 8, 9, 10, 11, 12, 13, 14, 15, 16, 17, 18, 19, 20, 21, 22, 23, 24]] (.q 0 (.q 1 (.q 2 (.q 3 (.q 4 (.q 5 (.q 6 (.q 7 (.q 8 (.q 9 (.q 10 (.q 11 (.q 12 (.q 13 (.q 14 (.q 15 (.q 16 (.q 17 (.q 18 (.q 19 (.q 20 (.q 21 (.q 22 (.q 23 (.q 24 (.q 25 (.done))))))))))))))))))))))))))) mixed (by kernel_rfl) (by kernel_rfl) ?_
                                refine P_p rfl rfl (Ev_move rfl) rfl ?_
                                refine P_p rfl rfl (Ev_lss rfl rfl) rfl ?_
                                refine P_p rfl rfl (Ev_move rfl) rfl ?_
                                refine T_caseP (s := 302) rfl (fun h1291 => ?_) (fun h1291 => ?_)
                                · have hx1292 := ite_t h1291 hx1282
                                  refine P_skip rfl rfl rfl rfl rfl rfl ?_
                                  refine P_skip rfl rfl rfl rfl rfl rfl ?_
                                  refine P_skip rfl rfl rfl rfl rfl rfl ?_
                                  refine P_skip rfl rfl rfl rfl rfl rfl ?_
                                  refine P_p rfl rfl (Ev_pickT rfl rfl) rfl ?_
                                  refine P_p rfl rfl (Ev_move rfl) rfl ?_
                                  refine P_skip rfl rfl rfl rfl rfl rfl ?_
                                  refine P_skip rfl rfl rfl rfl rfl rfl ?_
                                  refine P_skip rfl rfl rfl rfl rfl rfl ?_
                                  refine P_skip rfl rfl rfl rfl rfl rfl ?_
                                  refine P_skip rfl rfl rfl rfl rfl rfl ?_
                                  refine P_skip rfl rfl rfl rfl rfl rfl ?_
                                  refine P_skip rfl rfl rfl rfl rfl rfl ?_
                                  refine P_skip rfl rfl rfl rfl rfl rfl ?_
                                  refine P_skip rfl rfl rfl rfl rfl rfl ?_
                                  refine P_skip rfl rfl rfl rfl rfl rfl ?_
                                  refine P_skip rfl rfl rfl rfl rfl rfl ?_
                                  refine P_skip rfl rfl rfl rfl rfl rfl ?_
                                  refine P_skip rfl rfl rfl rfl rfl rfl ?_
                                  refine P_skip rfl rfl rfl rfl rfl rfl ?_
                                  refine P_skip rfl rfl rfl rfl rfl rfl ?_
                                  refine P_skip rfl rfl rfl rfl rfl rfl ?_
                                  refine P_p rfl rfl (Ev_pickT rfl rfl) rfl ?_
                                  refine P_done ?_
                                  exact T_metP true () hx1292 trivial (by exact .cons rfl (.cons rfl (.cons rfl (.cons rfl (.cons rfl (.cons rfl (.cons rfl (.cons rfl (.cons rfl (.cons rfl (.nil))))))))))) (by exact .pick 0 rfl (.pick 0 rfl (.pick 0 rfl (.pick 0 rfl (.pick 0 rfl (.pick 0 rfl (.pick 0 rfl (.refl))))))))
                                · have hx1293 := ite_f h1291 hx1282
                                  refine P_pG rfl rfl rfl rfl rfl (Ev_move rfl) rfl ?_
                                  refine P_pG rfl rfl rfl rfl rfl (Ev_move rfl) rfl ?_
                                  refine P_pG rfl rfl rfl rfl rfl (Ev_len rfl 3 Try.underlying34) rfl ?_
                                  refine P_pG rfl rfl rfl rfl rfl (Ev_geq rfl rfl) rfl ?_
                                  refine P_p rfl rfl (Ev_pickF rfl rfl) rfl ?_
                                  refine P_p rfl rfl (Ev_move rfl) rfl ?_
                                  refine T_caseP (s := 308) rfl (fun h1294 => ?_) (fun h1294 => ?_)
                                  · have hx1295 := ite_t h1294 hx1293
                                    refine P_skip rfl rfl rfl rfl rfl rfl ?_
                                    refine P_skip rfl rfl rfl rfl rfl rfl ?_
                                    refine P_skip rfl rfl rfl rfl rfl rfl ?_
                                    refine P_skip rfl rfl rfl rfl rfl rfl ?_
                                    refine P_skip rfl rfl rfl rfl rfl rfl ?_
                                    refine P_skip rfl rfl rfl rfl rfl rfl ?_
                                    refine P_skip rfl rfl rfl rfl rfl rfl ?_
                                    refine P_skip rfl rfl rfl rfl rfl rfl ?_
                                    refine P_skip rfl rfl rfl rfl rfl rfl ?_
                                    refine P_skip rfl rfl rfl rfl rfl rfl ?_
                                    refine P_skip rfl rfl rfl rfl rfl rfl ?_
                                    refine P_skip rfl rfl rfl rfl rfl rfl ?_
                                    refine P_skip rfl rfl rfl rfl rfl rfl ?_
                                    refine P_skip rfl rfl rfl rfl rfl rfl ?_
                                    refine P_skip rfl rfl rfl rfl rfl rfl ?_
                                    refine P_skip rfl rfl rfl rfl rfl rfl ?_
                                    refine P_p rfl rfl (Ev_pickT rfl rfl) rfl ?_
                                    refine P_done ?_
                                    exact T_metP true () hx1295 trivial (by exact .cons rfl (.cons rfl (.cons rfl (.cons rfl (.cons rfl (.cons rfl (.cons rfl (.cons rfl (.cons rfl (.cons rfl (.nil))))))))))) (by exact .pick 0 rfl (.pick 0 rfl (.pick 0 rfl (.pick 0 rfl (.pick 0 rfl (.pick 0 rfl (.pick 0 rfl (.refl))))))))
                                  · have hx1296 := ite_f h1294 hx1293
                                    refine P_pG rfl rfl rfl rfl rfl (Ev_move rfl) rfl ?_
                                    refine P_pG rfl rfl rfl rfl rfl (Ev_move rfl) rfl ?_
                                    obtain ⟨x1297, h1298, hx1299⟩ := bnd_some hx1296
                                    refine T_idxR (k := 5) rfl (by decide) (fun _ => rfl) h1298 (fun b1300 j1302 hA1303 hj1304 hl1305 hm1307 hp1306 => ?_)
                                    refine P_pG rfl rfl rfl rfl rfl (Ev_index rfl rfl hA1303 (j := j1302) hj1304 hl1305 slc34) rfl ?_
                                    refine P_qG rfl rfl rfl rfl rfl (Ev_loadP0 rfl hp1306 (SubE.cons2 (i := 5) rfl (SubE.nil)) rfl one3) rfl ?_
                                    refine P_pG rfl rfl rfl rfl rfl (Ev_move rfl) rfl ?_
                                    refine P_pG rfl rfl rfl rfl rfl (Ev_move rfl) rfl ?_
                                    obtain ⟨x1308, h1309, hx1310⟩ := bnd_some hx1299
                                    refine T_idxR (k := 4) rfl (by decide) (fun _ => rfl) h1309 (fun b1311 j1313 hA1314 hj1315 hl1316 hm1318 hp1317 => ?_)
                                    refine P_pG rfl rfl rfl rfl rfl (Ev_index rfl rfl hA1314 (j := j1313) hj1315 hl1316 slc34) rfl ?_
                                    refine P_qG rfl rfl rfl rfl rfl (Ev_loadP0 rfl hp1317 (SubE.cons2 (i := 4) rfl (SubE.nil)) rfl one3) rfl ?_
                                    refine P_pG rfl rfl rfl rfl rfl (Ev_sub_w64 rfl rfl) rfl ?_
                                    refine P_pG rfl rfl rfl rfl rfl (Ev_move rfl) rfl ?_
                                    refine P_pG rfl rfl rfl rfl rfl (Ev_move rfl) rfl ?_
                                    obtain ⟨x1319, h1320, hx1321⟩ := bnd_some hx1310
                                    obtain ⟨b1322, o1323, j1324, ys1344, hA1325, hj1326, hl1327, hp1328, hr1345⟩ := HasN.at_idx hs519 h1320
                                    obtain ⟨A1329, c1330, A1332, c1333, A1335, c1336, A1338, c1339, A1341, c1342, rfl, hs1331, hs1334, hs1337, hs1340, hs1343⟩ := hr1345
                                    have hp1346 := Pt.low (E := [.r (y8.2.2.1) ((s8.2.1).length) (y8.2.2.2.1) 39 3 ((s8.2.1).flatMap e_api_Cell), e512, e513, e514]) hp1328 hK
                                    refine P_pG rfl rfl rfl rfl rfl (Ev_index rfl rfl hA1325 (j := j1324) hj1326 hl1327 slc44) rfl ?_
                                    refine P_pG rfl rfl rfl rfl rfl (Ev_field rfl fld53_0 rfl) rfl ?_
                                    refine P_qG rfl rfl rfl rfl rfl (Ev_loadP1 (d := 0) rfl hp1346 (SubE.cons2 (i := 7) rfl (SubE.cons2 (i := 3) rfl (SubE.cons2 (i := 0) rfl (SubE.cons2 (i := 1) rfl (SubE.cons2 (i := 2) rfl (SubE.nil)))))) rfl one3) rfl ?_
                                    refine P_pG rfl rfl rfl rfl rfl (Ev_mul_w64 rfl rfl) rfl ?_
                                    refine P_pG rfl rfl rfl rfl rfl (Ev_leq rfl rfl) rfl ?_
                                    refine P_p rfl rfl (Ev_pickF rfl rfl) rfl ?_
                                    refine P_done ?_
                                    exact T_metP (decide ((w64 ((w64 (x1297 - x1308)) * x1319.State)) ≤ 0)) () hx1321 trivial (by exact .cons rfl (.cons rfl (.cons rfl (.cons rfl (.cons rfl (.cons rfl (.cons rfl (.cons rfl (.cons rfl (.cons rfl (.nil))))))))))) (by exact .pick 0 rfl (.pick 0 rfl (.pick 0 rfl (.pick 0 rfl (.pick 0 rfl (.pick 0 rfl (.pick 0 rfl (.refl))))))))
                            · have hx1251 := ite_f h1249 hx1223
                              refine T_condF rfl ?_
                              refine T_exit ?_
                              refine T_outX ?_
                              obtain rfl := exit_eq ht1220 hx1251
                              refine T_outX ?_
                              refine T_here ?_
                              exact T_metP s1220.1 () ho1220 trivial (by exact .cons rfl (.cons rfl (.cons rfl (.cons rfl (.cons rfl (.cons rfl (.cons rfl (.nil)))))))) (by exact .pick 0 rfl (.pick 0 rfl (.pick 0 rfl (.pick 0 rfl (.pick 0 rfl (.pick 0 rfl (.pick 0 rfl (.refl))))))))
                        · have hx1065 := ite_f h1063 hx1062
                          refine T_condF rfl ?_
                          refine T_exit ?_
                          refine T_outX ?_
                          obtain rfl := exit_eq ht1062 hx1065
                          refine T_outX ?_
                          refine T_here ?_
                          exact T_metP () () ho1062 trivial (by exact .nil) (by exact .drop 0 rfl (.drop 0 rfl (.drop 0 rfl (.drop 0 rfl (.drop 0 rfl (.drop 0 rfl (.drop 0 rfl (.refl))))))))
                  · skip
                    refine T_seq ?_
                    refine T_reg ?_
                    refine T_val (Ev_assign rfl) rfl ?_
                    refine T_nil ?_
                    refine T_next ?_
                    refine T_block ?_
                    obtain ⟨t395, hl395, ho395⟩ := bnd_some hx286
                    refine T_loopP (σ := Int) (γ := Unit) hl395 (fun s395 y395 => [(3, .pointer (some ⟨g2, 0, none⟩)), (8, .int .u8 (p0.Few)), (9, .pointer (some ⟨y6.1, 0, none⟩)), (10, .pointer (some ⟨y6.2, 0, none⟩)), (11, .slice (y8.2.2.2.2.1) ((s8.2.2.1).length) (y8.2.2.2.2.2.1)), (12, .slice (y8.2.2.2.2.2.2.1) ((s8.2.2.2).length) (y8.2.2.2.2.2.2.2)), (24, .pointer (some ⟨g266, 0, none⟩)), (26, .int .i64 (s395))]) (fun s395 y395 => [.m g266 26 [.int .i64 (r261.1.Raster.X0), .int .i64 (r261.1.Raster.Y0), .int .i64 (r261.1.Raster.Step), .int .i64 (r261.1.Raster.NX), .int .i64 (r261.1.Raster.NY), .slice (A264) ((r261.1.Cells).length) (c265)], .r (A264) ((r261.1.Cells).length) (c265) 39 3 ((r261.1.Cells).flatMap e_api_Cell), .r (y8.1) ((s8.1).length) (y8.2.1) 39 3 ((s8.1).flatMap e_api_Cell), .r (y8.2.2.1) ((s8.2.1).length) (y8.2.2.2.1) 39 3 ((s8.2.1).flatMap e_api_Cell), .r (y8.2.2.2.2.1) ((s8.2.2.1).length) (y8.2.2.2.2.2.1) 3 1 ((s8.2.2.1).flatMap e_i64), .r (y8.2.2.2.2.2.2.1) ((s8.2.2.2).length) (y8.2.2.2.2.2.2.2) 3 1 ((s8.2.2.2).flatMap e_i64), .m y6.2 26 [.int .i64 (p0.G.Raster.X0), .int .i64 (p0.G.Raster.Y0), .int .i64 (p0.G.Raster.Step), .int .i64 (p0.G.Raster.NX), .int .i64 (p0.G.Raster.NY), .slice (y8.2.2.1) ((s8.2.1).length) (y8.2.2.2.1)], .m y6.1 26 [.int .i64 (p0.G.Raster.X0), .int .i64 (p0.G.Raster.Y0), .int .i64 (p0.G.Raster.Step), .int .i64 (p0.G.Raster.NX), .int .i64 (p0.G.Raster.NY), .slice (y8.1) ((s8.1).length) (y8.2.1)], .m g2 26 [.int .i64 (p0.G.Raster.X0), .int .i64 (p0.G.Raster.Y0), .int .i64 (p0.G.Raster.Step), .int .i64 (p0.G.Raster.NX), .int .i64 (p0.G.Raster.NY), .slice (A0_0) ((p0.G.Cells).length) (c0_0)]] ++ [.old w]) (fun s395 y395 => True) () trivial (by exact .cons rfl (.cons rfl (.cons rfl (.cons rfl (.cons rfl (.cons rfl (.cons rfl (.cons rfl (.nil))))))))) (by exact .pick 0 rfl (.pick 0 rfl (.pick 0 rfl (.pick 0 rfl (.pick 0 rfl (.pick 0 rfl (.pick 0 rfl (.pick 0 rfl (.pick 0 rfl (.refl)))))))))) ?_
                    intro s395 y395 hG395 x395 hx395 ht395
                    unfold lidartop_TopChange_l28 at hx395
                    refine T_seq ?_
                    refine T_seq ?_
                    refine T_reg ?_
                    refine T_val (Ev_move rfl) rfl ?_
                    refine T_val (Ev_move rfl) rfl ?_
                    refine T_val (Ev_len rfl 3 Try.underlying34) rfl ?_
                    refine T_val (Ev_lss rfl rfl) rfl ?_
                    refine T_nil ?_
                    refine T_next ?_
                    refine T_caseP (s := 214) rfl (fun h396 => ?_) (fun h396 => ?_)
                    · have hx397 := ite_t h396 hx395
                      refine T_condT rfl ?_
                      refine T_skip ?_
                      refine T_next ?_
                      refine T_seq ?_
                      refine T_block ?_
                      refine T_seq ?_
                      refine T_reg ?_
                      refine T_val (Ev_field rfl fld26_1 rfl) rfl ?_
                      refine T_val (Ev_load1 rfl (i := 0) rfl rfl one24) rfl ?_
                      refine T_val (Ev_move rfl) rfl ?_
                      obtain ⟨x399, h400, hx401⟩ := bnd_some hx397
                      refine T_idxR (k := 1) rfl (by decide) (fun _ => rfl) h400 (fun b402 j404 hA405 hj406 hl407 hm409 hp408 => ?_)
                      refine T_val (Ev_index rfl rfl hA405 (j := j404) hj406 hl407 slc24) rfl ?_
                      refine T_val (Ev_loadPK0 rfl hp408 (SubE.cons2 (i := 1) rfl (SubE.nil)) rfl agg39) rfl ?_
                      refine T_x (Wx_alloc zer39 rfl (fun g410 => ?_))
                      refine T_h (Wh_store rfl rfl rfl (.here) (.put (.put (.put (.done)))) rfl (List.cons_ne_nil _ _) agg39.2 ?_)
                      refine T_nil ?_
                      refine T_next ?_
                      obtain ⟨j57, hj57, hx401⟩ := jn_some hx401
                      refine T_cutP (τ := Bool) (γ := Unit) (J := j57) (out := x395) (fun s57 y57 => [(3, .pointer (some ⟨g2, 0, none⟩)), (8, .int .u8 (p0.Few)), (9, .pointer (some ⟨y6.1, 0, none⟩)), (10, .pointer (some ⟨y6.2, 0, none⟩)), (11, .slice (y8.2.2.2.2.1) ((s8.2.2.1).length) (y8.2.2.2.2.2.1)), (12, .slice (y8.2.2.2.2.2.2.1) ((s8.2.2.2).length) (y8.2.2.2.2.2.2.2)), (24, .pointer (some ⟨g266, 0, none⟩)), (26, .int .i64 (s395)), (263, .bool (s57))]) (fun s57 y57 => [.m g266 26 [.int .i64 (r261.1.Raster.X0), .int .i64 (r261.1.Raster.Y0), .int .i64 (r261.1.Raster.Step), .int .i64 (r261.1.Raster.NX), .int .i64 (r261.1.Raster.NY), .slice (A264) ((r261.1.Cells).length) (c265)], .r (A264) ((r261.1.Cells).length) (c265) 39 3 ((r261.1.Cells).flatMap e_api_Cell), .r (y8.1) ((s8.1).length) (y8.2.1) 39 3 ((s8.1).flatMap e_api_Cell), .r (y8.2.2.1) ((s8.2.1).length) (y8.2.2.2.1) 39 3 ((s8.2.1).flatMap e_api_Cell), .r (y8.2.2.2.2.1) ((s8.2.2.1).length) (y8.2.2.2.2.2.1) 3 1 ((s8.2.2.1).flatMap e_i64), .r (y8.2.2.2.2.2.2.1) ((s8.2.2.2).length) (y8.2.2.2.2.2.2.2) 3 1 ((s8.2.2.2).flatMap e_i64), .m y6.2 26 [.int .i64 (p0.G.Raster.X0), .int .i64 (p0.G.Raster.Y0), .int .i64 (p0.G.Raster.Step), .int .i64 (p0.G.Raster.NX), .int .i64 (p0.G.Raster.NY), .slice (y8.2.2.1) ((s8.2.1).length) (y8.2.2.2.1)], .m y6.1 26 [.int .i64 (p0.G.Raster.X0), .int .i64 (p0.G.Raster.Y0), .int .i64 (p0.G.Raster.Step), .int .i64 (p0.G.Raster.NX), .int .i64 (p0.G.Raster.NY), .slice (y8.1) ((s8.1).length) (y8.2.1)], .m g2 26 [.int .i64 (p0.G.Raster.X0), .int .i64 (p0.G.Raster.Y0), .int .i64 (p0.G.Raster.Step), .int .i64 (p0.G.Raster.NX), .int .i64 (p0.G.Raster.NY), .slice (A0_0) ((p0.G.Cells).length) (c0_0)]] ++ [.old w]) (fun s57 y57 => True) ?_ ?_
                      · intro s57 y57 hx498 hG499
                        subst hj57
                        refine T_caseB (s := 263) rfl (fun h500 => ?_) (fun h500 => ?_)
                        · have hx501 := ite_t h500 hx498
                          refine T_condT rfl ?_
                          refine T_seq ?_
                          refine T_reg ?_
                          refine T_val (Ev_assign rfl) rfl ?_
                          refine T_nil ?_
                          refine T_next ?_
                          refine T_retc ?_
                          refine T_inR ?_
                          refine T_outR ?_
                          obtain rfl := exit_eq ht395 hx501
                          refine T_outR ?_
                          refine T_inR ?_
                          refine T_outR ?_
                          obtain rfl := Option.some.inj ho395
                          exact T_retP (rs := [.tmp 2]) Try.results3 (.tmp rfl (.nil)) (Ln := []) ⟨rfl, rfl, trivial⟩ (loNil) (by exact .drop 0 rfl (.drop 0 rfl (.drop 0 rfl (.drop 0 rfl (.drop 0 rfl (.drop 0 rfl (.drop 0 rfl (.drop 0 rfl (.drop 0 rfl (.refl))))))))))
                        · have hx502 := ite_bf h500 hx498
                          refine T_condF rfl ?_
                          refine T_skip ?_
                          refine T_inN ?_
                          refine T_next ?_
                          refine T_reg ?_
                          refine T_val (Ev_move rfl) rfl ?_
                          refine T_val (Ev_add_w64 rfl rfl) rfl ?_
                          refine T_val (Ev_assign rfl) rfl ?_
                          refine T_nil ?_
                          exact T_roundP (w64 (s395 + 1)) () hx502 trivial (by exact .cons rfl (.cons rfl (.cons rfl (.cons rfl (.cons rfl (.cons rfl (.cons rfl (.cons rfl (.nil))))))))) (by exact .pick 0 rfl (.pick 0 rfl (.pick 0 rfl (.pick 0 rfl (.pick 0 rfl (.pick 0 rfl (.pick 0 rfl (.pick 0 rfl (.pick 0 rfl (.refl))))))))))
                      · skip
                        refine T_draw [0, 1, 0, 1, 0, 0, 0, 1, 0, 0, 1, 0, 0, 0, 1, 0, 0, 0, 0, 1, 0, 0, 0, 0, 1, 0, 0, 0, 1, 0, 0, 0, 0, 1, 0, 0, 0, 1, 0, 0, 0, 0] [[], [0], [], [2], [], [2, 3, 4], [2, 3, 4, 5], [2, 3, 4, 5, 6], [2, 3, 4, 5, 6, 7], [2, 3, 4, 5, 6, 7, 8], [2, 3, 4, 5, 6, 7, 8, 9], [2, 3, 4, 5, 6, 7, 8], [2, 3, 4, 5, 6, 7, 8, 9, 10, 11], [2, 3, 4, 5, 6, 7, 8, 9, 10, 11, 12], [2, 3, 4, 5, 6, 7, 8, 9, 10, 11, 12, 13], [2, 3, 4, 5, 6, 7, 8, 9, 10, 11, 12, 13, 14], [0, 1, 2, 3, 4, 5, 6, 7, 8, 9, 10, 11, 12, 13, 14, 15], [0, 1, 2, 3, 4, 5, 6, 7, 8, 9, 10, 11, 12, 13, 14, 15, 16], [0, 1, 2, 3, 4, 5, 6, 7, 8, 9, 10, 11, 12, 13, 14, 15, 16, 17], [0, 1, 2, 3, 4, 5, 6, 7, 8, 9, 10, 11, 12, 13, 14, 15, 16, 17, 18], [0, 1, 2, 3, 4, 5, 6, 7, 8, 9, 10, 11, 12, 13, 14, 15, 16, 17, 18, 19], [0, 1, 2, 3, 4, 5, 6, 7, 8, 9, 10, 11, 12, 13, 14, 15, 16, 17, 18, 19, 20], [0, 1, 2, 3, 4, 5, 6, 7, 8, 9, 10, 11, 12, 13, 14, 15, 16, 17, 18, 19, 20, 21], [0, 1, 2, 3, 4, 5, 6, 7, 8, 9, 10, 11, 12, 13, 14, 15, 16, 17, 18, 19, 20, 21, 22], [0, 1, 2, 3, 4, 5, 6, 7, 8, 9, 10, 11, 12, 13, 14, 15, 16, 17, 18, 19, 20, 21, 22, 23], [0, 1, 2, 3, 4, 5, 6, 7, 8, 9, 10, 11, 12, 13, 14, 15, 16, 17, 18, 19, 20, 21], [0, 1, 2, 3, 4, 5, 6, 7, 8, 9, 10, 11, 12, 13, 14, 15, 16, 17, 18, 19, 20, 21], [0, 1, 2, 3, 4, 5, 6, 7, 8, 9, 10, 11, 12, 13, 14, 15, 16, 17, 18, 19, 20, 21, 25, 26], [0, 1, 2, 3, 4, 5, 6, 7, 8, 9, 10, 11, 12, 13, 14, 15, 16, 17, 18, 19, 20, 21, 25, 26, 27], [0, 1, 2, 3, 4, 5, 6, 7, 8, 9, 10, 11, 12, 13, 14, 15, 16, 17, 18, 19, 20, 21, 22, 23, 24, 25, 26, 27, 28], [0, 1, 2, 3, 4, 5, 6, 7, 8, 9, 10, 11, 12, 13, 14, 15, 16, 17, 18, 19, 20, 21, 22, 23, 24, 25, 26, 27, 28, 29], [0, 1, 2, 3, 4, 5, 6, 7, 8, 9, 10, 11, 12, 13, 14, 15, 16, 17, 18, 19, 20, 21, 22, 23, 24, 25, 26, 27, 28, 29, 30], [0, 1, 2, 3, 4, 5, 6, 7, 8, 9, 10, 11, 12, 13, 14, 15, 16, 17, 18, 19, 20, 21, 22, 23, 24, 25, 26, 27, 28, 29, 30, 31], [0, 1, 2, 3, 4, 5, 6, 7, 8, 9, 10, 11, 12, 13, 14, 15, 16, 17, 18, 19, 20, 21, 22, 23, 24, 25, 26, 27, 28, 29, 30, 31, 32], [0, 1, 2, 3, 4, 5, 6, 7, 8, 9, 10, 11, 12, 13, 14, 15, 16, 17, 18, 19, 20, 21, 22, 23, 24, 25, 26, 27, 28, 29, 30], [0, 1, 2, 3, 4, 5, 6, 7, 8, 9, 10, 11, 12, 13, 14, 15, 16, 17, 18, 19, 20, 21, 22, 23, 24, 25, 26, 27, 28, 29, 30], [0, 1, 2, 3, 4, 5, 6, 7, 8, 9, 10, 11, 12, 13, 14, 15, 16, 17, 18, 19, 20, 21, 22, 23, 24, 25, 26, 27, 28, 29, 30, 34, 35], [0, 1, 2, 3, 4, 5, 6, 7, 8, 9, 10, 11, 12, 13, 14, 15, 16, 17, 18, 19, 20, 21, 22, 23, 24, 25, 26, 27, 28, 29, 30, 34, 35, 36], [0, 1, 2, 3, 4, 5, 6, 7, 8, 9, 10, 11, 12, 13, 14, 15, 16, 17, 18, 19, 20, 21, 22, 23, 24, 25, 26, 27, 28, 29, 30, 31, 32, 33, 34, 35, 36, 37], [0, 1, 2, 3, 4, 5, 6, 7, 8, 9, 10, 11, 12, 13, 14, 15, 16, 17, 18, 19, 20, 21, 22, 23, 24, 25, 26, 27, 28, 29, 30, 31, 32, 33, 34, 35, 36, 37, 38], [0, 1, 2, 3, 4, 5, 6, 7, 8, 9, 10, 11, 12, 13, 14, 15, 16, 17, 18, 19, 20, 21, 22, 23, 24, 25, 26, 27, 28, 29, 30, 31, 32, 33, 34, 35, 36, 37, 38, 39], [0, 1, 2, 3, 4, 5, 6, 7, 8, 9, 10, 11, 12, 13, 14, 15, 16, 17, 18, 19, 20, 21, 22, 23, 24, 25, 26, 27, 28, 29, 30, 31, 32, 33, 34, 35, 36, 37, 38, 39, 40]] (.q 0 (.q 1 (.q 2 (.q 3 (.q 4 (.q 5 (.q 6 (.q 7 (.q 8 (.q 9 (.q 10 (.q 11 (.q 12 (.q 13 (.q 14 (.q 15 (.q 16 (.q 17 (.q 18 (.q 19 (.q 20 (.q 21 (.q 22 (.q 23 (.q 24 (.q 25 (.q 26 (.q 27 (.q 28 (.q 29 (.q 30 (.q 31 (.q 32 (.q 33 (.q 34 (.q 35 (.q 36 (.q 37 (.q 38 (.q 39 (.q 40 (.q 41 (.done))))))))))))))))))))))))))))))))))))))))))) mixed (by kernel_rfl) (by kernel_rfl) ?_
                        refine P_p rfl rfl (Ev_field rfl fld39_0 rfl) rfl ?_
                        refine P_q rfl rfl (Ev_load1 rfl (i := 0) rfl rfl one4) rfl ?_
                        refine P_p rfl rfl (Ev_field rfl fld26_1 rfl) rfl ?_
                        refine P_q rfl rfl (Ev_load1 rfl (i := 9) rfl rfl one24) rfl ?_
                        refine P_p rfl rfl (Ev_move rfl) rfl ?_
                        obtain ⟨x411, h412, hx413⟩ := bnd_some hx401
                        have hw421 := Has.low (E := []) ha0' hK
                        obtain ⟨b414, o415, j416, hA417, hj418, hl419, hp420⟩ := Has.at_idx hw421 h412
                        refine P_p rfl rfl (Ev_index rfl rfl hA417 (j := j416) hj418 hl419 slc24) rfl ?_
                        refine P_p rfl rfl (Ev_field rfl fld39_0 rfl) rfl ?_
                        refine P_q rfl rfl (Ev_loadP1 (d := 0) rfl hp420 (SubE.cons2 (i := 10) rfl (SubE.nil)) rfl one4) rfl ?_
                        refine P_p rfl rfl (Ev_move rfl) rfl ?_
                        refine T_caseB (s := 230) rfl (fun h422 => ?_) (fun h422 => ?_)
                        · have hx423 := ite_t h422 hx413
                          refine P_pG rfl rfl rfl rfl rfl (Ev_field rfl fld26_1 rfl) rfl ?_
                          refine P_qG rfl rfl rfl rfl rfl (Ev_load1 rfl (i := 8) rfl rfl one24) rfl ?_
                          refine P_pG rfl rfl rfl rfl rfl (Ev_move rfl) rfl ?_
                          obtain ⟨x424, h425, hx426⟩ := bnd_some hx423
                          refine T_idxR (k := 3) rfl (by decide) (fun _ => rfl) h425 (fun b427 j429 hA430 hj431 hl432 hm434 hp433 => ?_)
                          refine P_pG rfl rfl rfl rfl rfl (Ev_index rfl rfl hA430 (j := j429) hj431 hl432 slc24) rfl ?_
                          refine P_pG rfl rfl rfl rfl rfl (Ev_field rfl fld39_0 rfl) rfl ?_
                          refine P_qG rfl rfl rfl rfl rfl (Ev_loadP1 (d := 0) rfl hp433 (SubE.cons2 (i := 3) rfl (SubE.nil)) rfl one4) rfl ?_
                          refine P_p rfl rfl (Ev_pickT rfl rfl) rfl ?_
                          refine P_p rfl rfl (Ev_neqB rfl rfl (by kernel_rfl)) rfl ?_
                          refine P_p rfl rfl (Ev_move rfl) rfl ?_
                          refine T_caseNB (s := 239) rfl (fun h435 => ?_) (fun h435 => ?_)
                          · have hx436 := ite_bf h435 hx426
                            refine P_skip rfl rfl rfl rfl rfl rfl ?_
                            refine P_skip rfl rfl rfl rfl rfl rfl ?_
                            refine P_skip rfl rfl rfl rfl rfl rfl ?_
                            refine P_skip rfl rfl rfl rfl rfl rfl ?_
                            refine P_skipU rfl rfl rfl rfl rfl ?_
                            refine P_skipU rfl rfl rfl rfl rfl ?_
                            refine P_skipU rfl rfl rfl rfl rfl ?_
                            refine P_skipU rfl rfl rfl rfl rfl ?_
                            refine P_skipU rfl rfl rfl rfl rfl ?_
                            refine P_skipU rfl rfl rfl rfl rfl ?_
                            refine P_skipU rfl rfl rfl rfl rfl ?_
                            refine P_skipU rfl rfl rfl rfl rfl ?_
                            refine P_skipU rfl rfl rfl rfl rfl ?_
                            refine P_skipU rfl rfl rfl rfl rfl ?_
                            refine P_skipU rfl rfl rfl rfl rfl ?_
                            refine P_skipU rfl rfl rfl rfl rfl ?_
                            refine P_skipU rfl rfl rfl rfl rfl ?_
                            refine P_skipU rfl rfl rfl rfl rfl ?_
                            refine P_skipU rfl rfl rfl rfl rfl ?_
                            refine P_skipU rfl rfl rfl rfl rfl ?_
                            refine P_skipU rfl rfl rfl rfl rfl ?_
                            refine P_skipU rfl rfl rfl rfl rfl ?_
                            refine P_skip rfl rfl rfl rfl rfl rfl ?_
                            refine P_p rfl rfl (Ev_pickT rfl rfl) rfl ?_
                            refine P_done ?_
                            exact T_metP true () hx436 trivial (by exact .cons rfl (.cons rfl (.cons rfl (.cons rfl (.cons rfl (.cons rfl (.cons rfl (.cons rfl (.cons rfl (.nil)))))))))) (by exact .pick 1 rfl (.pick 1 rfl (.pick 1 rfl (.pick 1 rfl (.pick 1 rfl (.pick 1 rfl (.pick 1 rfl (.pick 1 rfl (.pick 1 rfl (.drop 0 rfl (.refl)))))))))))
                          · have hx437 := ite_t h435 hx426
                            refine P_pG rfl rfl rfl rfl rfl (Ev_field rfl fld39_0 rfl) rfl ?_
                            refine P_qG rfl rfl rfl rfl rfl (Ev_load1 rfl (i := 0) rfl rfl one4) rfl ?_
                            refine P_pG rfl rfl rfl rfl rfl (Ev_not rfl) rfl ?_
                            refine P_pG rfl rfl rfl rfl rfl (Ev_move rfl) rfl ?_
                            refine T_caseNB (s := 243) rfl (fun h438 => ?_) (fun h438 => ?_)
                            · have hx439 := ite_bf h438 hx437
                              refine P_pG rfl rfl rfl rfl rfl (Ev_field rfl fld39_1 rfl) rfl ?_
                              refine P_pG rfl rfl rfl rfl rfl (Ev_field rfl fld37_0 rfl) rfl ?_
                              refine P_qG rfl rfl rfl rfl rfl (Ev_load1 rfl (i := 0) rfl rfl one3) rfl ?_
                              refine P_pG rfl rfl rfl rfl rfl (Ev_move rfl) rfl ?_
                              refine P_pG rfl rfl rfl rfl rfl (Ev_move rfl) rfl ?_
                              obtain ⟨x440, h441, hx442⟩ := bnd_some hx439
                              refine T_idxR (k := 5) rfl (by decide) (fun _ => rfl) h441 (fun b443 j445 hA446 hj447 hl448 hm450 hp449 => ?_)
                              refine P_pG rfl rfl rfl rfl rfl (Ev_index rfl rfl hA446 (j := j445) hj447 hl448 slc34) rfl ?_
                              refine P_qG rfl rfl rfl rfl rfl (Ev_loadP0 rfl hp449 (SubE.cons2 (i := 5) rfl (SubE.nil)) rfl one3) rfl ?_
                              refine P_pG rfl rfl rfl rfl rfl (Ev_gtr rfl rfl) rfl ?_
                              refine P_pG rfl rfl rfl rfl rfl (Ev_move rfl) rfl ?_
                              refine T_caseP (s := 252) rfl (fun h451 => ?_) (fun h451 => ?_)
                              · have hx452 := ite_t h451 hx442
                                refine P_skip rfl rfl rfl rfl rfl rfl ?_
                                refine P_skip rfl rfl rfl rfl rfl rfl ?_
                                refine P_skip rfl rfl rfl rfl rfl rfl ?_
                                refine P_skip rfl rfl rfl rfl rfl rfl ?_
                                refine P_skip rfl rfl rfl rfl rfl rfl ?_
                                refine P_skip rfl rfl rfl rfl rfl rfl ?_
                                refine P_skip rfl rfl rfl rfl rfl rfl ?_
                                refine P_skip rfl rfl rfl rfl rfl rfl ?_
                                refine P_pG rfl rfl rfl rfl rfl (Ev_pickT rfl rfl) rfl ?_
                                refine P_pG rfl rfl rfl rfl rfl (Ev_pickT rfl rfl) rfl ?_
                                refine P_p rfl rfl (Ev_pickF rfl rfl) rfl ?_
                                refine P_done ?_
                                exact T_metP true () hx452 trivial (by exact .cons rfl (.cons rfl (.cons rfl (.cons rfl (.cons rfl (.cons rfl (.cons rfl (.cons rfl (.cons rfl (.nil)))))))))) (by exact .pick 1 rfl (.pick 1 rfl (.pick 1 rfl (.pick 1 rfl (.pick 1 rfl (.pick 1 rfl (.pick 1 rfl (.pick 1 rfl (.pick 1 rfl (.drop 0 rfl (.refl)))))))))))
                              · have hx453 := ite_f h451 hx442
                                refine P_pG rfl rfl rfl rfl rfl (Ev_field rfl fld39_1 rfl) rfl ?_
                                refine P_pG rfl rfl rfl rfl rfl (Ev_field rfl fld37_1 rfl) rfl ?_
                                refine P_qG rfl rfl rfl rfl rfl (Ev_load1 rfl (i := 0) rfl rfl one3) rfl ?_
                                refine P_pG rfl rfl rfl rfl rfl (Ev_move rfl) rfl ?_
                                refine P_pG rfl rfl rfl rfl rfl (Ev_move rfl) rfl ?_
                                obtain ⟨x454, h455, hx456⟩ := bnd_some hx453
                                refine T_idxR (k := 5) rfl (by decide) (fun _ => rfl) h455 (fun b457 j459 hA460 hj461 hl462 hm464 hp463 => ?_)
                                refine P_pG rfl rfl rfl rfl rfl (Ev_index rfl rfl hA460 (j := j459) hj461 hl462 slc34) rfl ?_
                                refine P_qG rfl rfl rfl rfl rfl (Ev_loadP0 rfl hp463 (SubE.cons2 (i := 5) rfl (SubE.nil)) rfl one3) rfl ?_
                                refine P_pG rfl rfl rfl rfl rfl (Ev_lss rfl rfl) rfl ?_
                                refine P_pG rfl rfl rfl rfl rfl (Ev_pickF rfl rfl) rfl ?_
                                refine P_pG rfl rfl rfl rfl rfl (Ev_pickT rfl rfl) rfl ?_
                                refine P_p rfl rfl (Ev_pickF rfl rfl) rfl ?_
                                refine P_done ?_
                                exact T_metP (decide (x399.Z.Hi < x454)) () hx456 trivial (by exact .cons rfl (.cons rfl (.cons rfl (.cons rfl (.cons rfl (.cons rfl (.cons rfl (.cons rfl (.cons rfl (.nil)))))))))) (by exact .pick 1 rfl (.pick 1 rfl (.pick 1 rfl (.pick 1 rfl (.pick 1 rfl (.pick 1 rfl (.pick 1 rfl (.pick 1 rfl (.pick 1 rfl (.drop 0 rfl (.refl)))))))))))
                            · have hx465 := ite_t h438 hx437
                              refine P_skip rfl rfl rfl rfl rfl rfl ?_
                              refine P_skip rfl rfl rfl rfl rfl rfl ?_
                              refine P_skip rfl rfl rfl rfl rfl rfl ?_
                              refine P_skip rfl rfl rfl rfl rfl rfl ?_
                              refine P_skip rfl rfl rfl rfl rfl rfl ?_
                              refine P_skip rfl rfl rfl rfl rfl rfl ?_
                              refine P_skip rfl rfl rfl rfl rfl rfl ?_
                              refine P_skip rfl rfl rfl rfl rfl rfl ?_
                              refine P_skip rfl rfl rfl rfl rfl rfl ?_
                              refine P_skipU rfl rfl rfl rfl rfl ?_
                              refine P_skipU rfl rfl rfl rfl rfl ?_
                              refine P_skipU rfl rfl rfl rfl rfl ?_
                              refine P_skipU rfl rfl rfl rfl rfl ?_
                              refine P_skipU rfl rfl rfl rfl rfl ?_
                              refine P_skipU rfl rfl rfl rfl rfl ?_
                              refine P_skipU rfl rfl rfl rfl rfl ?_
                              refine P_skipU rfl rfl rfl rfl rfl ?_
                              refine P_skip rfl rfl rfl rfl rfl rfl ?_
                              refine P_pG rfl rfl rfl rfl rfl (Ev_pickF rfl rfl) rfl ?_
                              refine P_p rfl rfl (Ev_pickF rfl rfl) rfl ?_
                              refine P_done ?_
                              exact T_metP false () hx465 trivial (by exact .cons rfl (.cons rfl (.cons rfl (.cons rfl (.cons rfl (.cons rfl (.cons rfl (.cons rfl (.cons rfl (.nil)))))))))) (by exact .pick 1 rfl (.pick 1 rfl (.pick 1 rfl (.pick 1 rfl (.pick 1 rfl (.pick 1 rfl (.pick 1 rfl (.pick 1 rfl (.pick 1 rfl (.drop 0 rfl (.refl)))))))))))
                        · have hx466 := ite_bf h422 hx413
                          refine P_skip rfl rfl rfl rfl rfl rfl ?_
                          refine P_skip rfl rfl rfl rfl rfl rfl ?_
                          refine P_skip rfl rfl rfl rfl rfl rfl ?_
                          refine P_skip rfl rfl rfl rfl rfl rfl ?_
                          refine P_skip rfl rfl rfl rfl rfl rfl ?_
                          refine P_skip rfl rfl rfl rfl rfl rfl ?_
                          refine P_p rfl rfl (Ev_pickF rfl rfl) rfl ?_
                          refine P_p rfl rfl (Ev_neqB rfl rfl (by kernel_rfl)) rfl ?_
                          refine P_p rfl rfl (Ev_move rfl) rfl ?_
                          refine T_caseNB (s := 239) rfl (fun h467 => ?_) (fun h467 => ?_)
                          · have hx468 := ite_bf h467 hx466
                            refine P_skip rfl rfl rfl rfl rfl rfl ?_
                            refine P_skip rfl rfl rfl rfl rfl rfl ?_
                            refine P_skip rfl rfl rfl rfl rfl rfl ?_
                            refine P_skip rfl rfl rfl rfl rfl rfl ?_
                            refine P_skipU rfl rfl rfl rfl rfl ?_
                            refine P_skipU rfl rfl rfl rfl rfl ?_
                            refine P_skipU rfl rfl rfl rfl rfl ?_
                            refine P_skipU rfl rfl rfl rfl rfl ?_
                            refine P_skipU rfl rfl rfl rfl rfl ?_
                            refine P_skipU rfl rfl rfl rfl rfl ?_
                            refine P_skipU rfl rfl rfl rfl rfl ?_
                            refine P_skipU rfl rfl rfl rfl rfl ?_
                            refine P_skipU rfl rfl rfl rfl rfl ?_
                            refine P_skipU rfl rfl rfl rfl rfl ?_
                            refine P_skipU rfl rfl rfl rfl rfl ?_
                            refine P_skipU rfl rfl rfl rfl rfl ?_
                            refine P_skipU rfl rfl rfl rfl rfl ?_
                            refine P_skipU rfl rfl rfl rfl rfl ?_
                            refine P_skipU rfl rfl rfl rfl rfl ?_
                            refine P_skipU rfl rfl rfl rfl rfl ?_
                            refine P_skipU rfl rfl rfl rfl rfl ?_
                            refine P_skipU rfl rfl rfl rfl rfl ?_
                            refine P_skip rfl rfl rfl rfl rfl rfl ?_
                            refine P_p rfl rfl (Ev_pickT rfl rfl) rfl ?_
                            refine P_done ?_
                            exact T_metP true () hx468 trivial (by exact .cons rfl (.cons rfl (.cons rfl (.cons rfl (.cons rfl (.cons rfl (.cons rfl (.cons rfl (.cons rfl (.nil)))))))))) (by exact .pick 1 rfl (.pick 1 rfl (.pick 1 rfl (.pick 1 rfl (.pick 1 rfl (.pick 1 rfl (.pick 1 rfl (.pick 1 rfl (.pick 1 rfl (.drop 0 rfl (.refl)))))))))))
                          · have hx469 := ite_t h467 hx466
                            refine P_pG rfl rfl rfl rfl rfl (Ev_field rfl fld39_0 rfl) rfl ?_
                            refine P_qG rfl rfl rfl rfl rfl (Ev_load1 rfl (i := 0) rfl rfl one4) rfl ?_
                            refine P_pG rfl rfl rfl rfl rfl (Ev_not rfl) rfl ?_
                            refine P_pG rfl rfl rfl rfl rfl (Ev_move rfl) rfl ?_
                            refine T_caseNB (s := 243) rfl (fun h470 => ?_) (fun h470 => ?_)
                            · have hx471 := ite_bf h470 hx469
                              refine P_pG rfl rfl rfl rfl rfl (Ev_field rfl fld39_1 rfl) rfl ?_
                              refine P_pG rfl rfl rfl rfl rfl (Ev_field rfl fld37_0 rfl) rfl ?_
                              refine P_qG rfl rfl rfl rfl rfl (Ev_load1 rfl (i := 0) rfl rfl one3) rfl ?_
                              refine P_pG rfl rfl rfl rfl rfl (Ev_move rfl) rfl ?_
                              refine P_pG rfl rfl rfl rfl rfl (Ev_move rfl) rfl ?_
                              obtain ⟨x472, h473, hx474⟩ := bnd_some hx471
                              refine T_idxR (k := 5) rfl (by decide) (fun _ => rfl) h473 (fun b475 j477 hA478 hj479 hl480 hm482 hp481 => ?_)
                              refine P_pG rfl rfl rfl rfl rfl (Ev_index rfl rfl hA478 (j := j477) hj479 hl480 slc34) rfl ?_
                              refine P_qG rfl rfl rfl rfl rfl (Ev_loadP0 rfl hp481 (SubE.cons2 (i := 5) rfl (SubE.nil)) rfl one3) rfl ?_
                              refine P_pG rfl rfl rfl rfl rfl (Ev_gtr rfl rfl) rfl ?_
                              refine P_pG rfl rfl rfl rfl rfl (Ev_move rfl) rfl ?_
                              refine T_caseP (s := 252) rfl (fun h483 => ?_) (fun h483 => ?_)
                              · have hx484 := ite_t h483 hx474
                                refine P_skip rfl rfl rfl rfl rfl rfl ?_
                                refine P_skip rfl rfl rfl rfl rfl rfl ?_
                                refine P_skip rfl rfl rfl rfl rfl rfl ?_
                                refine P_skip rfl rfl rfl rfl rfl rfl ?_
                                refine P_skip rfl rfl rfl rfl rfl rfl ?_
                                refine P_skip rfl rfl rfl rfl rfl rfl ?_
                                refine P_skip rfl rfl rfl rfl rfl rfl ?_
                                refine P_skip rfl rfl rfl rfl rfl rfl ?_
                                refine P_pG rfl rfl rfl rfl rfl (Ev_pickT rfl rfl) rfl ?_
                                refine P_pG rfl rfl rfl rfl rfl (Ev_pickT rfl rfl) rfl ?_
                                refine P_p rfl rfl (Ev_pickF rfl rfl) rfl ?_
                                refine P_done ?_
                                exact T_metP true () hx484 trivial (by exact .cons rfl (.cons rfl (.cons rfl (.cons rfl (.cons rfl (.cons rfl (.cons rfl (.cons rfl (.cons rfl (.nil)))))))))) (by exact .pick 1 rfl (.pick 1 rfl (.pick 1 rfl (.pick 1 rfl (.pick 1 rfl (.pick 1 rfl (.pick 1 rfl (.pick 1 rfl (.pick 1 rfl (.drop 0 rfl (.refl)))))))))))
                              · have hx485 := ite_f h483 hx474
                                refine P_pG rfl rfl rfl rfl rfl (Ev_field rfl fld39_1 rfl) rfl ?_
                                refine P_pG rfl rfl rfl rfl rfl (Ev_field rfl fld37_1 rfl) rfl ?_
                                refine P_qG rfl rfl rfl rfl rfl (Ev_load1 rfl (i := 0) rfl rfl one3) rfl ?_
                                refine P_pG rfl rfl rfl rfl rfl (Ev_move rfl) rfl ?_
                                refine P_pG rfl rfl rfl rfl rfl (Ev_move rfl) rfl ?_
                                obtain ⟨x486, h487, hx488⟩ := bnd_some hx485
                                refine T_idxR (k := 5) rfl (by decide) (fun _ => rfl) h487 (fun b489 j491 hA492 hj493 hl494 hm496 hp495 => ?_)
                                refine P_pG rfl rfl rfl rfl rfl (Ev_index rfl rfl hA492 (j := j491) hj493 hl494 slc34) rfl ?_
                                refine P_qG rfl rfl rfl rfl rfl (Ev_loadP0 rfl hp495 (SubE.cons2 (i := 5) rfl (SubE.nil)) rfl one3) rfl ?_
                                refine P_pG rfl rfl rfl rfl rfl (Ev_lss rfl rfl) rfl ?_
                                refine P_pG rfl rfl rfl rfl rfl (Ev_pickF rfl rfl) rfl ?_
                                refine P_pG rfl rfl rfl rfl rfl (Ev_pickT rfl rfl) rfl ?_
                                refine P_p rfl rfl (Ev_pickF rfl rfl) rfl ?_
                                refine P_done ?_
                                exact T_metP (decide (x399.Z.Hi < x486)) () hx488 trivial (by exact .cons rfl (.cons rfl (.cons rfl (.cons rfl (.cons rfl (.cons rfl (.cons rfl (.cons rfl (.cons rfl (.nil)))))))))) (by exact .pick 1 rfl (.pick 1 rfl (.pick 1 rfl (.pick 1 rfl (.pick 1 rfl (.pick 1 rfl (.pick 1 rfl (.pick 1 rfl (.pick 1 rfl (.drop 0 rfl (.refl)))))))))))
                            · have hx497 := ite_t h470 hx469
                              refine P_skip rfl rfl rfl rfl rfl rfl ?_
                              refine P_skip rfl rfl rfl rfl rfl rfl ?_
                              refine P_skip rfl rfl rfl rfl rfl rfl ?_
                              refine P_skip rfl rfl rfl rfl rfl rfl ?_
                              refine P_skip rfl rfl rfl rfl rfl rfl ?_
                              refine P_skip rfl rfl rfl rfl rfl rfl ?_
                              refine P_skip rfl rfl rfl rfl rfl rfl ?_
                              refine P_skip rfl rfl rfl rfl rfl rfl ?_
                              refine P_skip rfl rfl rfl rfl rfl rfl ?_
                              refine P_skipU rfl rfl rfl rfl rfl ?_
                              refine P_skipU rfl rfl rfl rfl rfl ?_
                              refine P_skipU rfl rfl rfl rfl rfl ?_
                              refine P_skipU rfl rfl rfl rfl rfl ?_
                              refine P_skipU rfl rfl rfl rfl rfl ?_
                              refine P_skipU rfl rfl rfl rfl rfl ?_
                              refine P_skipU rfl rfl rfl rfl rfl ?_
                              refine P_skipU rfl rfl rfl rfl rfl ?_
                              refine P_skip rfl rfl rfl rfl rfl rfl ?_
                              refine P_pG rfl rfl rfl rfl rfl (Ev_pickF rfl rfl) rfl ?_
                              refine P_p rfl rfl (Ev_pickF rfl rfl) rfl ?_
                              refine P_done ?_
                              exact T_metP false () hx497 trivial (by exact .cons rfl (.cons rfl (.cons rfl (.cons rfl (.cons rfl (.cons rfl (.cons rfl (.cons rfl (.cons rfl (.nil)))))))))) (by exact .pick 1 rfl (.pick 1 rfl (.pick 1 rfl (.pick 1 rfl (.pick 1 rfl (.pick 1 rfl (.pick 1 rfl (.pick 1 rfl (.pick 1 rfl (.drop 0 rfl (.refl)))))))))))
                    · have hx398 := ite_f h396 hx395
                      refine T_condF rfl ?_
                      refine T_exit ?_
                      refine T_outX ?_
                      obtain rfl := exit_eq ht395 hx398
                      refine T_outX ?_
                      refine T_here ?_
                      exact T_metP () () ho395 trivial (by exact .cons rfl (.cons rfl (.cons rfl (.cons rfl (.cons rfl (.nil)))))) (by exact .pick 3 rfl (.pick 3 rfl (.pick 3 rfl (.pick 3 rfl (.pick 4 rfl (.drop 0 rfl (.drop 0 rfl (.drop 0 rfl (.drop 0 rfl (.refl))))))))))
              · skip
                refine T_reg ?_
                refine T_val (Ev_move rfl) rfl ?_
                refine T_val (Ev_neq rfl rfl) rfl ?_
                refine T_val (Ev_move rfl) rfl ?_
                refine T_caseNP (s := 186) rfl (fun h267 => ?_) (fun h267 => ?_)
                · have hx268 := ite_f h267 hx263
                  refine T_skipG rfl rfl rfl rfl rfl ?_
                  refine T_skipG rfl rfl rfl rfl rfl ?_
                  refine T_val (Ev_pickT rfl rfl) rfl ?_
                  refine T_val (Ev_move rfl) rfl ?_
                  refine T_skipG rfl rfl rfl rfl rfl ?_
                  refine T_skipG rfl rfl rfl rfl rfl ?_
                  refine T_val (Ev_pickT rfl rfl) rfl ?_
                  refine T_val (Ev_move rfl) rfl ?_
                  refine T_skipG rfl rfl rfl rfl rfl ?_
                  refine T_skipG rfl rfl rfl rfl rfl ?_
                  refine T_val (Ev_pickT rfl rfl) rfl ?_
                  refine T_val (Ev_move rfl) rfl ?_
                  refine T_skipG rfl rfl rfl rfl rfl ?_
                  refine T_skipG rfl rfl rfl rfl rfl ?_
                  refine T_skipG rfl rfl rfl rfl rfl ?_
                  refine T_val (Ev_pickT rfl rfl) rfl ?_
                  refine T_val (Ev_move rfl) rfl ?_
                  refine T_skipG rfl rfl rfl rfl rfl ?_
                  refine T_skipG rfl rfl rfl rfl rfl ?_
                  refine T_skipG rfl rfl rfl rfl rfl ?_
                  refine T_skipG rfl rfl rfl rfl rfl ?_
                  refine T_skipG rfl rfl rfl rfl rfl ?_
                  refine T_skipG rfl rfl rfl rfl rfl ?_
                  refine T_val (Ev_pickT rfl rfl) rfl ?_
                  refine T_nil ?_
                  exact T_metP true () hx268 trivial (by exact .cons rfl (.cons rfl (.cons rfl (.cons rfl (.cons rfl (.cons rfl (.cons rfl (.cons rfl (.nil))))))))) (by exact .pick 0 rfl (.pick 0 rfl (.pick 3 rfl (.pick 3 rfl (.pick 3 rfl (.pick 3 rfl (.pick 3 rfl (.pick 3 rfl (.pick 3 rfl (.drop 0 rfl (.drop 0 rfl (.drop 0 rfl (.refl)))))))))))))
                · have hx269 := ite_t h267 hx263
                  refine T_valG rfl rfl rfl (Ev_move rfl) rfl ?_
                  refine T_valG rfl rfl rfl (Ev_neq rfl rfl) rfl ?_
                  refine T_val (Ev_pickF rfl rfl) rfl ?_
                  refine T_val (Ev_move rfl) rfl ?_
                  refine T_caseNP (s := 190) rfl (fun h270 => ?_) (fun h270 => ?_)
                  · have hx271 := ite_f h270 hx269
                    refine T_skipG rfl rfl rfl rfl rfl ?_
                    refine T_skipG rfl rfl rfl rfl rfl ?_
                    refine T_val (Ev_pickT rfl rfl) rfl ?_
                    refine T_val (Ev_move rfl) rfl ?_
                    refine T_skipG rfl rfl rfl rfl rfl ?_
                    refine T_skipG rfl rfl rfl rfl rfl ?_
                    refine T_val (Ev_pickT rfl rfl) rfl ?_
                    refine T_val (Ev_move rfl) rfl ?_
                    refine T_skipG rfl rfl rfl rfl rfl ?_
                    refine T_skipG rfl rfl rfl rfl rfl ?_
                    refine T_skipG rfl rfl rfl rfl rfl ?_
                    refine T_val (Ev_pickT rfl rfl) rfl ?_
                    refine T_val (Ev_move rfl) rfl ?_
                    refine T_skipG rfl rfl rfl rfl rfl ?_
                    refine T_skipG rfl rfl rfl rfl rfl ?_
                    refine T_skipG rfl rfl rfl rfl rfl ?_
                    refine T_skipG rfl rfl rfl rfl rfl ?_
                    refine T_skipG rfl rfl rfl rfl rfl ?_
                    refine T_skipG rfl rfl rfl rfl rfl ?_
                    refine T_val (Ev_pickT rfl rfl) rfl ?_
                    refine T_nil ?_
                    exact T_metP true () hx271 trivial (by exact .cons rfl (.cons rfl (.cons rfl (.cons rfl (.cons rfl (.cons rfl (.cons rfl (.cons rfl (.nil))))))))) (by exact .pick 0 rfl (.pick 0 rfl (.pick 3 rfl (.pick 3 rfl (.pick 3 rfl (.pick 3 rfl (.pick 3 rfl (.pick 3 rfl (.pick 3 rfl (.drop 0 rfl (.drop 0 rfl (.drop 0 rfl (.refl)))))))))))))
                  · have hx272 := ite_t h270 hx269
                    refine T_valG rfl rfl rfl (Ev_move rfl) rfl ?_
                    refine T_valG rfl rfl rfl (Ev_neq rfl rfl) rfl ?_
                    refine T_val (Ev_pickF rfl rfl) rfl ?_
                    refine T_val (Ev_move rfl) rfl ?_
                    refine T_caseNP (s := 194) rfl (fun h273 => ?_) (fun h273 => ?_)
                    · have hx274 := ite_f h273 hx272
                      refine T_skipG rfl rfl rfl rfl rfl ?_
                      refine T_skipG rfl rfl rfl rfl rfl ?_
                      refine T_val (Ev_pickT rfl rfl) rfl ?_
                      refine T_val (Ev_move rfl) rfl ?_
                      refine T_skipG rfl rfl rfl rfl rfl ?_
                      refine T_skipG rfl rfl rfl rfl rfl ?_
                      refine T_skipG rfl rfl rfl rfl rfl ?_
                      refine T_val (Ev_pickT rfl rfl) rfl ?_
                      refine T_val (Ev_move rfl) rfl ?_
                      refine T_skipG rfl rfl rfl rfl rfl ?_
                      refine T_skipG rfl rfl rfl rfl rfl ?_
                      refine T_skipG rfl rfl rfl rfl rfl ?_
                      refine T_skipG rfl rfl rfl rfl rfl ?_
                      refine T_skipG rfl rfl rfl rfl rfl ?_
                      refine T_skipG rfl rfl rfl rfl rfl ?_
                      refine T_val (Ev_pickT rfl rfl) rfl ?_
                      refine T_nil ?_
                      exact T_metP true () hx274 trivial (by exact .cons rfl (.cons rfl (.cons rfl (.cons rfl (.cons rfl (.cons rfl (.cons rfl (.cons rfl (.nil))))))))) (by exact .pick 0 rfl (.pick 0 rfl (.pick 3 rfl (.pick 3 rfl (.pick 3 rfl (.pick 3 rfl (.pick 3 rfl (.pick 3 rfl (.pick 3 rfl (.drop 0 rfl (.drop 0 rfl (.drop 0 rfl (.refl)))))))))))))
                    · have hx275 := ite_t h273 hx272
                      refine T_valG rfl rfl rfl (Ev_move rfl) rfl ?_
                      refine T_valG rfl rfl rfl (Ev_not rfl) rfl ?_
                      refine T_val (Ev_pickF rfl rfl) rfl ?_
                      refine T_val (Ev_move rfl) rfl ?_
                      refine T_caseNB (s := 198) rfl (fun h276 => ?_) (fun h276 => ?_)
                      · have hx277 := ite_bf h276 hx275
                        refine T_skipG rfl rfl rfl rfl rfl ?_
                        refine T_skipG rfl rfl rfl rfl rfl ?_
                        refine T_skipG rfl rfl rfl rfl rfl ?_
                        refine T_val (Ev_pickT rfl rfl) rfl ?_
                        refine T_val (Ev_move rfl) rfl ?_
                        refine T_skipG rfl rfl rfl rfl rfl ?_
                        refine T_skipG rfl rfl rfl rfl rfl ?_
                        refine T_skipG rfl rfl rfl rfl rfl ?_
                        refine T_skipG rfl rfl rfl rfl rfl ?_
                        refine T_skipG rfl rfl rfl rfl rfl ?_
                        refine T_skipG rfl rfl rfl rfl rfl ?_
                        refine T_val (Ev_pickT rfl rfl) rfl ?_
                        refine T_nil ?_
                        exact T_metP true () hx277 trivial (by exact .cons rfl (.cons rfl (.cons rfl (.cons rfl (.cons rfl (.cons rfl (.cons rfl (.cons rfl (.nil))))))))) (by exact .pick 0 rfl (.pick 0 rfl (.pick 3 rfl (.pick 3 rfl (.pick 3 rfl (.pick 3 rfl (.pick 3 rfl (.pick 3 rfl (.pick 3 rfl (.drop 0 rfl (.drop 0 rfl (.drop 0 rfl (.refl)))))))))))))
                      · have hx278 := ite_t h276 hx275
                        refine T_valG rfl rfl rfl (Ev_move rfl) rfl ?_
                        refine T_valG rfl rfl rfl (Ev_len rfl 53 Try.underlying44) rfl ?_
                        refine T_valG rfl rfl rfl (Ev_neq rfl rfl) rfl ?_
                        refine T_val (Ev_pickF rfl rfl) rfl ?_
                        refine T_val (Ev_move rfl) rfl ?_
                        refine T_caseNP (s := 203) rfl (fun h279 => ?_) (fun h279 => ?_)
                        · have hx280 := ite_f h279 hx278
                          refine T_skipG rfl rfl rfl rfl rfl ?_
                          refine T_skipG rfl rfl rfl rfl rfl ?_
                          refine T_skipG rfl rfl rfl rfl rfl ?_
                          refine T_skipG rfl rfl rfl rfl rfl ?_
                          refine T_skipG rfl rfl rfl rfl rfl ?_
                          refine T_skipG rfl rfl rfl rfl rfl ?_
                          refine T_val (Ev_pickT rfl rfl) rfl ?_
                          refine T_nil ?_
                          exact T_metP true () hx280 trivial (by exact .cons rfl (.cons rfl (.cons rfl (.cons rfl (.cons rfl (.cons rfl (.cons rfl (.cons rfl (.nil))))))))) (by exact .pick 0 rfl (.pick 0 rfl (.pick 3 rfl (.pick 3 rfl (.pick 3 rfl (.pick 3 rfl (.pick 3 rfl (.pick 3 rfl (.pick 3 rfl (.drop 0 rfl (.drop 0 rfl (.drop 0 rfl (.refl)))))))))))))
                        · have hx281 := ite_t h279 hx278
                          refine T_valG rfl rfl rfl (Ev_field rfl fld26_1 rfl) rfl ?_
                          refine T_valG rfl rfl rfl (Ev_load1 rfl (i := 0) rfl rfl one24) rfl ?_
                          refine T_valG rfl rfl rfl (Ev_len rfl 39 Try.underlying24) rfl ?_
                          refine T_valG rfl rfl rfl (Ev_move rfl) rfl ?_
                          refine T_valG rfl rfl rfl (Ev_len rfl 3 Try.underlying34) rfl ?_
                          refine T_valG rfl rfl rfl (Ev_neq rfl rfl) rfl ?_
                          refine T_val (Ev_pickF rfl rfl) rfl ?_
                          refine T_nil ?_
                          exact T_metP (!(decide (((((r261.1.Cells).length : Nat) : Int)) = ((((s8.2.2.1).length : Nat) : Int))))) () hx281 trivial (by exact .cons rfl (.cons rfl (.cons rfl (.cons rfl (.cons rfl (.cons rfl (.cons rfl (.cons rfl (.nil))))))))) (by exact .pick 0 rfl (.pick 0 rfl (.pick 3 rfl (.pick 3 rfl (.pick 3 rfl (.pick 3 rfl (.pick 3 rfl (.pick 3 rfl (.pick 3 rfl (.drop 0 rfl (.drop 0 rfl (.drop 0 rfl (.refl)))))))))))))
          · skip
            refine T_reg ?_
            refine T_val (Ev_loadK rfl (i := 5) rfl rfl agg26) rfl ?_
            refine T_rowP (k := 0) rfl (by decide) (fun _ => rfl) (fun hn218 hs219 => ?_)
            obtain ⟨r220, h221, hx222⟩ := bnd_some hx216
            refine T_x (Wx_callL rfl (fun w1 hw1 => lidarref09_Valid_ok (⟨p0.G.Raster, s8.1⟩ : S_api_Grid) (Has.len' hs219) h221 w1 (okAll (K := ([.r (y8.1) ((s8.1).length) (y8.2.1) 39 3 ((s8.1).flatMap e_api_Cell)] : List Ent)) (by exact (SubE.cons2 (i := 0) rfl (SubE.nil))) hw1)) rfl ?_)
            rintro _ _ hlo ⟨rfl, rfl, -⟩
            refine T_app0 ?_
            refine T_val (Ev_not rfl) rfl ?_
            refine T_val (Ev_move rfl) rfl ?_
            refine T_caseNB (s := 160) rfl (fun h223 => ?_) (fun h223 => ?_)
            · have hx224 := ite_bf h223 hx222
              refine T_skipG rfl rfl rfl rfl rfl ?_
              refine T_skipG rfl rfl rfl rfl rfl ?_
              refine T_skipG rfl rfl rfl rfl rfl ?_
              refine T_val (Ev_pickT rfl rfl) rfl ?_
              refine T_nil ?_
              exact T_metP true () hx224 trivial (by exact .cons rfl (.cons rfl (.cons rfl (.cons rfl (.cons rfl (.cons rfl (.cons rfl (.nil)))))))) (by exact .pick 0 rfl (.pick 0 rfl (.pick 0 rfl (.pick 0 rfl (.pick 0 rfl (.pick 0 rfl (.pick 0 rfl (.refl))))))))
            · have hx225 := ite_t h223 hx222
              refine T_valG rfl rfl rfl (Ev_loadK rfl (i := 4) rfl rfl agg26) rfl ?_
              refine T_rowP (k := 1) rfl (by decide) (fun _ => rfl) (fun hn226 hs227 => ?_)
              obtain ⟨r228, h229, hx230⟩ := bnd_some hx225
              refine T_xG rfl rfl rfl (Wx_callL rfl (fun w1 hw1 => lidarref09_Valid_ok (⟨p0.G.Raster, s8.2.1⟩ : S_api_Grid) (Has.len' hs227) h229 w1 (okAll (K := ([.r (y8.2.2.1) ((s8.2.1).length) (y8.2.2.2.1) 39 3 ((s8.2.1).flatMap e_api_Cell)] : List Ent)) (by exact (SubE.cons2 (i := 1) rfl (SubE.nil))) hw1)) rfl ?_)
              rintro _ _ hlo ⟨rfl, rfl, -⟩
              refine T_app0 ?_
              refine T_valG rfl rfl rfl (Ev_not rfl) rfl ?_
              refine T_val (Ev_pickF rfl rfl) rfl ?_
              refine T_nil ?_
              exact T_metP (!(r228)) () hx230 trivial (by exact .cons rfl (.cons rfl (.cons rfl (.cons rfl (.cons rfl (.cons rfl (.cons rfl (.nil)))))))) (by exact .pick 0 rfl (.pick 0 rfl (.pick 0 rfl (.pick 0 rfl (.pick 0 rfl (.pick 0 rfl (.pick 0 rfl (.refl))))))))
        · skip
          refine T_seq ?_
          refine T_reg ?_
          refine T_val (Ev_assign rfl) rfl ?_
          refine T_nil ?_
          refine T_next ?_
          refine T_block ?_
          obtain ⟨t122, hl122, ho122⟩ := bnd_some hx26
          refine T_none 39 3 ?_
          refine T_none 39 3 ?_
          refine T_none 3 1 ?_
          refine T_none 3 1 ?_
          have hn123 : 0 = (([] : List S_api_Cell)).length := by simp [setI_len, cpy_len, List.length_append] <;> omega
          refine T_ent (.there (.there (.there (.here)))) (e' := .r (none) ((([] : List S_api_Cell)).length) (0) 39 3 ((([] : List S_api_Cell)).flatMap e_api_Cell)) (by first | (rw [← hn123]; done) | rfl) ?_
          have hn124 : 0 = (([] : List S_api_Cell)).length := by simp [setI_len, cpy_len, List.length_append] <;> omega
          refine T_ent (.there (.there (.here))) (e' := .r (none) ((([] : List S_api_Cell)).length) (0) 39 3 ((([] : List S_api_Cell)).flatMap e_api_Cell)) (by first | (rw [← hn124]; done) | rfl) ?_
          have hn125 : 0 = (([] : List Int)).length := by simp [setI_len, cpy_len, List.length_append] <;> omega
          refine T_ent (.there (.here)) (e' := .r (none) ((([] : List Int)).length) (0) 3 1 ((([] : List Int)).flatMap e_i64)) (by first | (rw [← hn125]; done) | rfl) ?_
          have hn126 : 0 = (([] : List Int)).length := by simp [setI_len, cpy_len, List.length_append] <;> omega
          refine T_ent (.here) (e' := .r (none) ((([] : List Int)).length) (0) 3 1 ((([] : List Int)).flatMap e_i64)) (by first | (rw [← hn126]; done) | rfl) ?_
          refine T_loopP (σ := (List S_api_Cell) × (List S_api_Cell) × (List Int) × (List Int) × Int) (γ := (Option Addr) × Nat × (Option Addr) × Nat × (Option Addr) × Nat × (Option Addr) × Nat) hl122 (fun s122 y122 => [(3, .pointer (some ⟨g2, 0, none⟩)), (4, .int .u32 (p0.Part)), (5, .int .u32 (p0.More)), (6, .int .u16 (p0.Voids)), (7, .slice (A0_1) ((p0.Moved).length) (c0_1)), (8, .int .u8 (p0.Few)), (9, .pointer (some ⟨y6.1, 0, none⟩)), (10, .pointer (some ⟨y6.2, 0, none⟩)), (11, .slice (y122.2.2.2.2.1) ((s122.2.2.1).length) (y122.2.2.2.2.2.1)), (12, .slice (y122.2.2.2.2.2.2.1) ((s122.2.2.2.1).length) (y122.2.2.2.2.2.2.2)), (13, .int .i64 (s122.2.2.2.2))]) (fun s122 y122 => [.r (y122.1) ((s122.1).length) (y122.2.1) 39 3 ((s122.1).flatMap e_api_Cell), .r (y122.2.2.1) ((s122.2.1).length) (y122.2.2.2.1) 39 3 ((s122.2.1).flatMap e_api_Cell), .r (y122.2.2.2.2.1) ((s122.2.2.1).length) (y122.2.2.2.2.2.1) 3 1 ((s122.2.2.1).flatMap e_i64), .r (y122.2.2.2.2.2.2.1) ((s122.2.2.2.1).length) (y122.2.2.2.2.2.2.2) 3 1 ((s122.2.2.2.1).flatMap e_i64), .m y6.2 26 [.int .i64 (p0.G.Raster.X0), .int .i64 (p0.G.Raster.Y0), .int .i64 (p0.G.Raster.Step), .int .i64 (p0.G.Raster.NX), .int .i64 (p0.G.Raster.NY), .slice (y122.2.2.1) ((s122.2.1).length) (y122.2.2.2.1)], .m y6.1 26 [.int .i64 (p0.G.Raster.X0), .int .i64 (p0.G.Raster.Y0), .int .i64 (p0.G.Raster.Step), .int .i64 (p0.G.Raster.NX), .int .i64 (p0.G.Raster.NY), .slice (y122.1) ((s122.1).length) (y122.2.1)], .m g2 26 [.int .i64 (p0.G.Raster.X0), .int .i64 (p0.G.Raster.Y0), .int .i64 (p0.G.Raster.Step), .int .i64 (p0.G.Raster.NX), .int .i64 (p0.G.Raster.NY), .slice (A0_0) ((p0.G.Cells).length) (c0_0)]] ++ [.old w]) (fun s122 y122 => True) (none, 0, none, 0, none, 0, none, 0) trivial (by exact .cons rfl (.cons rfl (.cons rfl (.cons rfl (.cons rfl (.cons rfl (.cons rfl (.cons rfl (.cons rfl (.cons rfl (.cons rfl (.nil)))))))))))) (by exact .pick 3 rfl (.pick 2 rfl (.pick 1 rfl (.pick 0 rfl (.pick 0 rfl (.pick 0 rfl (.pick 0 rfl (.refl)))))))) ?_
          intro s122 y122 hG122 x122 hx122 ht122
          unfold lidartop_TopChange_l7 at hx122
          refine T_seq ?_
          refine T_seq ?_
          refine T_reg ?_
          refine T_val (Ev_move rfl) rfl ?_
          refine T_val (Ev_field rfl fld26_1 rfl) rfl ?_
          refine T_val (Ev_load1 rfl (i := 6) rfl rfl one24) rfl ?_
          refine T_val (Ev_len rfl 39 Try.underlying24) rfl ?_
          refine T_val (Ev_lss rfl rfl) rfl ?_
          refine T_nil ?_
          refine T_next ?_
          refine T_caseP (s := 76) rfl (fun h127 => ?_) (fun h127 => ?_)
          · have hx128 := ite_t h127 hx122
            refine T_condT rfl ?_
            refine T_skip ?_
            refine T_next ?_
            obtain ⟨j25, hj25, hx128⟩ := jn_some hx128
            refine T_cutP (τ := (List S_api_Cell) × (List S_api_Cell) × (List Int) × (List Int)) (γ := (Option Addr) × Nat × (Option Addr) × Nat × (Option Addr) × Nat × (Option Addr) × Nat) (J := j25) (out := x122) (fun s25 y25 => [(3, .pointer (some ⟨g2, 0, none⟩)), (4, .int .u32 (p0.Part)), (5, .int .u32 (p0.More)), (6, .int .u16 (p0.Voids)), (7, .slice (A0_1) ((p0.Moved).length) (c0_1)), (8, .int .u8 (p0.Few)), (9, .pointer (some ⟨y6.1, 0, none⟩)), (10, .pointer (some ⟨y6.2, 0, none⟩)), (11, .slice (y25.2.2.2.2.1) ((s25.2.2.1).length) (y25.2.2.2.2.2.1)), (12, .slice (y25.2.2.2.2.2.2.1) ((s25.2.2.2).length) (y25.2.2.2.2.2.2.2)), (13, .int .i64 (s122.2.2.2.2))]) (fun s25 y25 => [.r (y25.1) ((s25.1).length) (y25.2.1) 39 3 ((s25.1).flatMap e_api_Cell), .r (y25.2.2.1) ((s25.2.1).length) (y25.2.2.2.1) 39 3 ((s25.2.1).flatMap e_api_Cell), .r (y25.2.2.2.2.1) ((s25.2.2.1).length) (y25.2.2.2.2.2.1) 3 1 ((s25.2.2.1).flatMap e_i64), .r (y25.2.2.2.2.2.2.1) ((s25.2.2.2).length) (y25.2.2.2.2.2.2.2) 3 1 ((s25.2.2.2).flatMap e_i64), .m y6.2 26 [.int .i64 (p0.G.Raster.X0), .int .i64 (p0.G.Raster.Y0), .int .i64 (p0.G.Raster.Step), .int .i64 (p0.G.Raster.NX), .int .i64 (p0.G.Raster.NY), .slice (y25.2.2.1) ((s25.2.1).length) (y25.2.2.2.1)], .m y6.1 26 [.int .i64 (p0.G.Raster.X0), .int .i64 (p0.G.Raster.Y0), .int .i64 (p0.G.Raster.Step), .int .i64 (p0.G.Raster.NX), .int .i64 (p0.G.Raster.NY), .slice (y25.1) ((s25.1).length) (y25.2.1)], .m g2 26 [.int .i64 (p0.G.Raster.X0), .int .i64 (p0.G.Raster.Y0), .int .i64 (p0.G.Raster.Step), .int .i64 (p0.G.Raster.NX), .int .i64 (p0.G.Raster.NY), .slice (A0_0) ((p0.G.Cells).length) (c0_0)]] ++ [.old w]) (fun s25 y25 => True) ?_ ?_
            · intro s25 y25 hx214 hG215
              subst hj25
              refine T_reg ?_
              refine T_val (Ev_move rfl) rfl ?_
              refine T_val (Ev_add_w64 rfl rfl) rfl ?_
              refine T_val (Ev_assign rfl) rfl ?_
              refine T_nil ?_
              exact T_roundP (s25.1, s25.2.1, s25.2.2.1, s25.2.2.2, w64 (s122.2.2.2.2 + 1)) (y25.1, y25.2.1, y25.2.2.1, y25.2.2.2.1, y25.2.2.2.2.1, y25.2.2.2.2.2.1, y25.2.2.2.2.2.2.1, y25.2.2.2.2.2.2.2) hx214 trivial (by exact .cons rfl (.cons rfl (.cons rfl (.cons rfl (.cons rfl (.cons rfl (.cons rfl (.cons rfl (.cons rfl (.cons rfl (.cons rfl (.nil)))))))))))) (by exact .pick 0 rfl (.pick 0 rfl (.pick 0 rfl (.pick 0 rfl (.pick 0 rfl (.pick 0 rfl (.pick 0 rfl (.refl))))))))
            · skip
              refine T_block ?_
              refine T_seq ?_
              refine T_reg ?_
              refine T_val (Ev_field rfl fld26_1 rfl) rfl ?_
              refine T_val (Ev_load1 rfl (i := 6) rfl rfl one24) rfl ?_
              refine T_val (Ev_move rfl) rfl ?_
              obtain ⟨x130, h131, hx132⟩ := bnd_some hx128
              have hw140 := Has.low (E := []) ha0' hK
              obtain ⟨b133, o134, j135, hA136, hj137, hl138, hp139⟩ := Has.at_idx hw140 h131
              refine T_val (Ev_index rfl rfl hA136 (j := j135) hj137 hl138 slc24) rfl ?_
              refine T_val (Ev_loadPK0 rfl hp139 (SubE.cons2 (i := 7) rfl (SubE.nil)) rfl agg39) rfl ?_
              refine T_val (Ev_move rfl) rfl ?_
              refine T_val (Ev_move rfl) rfl ?_
              obtain ⟨r141, h142, hx143⟩ := bnd_some hx132
              refine T_x (Wx_callL rfl (fun w1 hw1 => lidartop_height_ok x130 s122.2.2.2.2 p0.Part  h142 w1) rfl ?_)
              rintro _ _ hlo ⟨rfl, rfl, -⟩
              refine T_app0 ?_
              refine T_val (Ev_assign rfl) rfl ?_
              refine T_nil ?_
              refine T_next ?_
              refine T_seq ?_
              refine T_reg ?_
              refine T_val (Ev_move rfl) rfl ?_
              refine T_val (Ev_assign rfl) rfl ?_
              refine T_nil ?_
              refine T_next ?_
              obtain ⟨j28, hj28, hx143⟩ := jn_some hx143
              refine T_cutP (τ := Int) (γ := Unit) (J := j28) (out := x122) (fun s28 y28 => [(3, .pointer (some ⟨g2, 0, none⟩)), (4, .int .u32 (p0.Part)), (5, .int .u32 (p0.More)), (6, .int .u16 (p0.Voids)), (7, .slice (A0_1) ((p0.Moved).length) (c0_1)), (8, .int .u8 (p0.Few)), (9, .pointer (some ⟨y6.1, 0, none⟩)), (10, .pointer (some ⟨y6.2, 0, none⟩)), (11, .slice (y122.2.2.2.2.1) ((s122.2.2.1).length) (y122.2.2.2.2.2.1)), (12, .slice (y122.2.2.2.2.2.2.1) ((s122.2.2.2.1).length) (y122.2.2.2.2.2.2.2)), (13, .int .i64 (s122.2.2.2.2)), (14, .int .i64 (r141)), (15, .int .i64 (s28))]) (fun s28 y28 => [.r (y122.1) ((s122.1).length) (y122.2.1) 39 3 ((s122.1).flatMap e_api_Cell), .r (y122.2.2.1) ((s122.2.1).length) (y122.2.2.2.1) 39 3 ((s122.2.1).flatMap e_api_Cell), .r (y122.2.2.2.2.1) ((s122.2.2.1).length) (y122.2.2.2.2.2.1) 3 1 ((s122.2.2.1).flatMap e_i64), .r (y122.2.2.2.2.2.2.1) ((s122.2.2.2.1).length) (y122.2.2.2.2.2.2.2) 3 1 ((s122.2.2.2.1).flatMap e_i64), .m y6.2 26 [.int .i64 (p0.G.Raster.X0), .int .i64 (p0.G.Raster.Y0), .int .i64 (p0.G.Raster.Step), .int .i64 (p0.G.Raster.NX), .int .i64 (p0.G.Raster.NY), .slice (y122.2.2.1) ((s122.2.1).length) (y122.2.2.2.1)], .m y6.1 26 [.int .i64 (p0.G.Raster.X0), .int .i64 (p0.G.Raster.Y0), .int .i64 (p0.G.Raster.Step), .int .i64 (p0.G.Raster.NX), .int .i64 (p0.G.Raster.NY), .slice (y122.1) ((s122.1).length) (y122.2.1)], .m g2 26 [.int .i64 (p0.G.Raster.X0), .int .i64 (p0.G.Raster.Y0), .int .i64 (p0.G.Raster.Step), .int .i64 (p0.G.Raster.NX), .int .i64 (p0.G.Raster.NY), .slice (A0_0) ((p0.G.Cells).length) (c0_0)]] ++ [.old w]) (fun s28 y28 => True) ?_ ?_
              · intro s28 y28 hx160 hG161
                subst hj28
                refine T_seq ?_
                refine T_reg ?_
                refine T_val (Ev_move rfl) rfl ?_
                refine T_val (Ev_move rfl) rfl ?_
                refine T_x (Wx_buildSlice rfl (bls34_1_0i64 _) rfl (fun g162 => ?_))
                obtain ⟨h163, hx164⟩ := gd_some hx160
                refine T_h (Wh_appendP e_i64 (s122.2.2.1) [r141] rfl rfl rfl elm34 (fun _ => rfl) (i' := 0) rfl rfl rfl rfl h163 rfl (fun _ _ => .there (.there (.there (.here)))) (fun _ _ => .drop .refl) (by decide) (fun A165 c166 => ?_))
                refine T_val (Ev_move rfl) rfl ?_
                refine T_val (Ev_move rfl) rfl ?_
                refine T_x (Wx_buildSlice rfl (bls34_1_0i64 _) rfl (fun g167 => ?_))
                obtain ⟨h168, hx169⟩ := gd_some hx164
                refine T_h (Wh_appendP e_i64 (s122.2.2.2.1) [s28] rfl rfl rfl elm34 (fun _ => rfl) (i' := 0) rfl rfl rfl rfl h168 rfl (fun _ _ => .there (.there (.there (.there (.here))))) (fun _ _ => .drop .refl) (by decide) (fun A170 c171 => ?_))
                refine T_val (Ev_assign rfl) rfl ?_
                refine T_val (Ev_assign rfl) rfl ?_
                refine T_nil ?_
                refine T_next ?_
                refine T_seq ?_
                refine T_draw [0, 0, 0, 0, 0, 0, 0, 0, 0, 0, 0, 0, 2, 2] [[], [], [1], [0, 1, 2], [0, 1, 2, 3], [0, 1, 2, 3, 4], [], [], [7], [6, 7, 8], [6, 7, 8, 9], [6, 7, 8, 9, 10], [0, 1, 2, 3, 4, 5], [0, 1, 2, 3, 4, 5, 6, 7, 8, 9, 10, 11, 12]] (.q 0 (.q 1 (.q 2 (.q 3 (.q 4 (.q 5 (.q 6 (.q 7 (.q 8 (.q 9 (.q 10 (.q 11 (.e 12 (.e 13 (.done) (.stop)) (.stop)))))))))))))) mixed (by kernel_rfl) (by kernel_rfl) ?_
                refine P_p rfl rfl (Ev_move rfl) rfl ?_
                refine P_p rfl rfl (Ev_move rfl) rfl ?_
                refine P_p rfl rfl (Ev_rem rfl rfl (by decide)) rfl ?_
                obtain ⟨h172, hx173⟩ := gd_some hx169
                refine P_p rfl rfl (Ev_shrW rfl rfl h172) rfl ?_
                refine P_p rfl rfl (Ev_conv_w64 rfl (by kernel_rfl) Try.underlying3) rfl ?_
                refine P_p rfl rfl (Ev_rem rfl rfl (by decide)) rfl ?_
                refine P_p rfl rfl (Ev_move rfl) rfl ?_
                refine P_p rfl rfl (Ev_move rfl) rfl ?_
                refine P_p rfl rfl (Ev_rem rfl rfl (by decide)) rfl ?_
                obtain ⟨h174, hx175⟩ := gd_some hx173
                refine P_p rfl rfl (Ev_shrW rfl rfl h174) rfl ?_
                refine P_p rfl rfl (Ev_conv_w64 rfl (by kernel_rfl) Try.underlying3) rfl ?_
                refine P_p rfl rfl (Ev_rem rfl rfl (by decide)) rfl ?_
                refine P_x rfl (Wx_val (Ev_assign rfl) rfl ?_) ?_
                rotate_left; exact P_stop
                refine P_x rfl (Wx_val (Ev_assign rfl) rfl ?_) ?_
                rotate_left; exact P_stop
                refine P_done ?_
                refine T_next ?_
                refine T_seq ?_
                refine T_reg ?_
                refine T_val (Ev_move rfl) rfl ?_
                refine T_val (Ev_move rfl) rfl ?_
                refine T_val (Ev_sub_w64 rfl rfl) rfl ?_
                refine T_val (Ev_move rfl) rfl ?_
                refine T_val (Ev_move rfl) rfl ?_
                refine T_val (Ev_add_w64 rfl rfl) rfl ?_
                refine T_val (Ev_build rfl (bld37_0i641i64 _ _)) rfl ?_
                refine T_val (Ev_build rfl (bld39_1ai64i64 _ _)) rfl ?_
                refine T_x (Wx_alloc zer39 rfl (fun g176 => ?_))
                refine T_h (Wh_store rfl rfl rfl (.here) (.put (.put (.put (.done)))) rfl (List.cons_ne_nil _ _) agg39.2 ?_)
                refine T_nil ?_
                refine T_next ?_
                refine T_seq ?_
                refine T_reg ?_
                refine T_val (Ev_move rfl) rfl ?_
                refine T_val (Ev_move rfl) rfl ?_
                refine T_val (Ev_sub_w64 rfl rfl) rfl ?_
                refine T_val (Ev_move rfl) rfl ?_
                refine T_val (Ev_move rfl) rfl ?_
                refine T_val (Ev_add_w64 rfl rfl) rfl ?_
                refine T_val (Ev_build rfl (bld37_0i641i64 _ _)) rfl ?_
                refine T_val (Ev_build rfl (bld39_1ai64i64 _ _)) rfl ?_
                refine T_x (Wx_alloc zer39 rfl (fun g177 => ?_))
                refine T_h (Wh_store rfl rfl rfl (.here) (.put (.put (.put (.done)))) rfl (List.cons_ne_nil _ _) agg39.2 ?_)
                refine T_nil ?_
                refine T_next ?_
                obtain ⟨j34, hj34, hx175⟩ := jn_some hx175
                refine T_cutP (τ := Bool × Int × Int × Bool × Int × Int) (γ := Unit) (J := j34) (out := x122) (fun s34 y34 => [(3, .pointer (some ⟨g2, 0, none⟩)), (4, .int .u32 (p0.Part)), (5, .int .u32 (p0.More)), (6, .int .u16 (p0.Voids)), (7, .slice (A0_1) ((p0.Moved).length) (c0_1)), (8, .int .u8 (p0.Few)), (9, .pointer (some ⟨y6.1, 0, none⟩)), (10, .pointer (some ⟨y6.2, 0, none⟩)), (11, .slice (A165) ((s122.2.2.1 ++ [r141]).length) (c166)), (12, .slice (A170) ((s122.2.2.2.1 ++ [s28]).length) (c171)), (13, .int .i64 (s122.2.2.2.2)), (18, .pointer (some ⟨g176, 0, none⟩)), (19, .pointer (some ⟨g177, 0, none⟩))]) (fun s34 y34 => [.m g177 39 [.bool (s34.2.2.2.1), .int .i64 (s34.2.2.2.2.1), .int .i64 (s34.2.2.2.2.2)], .m g176 39 [.bool (s34.1), .int .i64 (s34.2.1), .int .i64 (s34.2.2.1)], .r (y122.1) ((s122.1).length) (y122.2.1) 39 3 ((s122.1).flatMap e_api_Cell), .r (y122.2.2.1) ((s122.2.1).length) (y122.2.2.2.1) 39 3 ((s122.2.1).flatMap e_api_Cell), .r (A165) ((s122.2.2.1 ++ [r141]).length) (c166) 3 1 ((s122.2.2.1 ++ [r141]).flatMap e_i64), .r (A170) ((s122.2.2.2.1 ++ [s28]).length) (c171) 3 1 ((s122.2.2.2.1 ++ [s28]).flatMap e_i64), .m y6.2 26 [.int .i64 (p0.G.Raster.X0), .int .i64 (p0.G.Raster.Y0), .int .i64 (p0.G.Raster.Step), .int .i64 (p0.G.Raster.NX), .int .i64 (p0.G.Raster.NY), .slice (y122.2.2.1) ((s122.2.1).length) (y122.2.2.2.1)], .m y6.1 26 [.int .i64 (p0.G.Raster.X0), .int .i64 (p0.G.Raster.Y0), .int .i64 (p0.G.Raster.Step), .int .i64 (p0.G.Raster.NX), .int .i64 (p0.G.Raster.NY), .slice (y122.1) ((s122.1).length) (y122.2.1)], .m g2 26 [.int .i64 (p0.G.Raster.X0), .int .i64 (p0.G.Raster.Y0), .int .i64 (p0.G.Raster.Step), .int .i64 (p0.G.Raster.NX), .int .i64 (p0.G.Raster.NY), .slice (A0_0) ((p0.G.Cells).length) (c0_0)]] ++ [.old w]) (fun s34 y34 => True) ?_ ?_
                · intro s34 y34 hx183 hG184
                  subst hj34
                  obtain ⟨h186, hx195⟩ := gd_some hx183
                  obtain ⟨h191, hx196⟩ := gd_some hx195
                  refine T_drawR [0, 1, 1, 2, 3, 0, 1, 1, 2, 3, 0, 3, 0, 3] [[], [0], [], [2], [0, 1, 2, 3], [], [5], [], [7], [0, 1, 2, 3, 4, 5, 6, 7, 8], [0, 1, 2, 3, 4], [0, 1, 2, 3, 4, 5, 6, 7, 8, 9, 10], [0, 1, 2, 3, 4, 5, 6, 7, 8, 9, 10, 11], [0, 1, 2, 3, 4, 5, 6, 7, 8, 9, 10, 11, 12]] [6, 7] ([.m y6.2 26 [.int .i64 (p0.G.Raster.X0), .int .i64 (p0.G.Raster.Y0), .int .i64 (p0.G.Raster.Step), .int .i64 (p0.G.Raster.NX), .int .i64 (p0.G.Raster.NY), .slice (y122.2.2.1) ((s122.2.1).length) (y122.2.2.2.1)], .m g177 39 [.bool (s34.2.2.2.1), .int .i64 (s34.2.2.2.2.1), .int .i64 (s34.2.2.2.2.2)]]) (.q 0 (.q 1 (.q 2 (.q 5 (.q 6 (.q 7 (.e 3 (.e 4 (.q 10 (.e 8 (.e 9 (.e 11 (.q 12 (.e 13 (.done) (.stop))) (.stop)) (.stop)) (.stop))) (.e 8 (.e 4 (.q 10 (.e 9 (.e 11 (.q 12 (.e 13 (.done) (.stop))) (.stop)) (.stop))) (.stop)) (.stop))) (.e 8 (.e 3 (.e 4 (.q 10 (.e 9 (.e 11 (.q 12 (.e 13 (.done) (.stop))) (.stop)) (.stop))) (.stop)) (.stop)) (.stop))))))))) mixed (by kernel_rfl) (by kernel_rfl) (fun w hw => SubE.ok (by exact ((SubE.cons2 (i := 6) rfl (SubE.cons2 (i := 0) rfl (SubE.nil))))) w hw) ?_
                  refine P_p rfl rfl (Ev_field rfl fld26_1 rfl) rfl ?_
                  refine P_q rfl rfl (Ev_load1 rfl (i := 7) rfl rfl one24) rfl ?_
                  refine P_q rfl rfl (Ev_loadK rfl (i := 1) rfl rfl agg39) rfl ?_
                  refine P_p rfl rfl (Ev_field rfl fld26_1 rfl) rfl ?_
                  refine P_r rfl rfl (Ev_load1 rfl (i := 0) rfl rfl one24) rfl ?_
                  refine P_r rfl rfl (Ev_loadK rfl (i := 1) rfl rfl agg39) rfl ?_
                  refine P_x rfl (Wx_buildSlice rfl (bls24_1_0abi64i64 _ _ _) rfl (fun g197 => ?_)) ?_
                  · skip
                    refine P_hR rfl rfl (Wh_appendP e_api_Cell (s122.1) [(⟨s34.1, (⟨s34.2.1, s34.2.2.1⟩ : S_api_Span)⟩ : S_api_Cell)] rfl rfl rfl elm24 (fun _ => rfl) (i' := 0) rfl rfl rfl rfl h186 rfl (fun _ _ => .there (.there (.there (.here)))) (fun _ _ => .drop .refl) (by decide) (fun A198 c199 => ?_)) ?_
                    · skip
                      refine T_keep (fun w hw => SubE.ok (by exact ((SubE.cons2 (i := 6) rfl (SubE.cons2 (i := 0) rfl (SubE.nil))))) w hw) ?_
                      refine P_p rfl rfl (Ev_field rfl fld26_1 rfl) rfl ?_
                      refine P_x rfl (Wx_buildSlice rfl (bls24_1_0abi64i64 _ _ _) rfl (fun g200 => ?_)) ?_
                      rotate_left; exact P_stop
                      refine P_hL rfl rfl rfl (Wh_appendP e_api_Cell (s122.2.1) [(⟨s34.2.2.2.1, (⟨s34.2.2.2.2.1, s34.2.2.2.2.2⟩ : S_api_Span)⟩ : S_api_Cell)] rfl rfl rfl elm24 (fun _ => rfl) (i' := 0) rfl rfl rfl rfl h191 rfl (fun _ _ => .there (.there (.there (.there (.here))))) (fun _ _ => .drop .refl) (by decide) (fun A201 c202 => ?_)) ?_
                      rotate_left; exact P_stop
                      refine P_hL rfl rfl rfl (Wh_store rfl rfl rfl (.there (.there (.there (.there (.there (.there (.there (.here)))))))) (.skip (.skip (.skip (.skip (.skip (.put (.done))))))) rfl (List.cons_ne_nil _ _) one24.2 ?_) ?_
                      rotate_left; exact P_stop
                      refine P_p rfl rfl (Ev_field rfl fld26_1 rfl) rfl ?_
                      refine P_hL rfl rfl rfl (Wh_store rfl rfl rfl (.there (.there (.there (.there (.there (.there (.here))))))) (.skip (.skip (.skip (.skip (.skip (.put (.done))))))) rfl (List.cons_ne_nil _ _) one24.2 ?_) ?_
                      rotate_left; exact P_stop
                      refine P_done ?_
                      refine T_inN ?_
                      exact T_metP (s122.1 ++ [(⟨s34.1, (⟨s34.2.1, s34.2.2.1⟩ : S_api_Span)⟩ : S_api_Cell)], s122.2.1 ++ [(⟨s34.2.2.2.1, (⟨s34.2.2.2.2.1, s34.2.2.2.2.2⟩ : S_api_Span)⟩ : S_api_Cell)], s122.2.2.1 ++ [r141], s122.2.2.2.1 ++ [s28]) (A198, c199, A201, c202, A165, c166, A170, c171) hx196 trivial (by exact .cons rfl (.cons rfl (.cons rfl (.cons rfl (.cons rfl (.cons rfl (.cons rfl (.cons rfl (.cons rfl (.cons rfl (.cons rfl (.nil)))))))))))) (by exact .pick 2 rfl (.pick 2 rfl (.pick 2 rfl (.pick 2 rfl (.pick 2 rfl (.pick 2 rfl (.pick 2 rfl (.drop 0 rfl (.drop 0 rfl (.refl))))))))))
                    · skip
                      refine P_x rfl (Wx_buildSlice rfl (bls24_1_0abi64i64 _ _ _) rfl (fun g203 => ?_)) ?_
                      rotate_left; exact P_stop
                      refine P_hR rfl rfl (Wh_appendP e_api_Cell (s122.1) [(⟨s34.1, (⟨s34.2.1, s34.2.2.1⟩ : S_api_Span)⟩ : S_api_Cell)] rfl rfl rfl elm24 (fun _ => rfl) (i' := 1) rfl rfl rfl rfl h186 rfl (fun _ _ => .there (.there (.there (.there (.here))))) (fun _ _ => .keep (.drop .refl)) (by decide) (fun A204 c205 => ?_)) ?_
                      rotate_left; exact P_stop
                      refine T_keep (fun w hw => SubE.ok (by exact ((SubE.cons2 (i := 7) rfl (SubE.cons2 (i := 1) rfl (SubE.nil))))) w hw) ?_
                      refine P_p rfl rfl (Ev_field rfl fld26_1 rfl) rfl ?_
                      refine P_hL rfl rfl rfl (Wh_appendP e_api_Cell (s122.2.1) [(⟨s34.2.2.2.1, (⟨s34.2.2.2.2.1, s34.2.2.2.2.2⟩ : S_api_Span)⟩ : S_api_Cell)] rfl rfl rfl elm24 (fun _ => rfl) (i' := 0) rfl rfl rfl rfl h191 rfl (fun _ _ => .there (.there (.there (.there (.here))))) (fun _ _ => .drop .refl) (by decide) (fun A206 c207 => ?_)) ?_
                      rotate_left; exact P_stop
                      refine P_hL rfl rfl rfl (Wh_store rfl rfl rfl (.there (.there (.there (.there (.there (.there (.there (.here)))))))) (.skip (.skip (.skip (.skip (.skip (.put (.done))))))) rfl (List.cons_ne_nil _ _) one24.2 ?_) ?_
                      rotate_left; exact P_stop
                      refine P_p rfl rfl (Ev_field rfl fld26_1 rfl) rfl ?_
                      refine P_hL rfl rfl rfl (Wh_store rfl rfl rfl (.there (.there (.there (.there (.there (.there (.here))))))) (.skip (.skip (.skip (.skip (.skip (.put (.done))))))) rfl (List.cons_ne_nil _ _) one24.2 ?_) ?_
                      rotate_left; exact P_stop
                      refine P_done ?_
                      refine T_inN ?_
                      exact T_metP (s122.1 ++ [(⟨s34.1, (⟨s34.2.1, s34.2.2.1⟩ : S_api_Span)⟩ : S_api_Cell)], s122.2.1 ++ [(⟨s34.2.2.2.1, (⟨s34.2.2.2.2.1, s34.2.2.2.2.2⟩ : S_api_Span)⟩ : S_api_Cell)], s122.2.2.1 ++ [r141], s122.2.2.2.1 ++ [s28]) (A204, c205, A206, c207, A165, c166, A170, c171) hx196 trivial (by exact .cons rfl (.cons rfl (.cons rfl (.cons rfl (.cons rfl (.cons rfl (.cons rfl (.cons rfl (.cons rfl (.cons rfl (.cons rfl (.nil)))))))))))) (by exact .pick 2 rfl (.pick 2 rfl (.pick 2 rfl (.pick 2 rfl (.pick 2 rfl (.pick 2 rfl (.pick 2 rfl (.drop 0 rfl (.drop 0 rfl (.refl))))))))))
                  · skip
                    refine P_x rfl (Wx_buildSlice rfl (bls24_1_0abi64i64 _ _ _) rfl (fun g208 => ?_)) ?_
                    rotate_left; exact P_stop
                    refine P_x rfl (Wx_buildSlice rfl (bls24_1_0abi64i64 _ _ _) rfl (fun g209 => ?_)) ?_
                    rotate_left; exact P_stop
                    refine P_hR rfl rfl (Wh_appendP e_api_Cell (s122.1) [(⟨s34.1, (⟨s34.2.1, s34.2.2.1⟩ : S_api_Span)⟩ : S_api_Cell)] rfl rfl rfl elm24 (fun _ => rfl) (i' := 0) rfl rfl rfl rfl h186 rfl (fun _ _ => .there (.there (.there (.there (.here))))) (fun _ _ => .drop .refl) (by decide) (fun A210 c211 => ?_)) ?_
                    rotate_left; exact P_stop
                    refine T_keep (fun w hw => SubE.ok (by exact ((SubE.cons2 (i := 7) rfl (SubE.cons2 (i := 1) rfl (SubE.nil))))) w hw) ?_
                    refine P_p rfl rfl (Ev_field rfl fld26_1 rfl) rfl ?_
                    refine P_hL rfl rfl rfl (Wh_appendP e_api_Cell (s122.2.1) [(⟨s34.2.2.2.1, (⟨s34.2.2.2.2.1, s34.2.2.2.2.2⟩ : S_api_Span)⟩ : S_api_Cell)] rfl rfl rfl elm24 (fun _ => rfl) (i' := 0) rfl rfl rfl rfl h191 rfl (fun _ _ => .there (.there (.there (.there (.here))))) (fun _ _ => .drop .refl) (by decide) (fun A212 c213 => ?_)) ?_
                    rotate_left; exact P_stop
                    refine P_hL rfl rfl rfl (Wh_store rfl rfl rfl (.there (.there (.there (.there (.there (.there (.there (.here)))))))) (.skip (.skip (.skip (.skip (.skip (.put (.done))))))) rfl (List.cons_ne_nil _ _) one24.2 ?_) ?_
                    rotate_left; exact P_stop
                    refine P_p rfl rfl (Ev_field rfl fld26_1 rfl) rfl ?_
                    refine P_hL rfl rfl rfl (Wh_store rfl rfl rfl (.there (.there (.there (.there (.there (.there (.here))))))) (.skip (.skip (.skip (.skip (.skip (.put (.done))))))) rfl (List.cons_ne_nil _ _) one24.2 ?_) ?_
                    rotate_left; exact P_stop
                    refine P_done ?_
                    refine T_inN ?_
                    exact T_metP (s122.1 ++ [(⟨s34.1, (⟨s34.2.1, s34.2.2.1⟩ : S_api_Span)⟩ : S_api_Cell)], s122.2.1 ++ [(⟨s34.2.2.2.1, (⟨s34.2.2.2.2.1, s34.2.2.2.2.2⟩ : S_api_Span)⟩ : S_api_Cell)], s122.2.2.1 ++ [r141], s122.2.2.2.1 ++ [s28]) (A210, c211, A212, c213, A165, c166, A170, c171) hx196 trivial (by exact .cons rfl (.cons rfl (.cons rfl (.cons rfl (.cons rfl (.cons rfl (.cons rfl (.cons rfl (.cons rfl (.cons rfl (.cons rfl (.nil)))))))))))) (by exact .pick 2 rfl (.pick 2 rfl (.pick 2 rfl (.pick 2 rfl (.pick 2 rfl (.pick 2 rfl (.pick 2 rfl (.drop 0 rfl (.drop 0 rfl (.refl))))))))))
                · skip
                  refine T_seq ?_
                  refine T_reg ?_
                  refine T_val (Ev_move rfl) rfl ?_
                  refine T_val (Ev_move rfl) rfl ?_
                  refine T_val (Ev_rem rfl rfl (by decide)) rfl ?_
                  obtain ⟨h178, hx179⟩ := gd_some hx175
                  refine T_val (Ev_shrW rfl rfl h178) rfl ?_
                  refine T_val (Ev_bitW_and rfl rfl) rfl ?_
                  refine T_val (Ev_eql rfl rfl) rfl ?_
                  refine T_nil ?_
                  refine T_next ?_
                  refine T_caseP (s := 142) rfl (fun h180 => ?_) (fun h180 => ?_)
                  · have hx181 := ite_t h180 hx179
                    refine T_condT rfl ?_
                    refine T_reg ?_
                    refine T_val (Ev_build rfl (bld39_0b _)) rfl ?_
                    refine T_val (Ev_build rfl (bld39_0b _)) rfl ?_
                    refine T_h (Wh_store rfl rfl rfl (.there (.here)) (.put (.put (.put (.done)))) rfl (List.cons_ne_nil _ _) agg39.2 ?_)
                    refine T_h (Wh_store rfl rfl rfl (.here) (.put (.put (.put (.done)))) rfl (List.cons_ne_nil _ _) agg39.2 ?_)
                    refine T_nil ?_
                    exact T_metP (true, 0, 0, true, 0, 0) () hx181 trivial (by exact .cons rfl (.cons rfl (.cons rfl (.cons rfl (.cons rfl (.cons rfl (.cons rfl (.cons rfl (.cons rfl (.cons rfl (.cons rfl (.cons rfl (.cons rfl (.nil)))))))))))))) (by exact .pick 0 rfl (.pick 0 rfl (.pick 0 rfl (.pick 0 rfl (.pick 0 rfl (.pick 0 rfl (.pick 0 rfl (.pick 0 rfl (.pick 0 rfl (.refl))))))))))
                  · have hx182 := ite_f h180 hx179
                    refine T_condF rfl ?_
                    refine T_skip ?_
                    exact T_metP (false, w64 (r141 - (Int.tmod (w64 (shr_ .u32 p0.More (Int.tmod s122.2.2.2.2 16))) 50)), w64 (r141 + (Int.tmod (w64 (shr_ .u32 p0.More (Int.tmod s122.2.2.2.2 13))) 40)), false, w64 (s28 - (Int.tmod (w64 (shr_ .u32 p0.More (Int.tmod s122.2.2.2.2 13))) 40)), w64 (s28 + (Int.tmod (w64 (shr_ .u32 p0.More (Int.tmod s122.2.2.2.2 16))) 50))) () hx182 trivial (by exact .cons rfl (.cons rfl (.cons rfl (.cons rfl (.cons rfl (.cons rfl (.cons rfl (.cons rfl (.cons rfl (.cons rfl (.cons rfl (.cons rfl (.cons rfl (.nil)))))))))))))) (by exact .pick 0 rfl (.pick 0 rfl (.pick 0 rfl (.pick 0 rfl (.pick 0 rfl (.pick 0 rfl (.pick 0 rfl (.pick 0 rfl (.pick 0 rfl (.refl))))))))))
              · skip
                refine T_seq ?_
                refine T_reg ?_
                refine T_val (Ev_move rfl) rfl ?_
                refine T_val (Ev_len rfl 40 Try.underlying29) rfl ?_
                refine T_val (Ev_gtr rfl rfl) rfl ?_
                refine T_nil ?_
                refine T_next ?_
                refine T_caseP (s := 90) rfl (fun h144 => ?_) (fun h144 => ?_)
                · have hx145 := ite_t h144 hx143
                  refine T_condT rfl ?_
                  refine T_reg ?_
                  refine T_val (Ev_move rfl) rfl ?_
                  refine T_val (Ev_move rfl) rfl ?_
                  refine T_val (Ev_move rfl) rfl ?_
                  refine T_val (Ev_move rfl) rfl ?_
                  refine T_val (Ev_len rfl 40 Try.underlying29) rfl ?_
                  obtain ⟨h146, hx147⟩ := gd_some hx145
                  refine T_val (Ev_rem rfl rfl h146) rfl ?_
                  obtain ⟨x148, h149, hx150⟩ := bnd_some hx147
                  have hw158 := Has.low (E := []) ha1' hK
                  obtain ⟨b151, o152, j153, hA154, hj155, hl156, hp157⟩ := Has.at_idx hw158 h149
                  refine T_val (Ev_index rfl rfl hA154 (j := j153) hj155 hl156 slc29) rfl ?_
                  refine T_val (Ev_loadP0 rfl hp157 (SubE.cons2 (i := 7) rfl (SubE.nil)) rfl one40) rfl ?_
                  refine T_val (Ev_conv_w64 rfl (by kernel_rfl) Try.underlying3) rfl ?_
                  refine T_val (Ev_add_w64 rfl rfl) rfl ?_
                  refine T_val (Ev_assign rfl) rfl ?_
                  refine T_nil ?_
                  exact T_metP (w64 (r141 + (w64 (x148)))) () hx150 trivial (by exact .cons rfl (.cons rfl (.cons rfl (.cons rfl (.cons rfl (.cons rfl (.cons rfl (.cons rfl (.cons rfl (.cons rfl (.cons rfl (.cons rfl (.cons rfl (.nil)))))))))))))) (by exact .pick 0 rfl (.pick 0 rfl (.pick 0 rfl (.pick 0 rfl (.pick 0 rfl (.pick 0 rfl (.pick 0 rfl (.refl))))))))
                · have hx159 := ite_f h144 hx143
                  refine T_condF rfl ?_
                  refine T_skip ?_
                  exact T_metP r141 () hx159 trivial (by exact .cons rfl (.cons rfl (.cons rfl (.cons rfl (.cons rfl (.cons rfl (.cons rfl (.cons rfl (.cons rfl (.cons rfl (.cons rfl (.cons rfl (.cons rfl (.nil)))))))))))))) (by exact .pick 0 rfl (.pick 0 rfl (.pick 0 rfl (.pick 0 rfl (.pick 0 rfl (.pick 0 rfl (.pick 0 rfl (.refl))))))))
          · have hx129 := ite_f h127 hx122
            refine T_condF rfl ?_
            refine T_exit ?_
            refine T_outX ?_
            obtain rfl := exit_eq ht122 hx129
            refine T_outX ?_
            refine T_here ?_
            exact T_metP (s122.1, s122.2.1, s122.2.2.1, s122.2.2.2.1) (y122.1, y122.2.1, y122.2.2.1, y122.2.2.2.1, y122.2.2.2.2.1, y122.2.2.2.2.2.1, y122.2.2.2.2.2.2.1, y122.2.2.2.2.2.2.2) ho122 trivial (by exact .cons rfl (.cons rfl (.cons rfl (.cons rfl (.cons rfl (.cons rfl (.nil))))))) (by exact .pick 0 rfl (.pick 0 rfl (.pick 0 rfl (.pick 0 rfl (.pick 0 rfl (.pick 0 rfl (.pick 0 rfl (.refl))))))))
      · skip
        refine T_drawR [0, 1, 0, 0, 1, 0, 2, 2, 3, 3] [[], [0], [0, 1], [], [3], [3, 4], [], [], [0, 1, 2, 6, 7], [0, 1, 2, 3, 4, 5, 6, 7, 8]] [4] ([.m g2 26 [.int .i64 (p0.G.Raster.X0), .int .i64 (p0.G.Raster.Y0), .int .i64 (p0.G.Raster.Step), .int .i64 (p0.G.Raster.NX), .int .i64 (p0.G.Raster.NY), .slice (A0_0) ((p0.G.Cells).length) (c0_0)]]) (.q 0 (.q 1 (.q 2 (.q 3 (.q 4 (.q 5 (.e 6 (.e 7 (.e 8 (.e 9 (.done) (.stop)) (.stop)) (.stop)) (.e 7 (.e 6 (.e 8 (.e 9 (.done) (.stop)) (.stop)) (.stop)) (.stop))))))))) mixed (by kernel_rfl) (by kernel_rfl) (fun w hw => SubE.ok (by exact ((SubE.cons2 (i := 0) rfl (SubE.nil)))) w hw) ?_
        refine P_p rfl rfl (Ev_field rfl fld26_0 rfl) rfl ?_
        refine P_q rfl rfl (Ev_loadK rfl (i := 0) rfl rfl agg23) rfl ?_
        refine P_p rfl rfl (Ev_build rfl (bld26_0ai64i64i64i64i64 _ _ _ _ _)) rfl ?_
        refine P_p rfl rfl (Ev_field rfl fld26_0 rfl) rfl ?_
        refine P_r rfl rfl (Ev_loadK rfl (i := 0) rfl rfl agg23) rfl ?_
        refine P_p rfl rfl (Ev_build rfl (bld26_0ai64i64i64i64i64 _ _ _ _ _)) rfl ?_
        refine P_x rfl (Wx_alloc zer26 rfl (fun g22 => ?_)) ?_
        · skip
          refine P_x rfl (Wx_alloc zer26 rfl (fun g23 => ?_)) ?_
          rotate_left; exact P_stop
          refine P_hR rfl rfl (Wh_store rfl rfl rfl (.there (.here)) (.put (.put (.put (.put (.put (.put (.done))))))) rfl (List.cons_ne_nil _ _) agg26.2 ?_) ?_
          rotate_left; exact P_stop
          refine T_keep (fun w hw => SubE.ok (by exact ((SubE.cons2 (i := 2) rfl (SubE.nil)))) w hw) ?_
          refine P_hL rfl rfl rfl (Wh_store rfl rfl rfl (.here) (.put (.put (.put (.put (.put (.put (.done))))))) rfl (List.cons_ne_nil _ _) agg26.2 ?_) ?_
          rotate_left; exact P_stop
          refine P_done ?_
          exact T_metP () (g22, g23) hx19 trivial (by exact .cons rfl (.cons rfl (.cons rfl (.cons rfl (.cons rfl (.cons rfl (.cons rfl (.cons rfl (.nil))))))))) (by exact .pick 0 rfl (.pick 0 rfl (.pick 0 rfl (.refl))))
        · skip
          refine P_x rfl (Wx_alloc zer26 rfl (fun g24 => ?_)) ?_
          rotate_left; exact P_stop
          refine P_x rfl (Wx_alloc zer26 rfl (fun g25 => ?_)) ?_
          rotate_left; exact P_stop
          refine P_hR rfl rfl (Wh_store rfl rfl rfl (.here) (.put (.put (.put (.put (.put (.put (.done))))))) rfl (List.cons_ne_nil _ _) agg26.2 ?_) ?_
          rotate_left; exact P_stop
          refine T_keep (fun w hw => SubE.ok (by exact ((SubE.cons2 (i := 2) rfl (SubE.nil)))) w hw) ?_
          refine P_hL rfl rfl rfl (Wh_store rfl rfl rfl (.there (.here)) (.put (.put (.put (.put (.put (.put (.done))))))) rfl (List.cons_ne_nil _ _) agg26.2 ?_) ?_
          rotate_left; exact P_stop
          refine P_done ?_
          exact T_metP () (g25, g24) hx19 trivial (by exact .cons rfl (.cons rfl (.cons rfl (.cons rfl (.cons rfl (.cons rfl (.cons rfl (.cons rfl (.nil))))))))) (by exact .pick 1 rfl (.pick 0 rfl (.pick 0 rfl (.refl))))
  · skip
    refine T_reg ?_
    refine T_val (Ev_field rfl fld26_1 rfl) rfl ?_
    refine T_val (Ev_load1 rfl (i := 0) rfl rfl one24) rfl ?_
    refine T_val (Ev_len rfl 39 Try.underlying24) rfl ?_
    refine T_val (Ev_gtr rfl rfl) rfl ?_
    refine T_val (Ev_move rfl) rfl ?_
    refine T_caseP (s := 55) rfl (fun h3 => ?_) (fun h3 => ?_)
    · have hx4 := ite_t h3 hx
      refine T_skipG rfl rfl rfl rfl rfl ?_
      refine T_skipG rfl rfl rfl rfl rfl ?_
      refine T_skipG rfl rfl rfl rfl rfl ?_
      refine T_val (Ev_pickT rfl rfl) rfl ?_
      refine T_val (Ev_move rfl) rfl ?_
      refine T_skipG rfl rfl rfl rfl rfl ?_
      refine T_skipG rfl rfl rfl rfl rfl ?_
      refine T_skipG rfl rfl rfl rfl rfl ?_
      refine T_val (Ev_pickT rfl rfl) rfl ?_
      refine T_nil ?_
      exact T_metP true () hx4 trivial (by exact .cons rfl (.cons rfl (.cons rfl (.cons rfl (.cons rfl (.cons rfl (.cons rfl (.nil)))))))) (by exact .pick 0 rfl (.drop 0 rfl (.refl)))
    · have hx5 := ite_f h3 hx
      refine T_valG rfl rfl rfl (Ev_move rfl) rfl ?_
      refine T_valG rfl rfl rfl (Ev_len rfl 40 Try.underlying29) rfl ?_
      refine T_valG rfl rfl rfl (Ev_gtr rfl rfl) rfl ?_
      refine T_val (Ev_pickF rfl rfl) rfl ?_
      refine T_val (Ev_move rfl) rfl ?_
      refine T_caseP (s := 60) rfl (fun h6 => ?_) (fun h6 => ?_)
      · have hx7 := ite_t h6 hx5
        refine T_skipG rfl rfl rfl rfl rfl ?_
        refine T_skipG rfl rfl rfl rfl rfl ?_
        refine T_skipG rfl rfl rfl rfl rfl ?_
        refine T_val (Ev_pickT rfl rfl) rfl ?_
        refine T_nil ?_
        exact T_metP true () hx7 trivial (by exact .cons rfl (.cons rfl (.cons rfl (.cons rfl (.cons rfl (.cons rfl (.cons rfl (.nil)))))))) (by exact .pick 0 rfl (.drop 0 rfl (.refl)))
      · have hx8 := ite_f h6 hx5
        refine T_valG rfl rfl rfl (Ev_loadK rfl (i := 0) rfl rfl agg26) rfl ?_
        obtain ⟨r9, h10, hx11⟩ := bnd_some hx8
        refine T_xG rfl rfl rfl (Wx_callL rfl (fun w1 hw1 => lidarref09_Valid_ok p0.G (Has.len' ha0') h10 w1 (okApp (K := K) (K2 := []) hK (by exact (SubE.cons2 (i := 2) rfl (SubE.nil))) (by exact (SubE.nil)) hw1)) rfl ?_)
        rintro _ _ hlo ⟨rfl, rfl, -⟩
        refine T_app0 ?_
        refine T_valG rfl rfl rfl (Ev_not rfl) rfl ?_
        refine T_val (Ev_pickF rfl rfl) rfl ?_
        refine T_nil ?_
        exact T_metP (!(r9)) () hx11 trivial (by exact .cons rfl (.cons rfl (.cons rfl (.cons rfl (.cons rfl (.cons rfl (.cons rfl (.nil)))))))) (by exact .pick 0 rfl (.drop 0 rfl (.refl)))
end Go.Proofs.Ytdcdabkoajhllaa
