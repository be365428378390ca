/- Walks of the program, with their plain functions: rasters, grids, comparisons. -/
import Derived.Test.YtdcdabkoajhllaaFlow6
import Derived.Test.YtdcdabkoajhllaaProg
namespace Go.Proofs.Ytdcdabkoajhllaa
open Go Go.RowKit
theorem mixed : Try.prog.follows .mixedOrders = true := by kernel_rfl
theorem fld37_0 : FieldOf Try.prog 37 0 0 := .mk Try.underlying37 rfl rfl (show Try.prog.info? 3 = some Try.t3 from by kernel_rfl) (show Try.t3.size = 1 from by kernel_rfl) rfl
theorem one3 : OneOf Try.prog 3 := .mk Try.underlying3 rfl (show Try.prog.info? 3 = some Try.t3 from by kernel_rfl) (by kernel_rfl)
theorem fld37_1 : FieldOf Try.prog 37 1 1 := .mk Try.underlying37 rfl rfl (show Try.prog.info? 3 = some Try.t3 from by kernel_rfl) (show Try.t3.size = 1 from by kernel_rfl) rfl
theorem fld39_0 : FieldOf Try.prog 39 0 0 := .mk Try.underlying39 rfl rfl (show Try.prog.info? 4 = some Try.t4 from by kernel_rfl) (show Try.t4.size = 1 from by kernel_rfl) rfl
theorem one4 : OneOf Try.prog 4 := .mk Try.underlying4 rfl (show Try.prog.info? 4 = some Try.t4 from by kernel_rfl) (by kernel_rfl)
theorem fld39_1 : FieldOf Try.prog 39 1 1 := .mk Try.underlying39 rfl rfl (show Try.prog.info? 37 = some Try.t37 from by kernel_rfl) (show Try.t37.size = 2 from by kernel_rfl) rfl
theorem agg37 : AggOf Try.prog 37 2 := .mk Try.underlying37 rfl (show Try.prog.info? 37 = some Try.t37 from by kernel_rfl) (by kernel_rfl)
theorem bld37_  : BuildOf Try.prog 37 [] [.int .i64 (0), .int .i64 (0)] := fun w => by kernel_rfl
theorem seq37 (a0 : Int) (a1 : Int) (b0 : Int) (b1 : Int) : ∀ w, (Op.equalIn 10000 37 (.agg #[.int .i64 (a0), .int .i64 (a1)]) (.agg #[.int .i64 (b0), .int .i64 (b1)])).run Try.prog w = .ok ((((a0) == (b0)) && (((a1) == (b1)) && true))) w :=
  EqF.struct Try.underlying37 (by kernel_rfl) (.cons rfl (fun w => by kernel_rfl) (fun w => by kernel_rfl) (fun w => run_equalIn_int w 9998 3 .i64 .i64 _ _ Try.underlying3) (.cons rfl (fun w => by kernel_rfl) (fun w => by kernel_rfl) (fun w => run_equalIn_int w 9998 3 .i64 .i64 _ _ Try.underlying3) (EqF.nil)))
theorem zer82 : ZeroOf Try.prog 82 [.int .i64 (0), .int .i64 (0)] := ⟨_, Try.zeroValue82, rfl⟩
theorem fld23_0 : FieldOf Try.prog 23 0 0 := .mk Try.underlying23 rfl rfl (show Try.prog.info? 3 = some Try.t3 from by kernel_rfl) (show Try.t3.size = 1 from by kernel_rfl) rfl
theorem fld23_3 : FieldOf Try.prog 23 3 3 := .mk Try.underlying23 rfl rfl (show Try.prog.info? 3 = some Try.t3 from by kernel_rfl) (show Try.t3.size = 1 from by kernel_rfl) rfl
theorem fld23_2 : FieldOf Try.prog 23 2 2 := .mk Try.underlying23 rfl rfl (show Try.prog.info? 3 = some Try.t3 from by kernel_rfl) (show Try.t3.size = 1 from by kernel_rfl) rfl
theorem fld23_1 : FieldOf Try.prog 23 1 1 := .mk Try.underlying23 rfl rfl (show Try.prog.info? 3 = some Try.t3 from by kernel_rfl) (show Try.t3.size = 1 from by kernel_rfl) rfl
theorem bld82_0i641i64 (x0 : Int) (x1 : Int) : BuildOf Try.prog 82 [(0, .int .i64 x0), (1, .int .i64 x1)] [.int .i64 x0, .int .i64 x1] := fun w => by kernel_rfl
theorem agg82 : AggOf Try.prog 82 2 := .mk Try.underlying82 rfl (show Try.prog.info? 82 = some Try.t82 from by kernel_rfl) (by kernel_rfl)
theorem fld23_4 : FieldOf Try.prog 23 4 4 := .mk Try.underlying23 rfl rfl (show Try.prog.info? 3 = some Try.t3 from by kernel_rfl) (show Try.t3.size = 1 from by kernel_rfl) rfl
theorem agg23 : AggOf Try.prog 23 5 := .mk Try.underlying23 rfl (show Try.prog.info? 23 = some Try.t23 from by kernel_rfl) (by kernel_rfl)
theorem fld82_0 : FieldOf Try.prog 82 0 0 := .mk Try.underlying82 rfl rfl (show Try.prog.info? 3 = some Try.t3 from by kernel_rfl) (show Try.t3.size = 1 from by kernel_rfl) rfl
theorem fld82_1 : FieldOf Try.prog 82 1 1 := .mk Try.underlying82 rfl rfl (show Try.prog.info? 3 = some Try.t3 from by kernel_rfl) (show Try.t3.size = 1 from by kernel_rfl) rfl
theorem fld26_0 : FieldOf Try.prog 26 0 0 := .mk Try.underlying26 rfl rfl (show Try.prog.info? 23 = some Try.t23 from by kernel_rfl) (show Try.t23.size = 5 from by kernel_rfl) rfl
theorem fld26_1 : FieldOf Try.prog 26 1 5 := .mk Try.underlying26 rfl rfl (show Try.prog.info? 24 = some Try.t24 from by kernel_rfl) (show Try.t24.size = 1 from by kernel_rfl) rfl
theorem one24 : OneOf Try.prog 24 := .mk Try.underlying24 rfl (show Try.prog.info? 24 = some Try.t24 from by kernel_rfl) (by kernel_rfl)
theorem slc24 : SliceOf Try.prog 24 39 3 := .mk Try.underlying24 (show Try.prog.info? 39 = some Try.t39 from by kernel_rfl) (by kernel_rfl)
theorem agg39 : AggOf Try.prog 39 3 := .mk Try.underlying39 rfl (show Try.prog.info? 39 = some Try.t39 from by kernel_rfl) (by kernel_rfl)
theorem zer39 : ZeroOf Try.prog 39 [.bool (false), .int .i64 (0), .int .i64 (0)] := ⟨_, Try.zeroValue39, rfl⟩
theorem agg26 : AggOf Try.prog 26 6 := .mk Try.underlying26 rfl (show Try.prog.info? 26 = some Try.t26 from by kernel_rfl) (by kernel_rfl)
theorem seq23 (a0 : Int) (a1 : Int) (a2 : Int) (a3 : Int) (a4 : Int) (b0 : Int) (b1 : Int) (b2 : Int) (b3 : Int) (b4 : Int) : ∀ w, (Op.equalIn 10000 23 (.agg #[.int .i64 (a0), .int .i64 (a1), .int .i64 (a2), .int .i64 (a3), .int .i64 (a4)]) (.agg #[.int .i64 (b0), .int .i64 (b1), .int .i64 (b2), .int .i64 (b3), .int .i64 (b4)])).run Try.prog w = .ok ((((a0) == (b0)) && (((a1) == (b1)) && (((a2) == (b2)) && (((a3) == (b3)) && (((a4) == (b4)) && true)))))) w :=
  EqF.struct Try.underlying23 (by kernel_rfl) (.cons rfl (fun w => by kernel_rfl) (fun w => by kernel_rfl) (fun w => run_equalIn_int w 9998 3 .i64 .i64 _ _ Try.underlying3) (.cons rfl (fun w => by kernel_rfl) (fun w => by kernel_rfl) (fun w => run_equalIn_int w 9998 3 .i64 .i64 _ _ Try.underlying3) (.cons rfl (fun w => by kernel_rfl) (fun w => by kernel_rfl) (fun w => run_equalIn_int w 9998 3 .i64 .i64 _ _ Try.underlying3) (.cons rfl (fun w => by kernel_rfl) (fun w => by kernel_rfl) (fun w => run_equalIn_int w 9998 3 .i64 .i64 _ _ Try.underlying3) (.cons rfl (fun w => by kernel_rfl) (fun w => by kernel_rfl) (fun w => run_equalIn_int w 9998 3 .i64 .i64 _ _ Try.underlying3) (EqF.nil))))))
theorem bls34_1_0i64 (x0 : Int) : BuildSliceOf Try.prog 34 1 [(0, .int .i64 x0)] 3 [.int .i64 x0] := fun w => by kernel_rfl
theorem elm34 : ElemOf Try.prog 34 3 1 8 := ⟨Try.underlying34, ⟨Try.t3, .int .i64 (0), by kernel_rfl, by kernel_rfl, by kernel_rfl, by kernel_rfl, rfl⟩, by decide⟩
theorem slc34 : SliceOf Try.prog 34 3 1 := .mk Try.underlying34 (show Try.prog.info? 3 = some Try.t3 from by kernel_rfl) (by kernel_rfl)
theorem bld37_0i641i64 (x0 : Int) (x1 : Int) : BuildOf Try.prog 37 [(0, .int .i64 x0), (1, .int .i64 x1)] [.int .i64 x0, .int .i64 x1] := fun w => by kernel_rfl
theorem bld39_1ai64i64 (x0 : Int) (x1 : Int) : BuildOf Try.prog 39 [(1, .agg #[.int .i64 x0, .int .i64 x1])] [.bool (false), .int .i64 x0, .int .i64 x1] := fun w => by kernel_rfl
theorem bld39_0b (x0 : Bool) : BuildOf Try.prog 39 [(0, .bool x0)] [.bool x0, .int .i64 (0), .int .i64 (0)] := fun w => by kernel_rfl
theorem zer26 : ZeroOf Try.prog 26 [.int .i64 (0), .int .i64 (0), .int .i64 (0), .int .i64 (0), .int .i64 (0), .slice (none) (0) (0)] := ⟨_, Try.zeroValue26, rfl⟩
theorem bld26_  : BuildOf Try.prog 26 [] [.int .i64 (0), .int .i64 (0), .int .i64 (0), .int .i64 (0), .int .i64 (0), .slice (none) (0) (0)] := fun w => by kernel_rfl
theorem bld26_0ai64i64i64i64i64 (x0 : Int) (x1 : Int) (x2 : Int) (x3 : Int) (x4 : Int) : BuildOf Try.prog 26 [(0, .agg #[.int .i64 x0, .int .i64 x1, .int .i64 x2, .int .i64 x3, .int .i64 x4])] [.int .i64 x0, .int .i64 x1, .int .i64 x2, .int .i64 x3, .int .i64 x4, .slice (none) (0) (0)] := fun w => by kernel_rfl
theorem bls24_1_0abi64i64 (x0 : Bool) (x1 : Int) (x2 : Int) : BuildSliceOf Try.prog 24 1 [(0, .agg #[.bool x0, .int .i64 x1, .int .i64 x2])] 39 [.bool x0, .int .i64 x1, .int .i64 x2] := fun w => by kernel_rfl
theorem elm24 : ElemOf Try.prog 24 39 3 24 := ⟨Try.underlying24, ⟨Try.t39, .agg #[.bool (false), .int .i64 (0), .int .i64 (0)], by kernel_rfl, by kernel_rfl, by kernel_rfl, by kernel_rfl, rfl⟩, by decide⟩
noncomputable def model_within (p0 : Int) (p1 : Int) (p2 : Int) : Option Bool :=
 jn (fun (s2 : Bool) =>
 some s2)
 (fun j2 => if p0 ≤ p1 then (j2 (decide (p1 ≤ p2)))
 else (j2 false))
noncomputable def model_validCoord (p0 : Int) : Option Bool :=
 bnd (model_within (-268435456) p0 268435456) fun r1 =>
 some r1
structure S_api_Span where
  Lo : Int
  Hi : Int
noncomputable def exact_Valid (p0 : S_api_Span) : Option Bool :=
 jn (fun (s2 : Bool) =>
 some s2)
 (fun j2 => if (-1152921504606846976) ≤ p0.Lo then (if p0.Lo ≤ p0.Hi then (j2 (decide (p0.Hi ≤ 1152921504606846976)))
 else (j2 false))
 else (j2 false))
structure S_api_Cell where
  Void : Bool
  Z : S_api_Span
noncomputable def model_validCell (p0 : S_api_Cell) : Option Bool :=
 if p0.Void = true then (some (((p0.Z.Lo) == (0)) && (((p0.Z.Hi) == (0)) && true)))
 else (jn (fun (s5 : Bool) =>
 some s5)
 (fun j5 => bnd (exact_Valid p0.Z) fun r5 =>
 if r5 = true then (bnd (model_validCoord p0.Z.Lo) fun r10 =>
 if r10 = true then (bnd (model_validCoord p0.Z.Hi) fun r15 =>
 j5 r15)
 else (j5 false))
 else (j5 false)))
noncomputable def model_state (p0 : S_api_Cell) (p1 : S_api_Cell) : Option Int :=
 jn (fun (s3 : Bool) =>
 if s3 = true then (some 2)
 else (if p0.Z.Hi < p1.Z.Lo then (some 1)
 else (if p1.Z.Hi < p0.Z.Lo then (some (-1))
 else (some 0))))
 (fun j3 => if p0.Void = true then (j3 true)
 else (j3 p1.Void))
structure S_api_XY where
  X : Int
  Y : Int
structure S_api_Raster where
  X0 : Int
  Y0 : Int
  Step : Int
  NX : Int
  NY : Int
noncomputable def model_node (p0 : S_api_Raster) (p1 : Int) : Option S_api_XY :=
 gd (p0.NX ≠ 0) <|
 gd (p0.NX ≠ 0) <|
 some (⟨w64 (p0.X0 + (w64 ((Int.tmod p1 p0.NX) * p0.Step))), w64 (p0.Y0 + (w64 ((w64 (Int.tdiv p1 p0.NX)) * p0.Step)))⟩ : S_api_XY)
noncomputable def model_ValidRaster (p0 : S_api_Raster) : Option Bool :=
 jn (fun (s3 : Bool) =>
 if s3 = true then (some false)
 else (bnd (model_node p0 (w64 ((w64 (p0.NX * p0.NY)) - 1))) fun r34 =>
 jn (fun (s6 : Bool) =>
 some s6)
 (fun j6 => bnd (model_validCoord r34.X) fun r38 =>
 if r38 = true then (bnd (model_validCoord r34.Y) fun r43 =>
 j6 r43)
 else (j6 false))))
 (fun j3 => bnd (model_within 1 p0.Step 1000000) fun r2 =>
 if r2 = true then (bnd (model_within 1 p0.NX 64) fun r8 =>
 if r8 = true then (bnd (model_within 1 p0.NY 64) fun r14 =>
 if r14 = true then (bnd (model_validCoord p0.X0) fun r20 =>
 if r20 = true then (bnd (model_validCoord p0.Y0) fun r26 =>
 j3 (!(r26)))
 else (j3 true))
 else (j3 true))
 else (j3 true))
 else (j3 true))
structure S_api_Grid where
  Raster : S_api_Raster
  Cells : List S_api_Cell
noncomputable def model_Valid_l4 (p0 : S_api_Grid) : Int → Option (Sum Int (Sum Unit Bool)) := fun s35 =>
 if s35 < ((((p0.Cells).length : Nat) : Int)) then (bnd (idx p0.Cells s35) fun x39 =>
 bnd (model_validCell x39) fun r51 =>
 if r51 = true then (some (.inl (w64 (s35 + 1))))
 else (some (.inr (.inr (false)))))
 else (some (.inr (.inl ())))
noncomputable def model_Valid (p0 : S_api_Grid) : Option Bool :=
 jn (fun (s3 : Bool) =>
 if s3 = true then (some false)
 else (jn (fun (s5 : Unit) =>
 some true)
 (fun j5 => bnd (lfix (model_Valid_l4 p0) 0) fun t35 =>
 (match t35 with
 | (.inl z35) => j5 z35
 | (.inr (z35)) => some z35
 ))))
 (fun j3 => bnd (model_ValidRaster p0.Raster) fun r2 =>
 if r2 = true then (j3 (!(decide (((((p0.Cells).length : Nat) : Int)) = (w64 (p0.Raster.NX * p0.Raster.NY))))))
 else (j3 true))
def e_api_Cell (x : S_api_Cell) : List Value := [.bool (x.Void), .int .i64 (x.Z.Lo), .int .i64 (x.Z.Hi)]
theorem e_api_Cell_len (x : S_api_Cell) : (e_api_Cell x).length = 3 := rfl
noncomputable def model_pair (p0 : S_api_Grid) (p1 : S_api_Grid) : Option Int :=
 jn (fun (s3 : Bool) =>
 if s3 = true then (some 90)
 else (if ((((p0.Raster.X0) == (p1.Raster.X0)) && (((p0.Raster.Y0) == (p1.Raster.Y0)) && (((p0.Raster.Step) == (p1.Raster.Step)) && (((p0.Raster.NX) == (p1.Raster.NX)) && (((p0.Raster.NY) == (p1.Raster.NY)) && true)))))) = true then (some 0)
 else (some 91)))
 (fun j3 => bnd (model_Valid p0) fun r3 =>
 if r3 = true then (bnd (model_Valid p1) fun r9 =>
 j3 (!(r9)))
 else (j3 true))
noncomputable def lidarref01_Place (p0 : S_api_XY) : Option Bool :=
 jn (fun (s2 : Bool) =>
 some s2)
 (fun j2 => if (-268435456) ≤ p0.X then (if p0.X ≤ 268435456 then (if (-268435456) ≤ p0.Y then (j2 (decide (p0.Y ≤ 268435456)))
 else (j2 false))
 else (j2 false))
 else (j2 false))
noncomputable def lidarref09_ValidRaster (p0 : S_api_Raster) : Option Bool :=
 jn (fun (s3 : Bool) =>
 if s3 = true then (some false)
 else (bnd (lidarref01_Place (⟨w64 (p0.X0 + (w64 ((w64 (p0.NX - 1)) * p0.Step))), w64 (p0.Y0 + (w64 ((w64 (p0.NY - 1)) * p0.Step)))⟩ : S_api_XY)) fun r28 =>
 some r28))
 (fun j3 => if p0.Step < 1 then (j3 true)
 else (if 1000000 < p0.Step then (j3 true)
 else (if p0.NX < 1 then (j3 true)
 else (if 64 < p0.NX then (j3 true)
 else (if p0.NY < 1 then (j3 true)
 else (if 64 < p0.NY then (j3 true)
 else (bnd (lidarref01_Place (⟨p0.X0, p0.Y0⟩ : S_api_XY)) fun r20 =>
 j3 (!(r20)))))))))
noncomputable def lidarref09_Valid_l4 (p0 : S_api_Grid) : Int → Option (Sum Int (Sum Unit Bool)) := fun s52 =>
 if s52 < ((((p0.Cells).length : Nat) : Int)) then (bnd (idx p0.Cells s52) fun x56 =>
 jn (fun (s17 : Bool) =>
 if s17 = true then (some (.inr (.inr (false))))
 else (some (.inl (w64 (s52 + 1)))))
 (fun j17 => if x56.Void = true then (if ((((x56.Z.Lo) == (0)) && (((x56.Z.Hi) == (0)) && true))) = true then (if x56.Z.Hi < x56.Z.Lo then (j17 true)
 else (if x56.Z.Lo < (-268435456) then (j17 true)
 else (j17 (decide (268435456 < x56.Z.Hi)))))
 else (j17 true))
 else (if x56.Z.Hi < x56.Z.Lo then (j17 true)
 else (if x56.Z.Lo < (-268435456) then (j17 true)
 else (j17 (decide (268435456 < x56.Z.Hi)))))))
 else (some (.inr (.inl ())))
noncomputable def lidarref09_Valid (p0 : S_api_Grid) : Option Bool :=
 jn (fun (s3 : Bool) =>
 if s3 = true then (some false)
 else (jn (fun (s5 : Unit) =>
 some true)
 (fun j5 => bnd (lfix (lidarref09_Valid_l4 p0) 0) fun t52 =>
 (match t52 with
 | (.inl z52) => j5 z52
 | (.inr (z52)) => some z52
 ))))
 (fun j3 => bnd (lidarref09_ValidRaster p0.Raster) fun r2 =>
 if r2 = true then (j3 (!(decide (((((p0.Cells).length : Nat) : Int)) = (w64 (p0.Raster.NX * p0.Raster.NY))))))
 else (j3 true))
def e_i64 (x : Int) : List Value := [.int .i64 (x)]
theorem e_i64_len (x : Int) : (e_i64 x).length = 1 := rfl
noncomputable def model_states_l3 (p0 : S_api_Grid) (p1 : S_api_Grid) : ((List Int) × Int) → Option (Sum ((List Int) × Int) (List Int)) := fun s43 =>
 if s43.2 < ((((p0.Cells).length : Nat) : Int)) then (bnd (idx p0.Cells s43.2) fun x49 =>
 bnd (idx p1.Cells s43.2) fun x60 =>
 bnd (model_state x49 x60) fun r71 =>
 gd (((s43.1).length + 1) * 8 ≤ 140737488355328) <|
 some (.inl (s43.1 ++ [r71], w64 (s43.2 + 1))))
 else (some (.inr s43.1))
noncomputable def model_states (p0 : S_api_Grid) (p1 : S_api_Grid) : Option (List Int) :=
 gd ((0 : Int) ≤ ((((p0.Cells).length : Nat) : Int)) ∧ 8 * Int.toNat ((((p0.Cells).length : Nat) : Int)) ≤ 140737488355328) <|
 jn (fun (s3 : List Int) =>
 some s3)
 (fun j3 => bnd (lfix (model_states_l3 p0 p1) (([] : List Int), 0)) fun t43 =>
 j3 t43)
noncomputable def model_Consistent_1 (p0 : Int) : Option Bool :=
 jn (fun (s2 : Bool) =>
 some s2)
 (fun j2 => if p0 = 1 then (j2 true)
 else (j2 (decide (p0 = (-1)))))
noncomputable def slices_IndexFunc_c_l2 (p0 : List Int) : Int → Option (Sum Int (Sum Unit Int)) := fun s22 =>
 if s22 < ((((p0).length : Nat) : Int)) then (bnd (idx p0 s22) fun x26 =>
 bnd (model_Consistent_1 x26) fun r37 =>
 if r37 = true then (some (.inr (.inr (s22))))
 else (some (.inl (w64 (s22 + 1)))))
 else (some (.inr (.inl ())))
noncomputable def slices_IndexFunc_c (p0 : List Int) : Option Int :=
 jn (fun (s2 : Unit) =>
 some (-1))
 (fun j2 => bnd (lfix (slices_IndexFunc_c_l2 p0) 0) fun t22 =>
 (match t22 with
 | (.inl z22) => j2 z22
 | (.inr (z22)) => some z22
 ))
noncomputable def slices_ContainsFunc_c (p0 : List Int) : Option Bool :=
 bnd (slices_IndexFunc_c p0) fun r1 =>
 some (decide (0 ≤ r1))
noncomputable def model_Consistent (p0 : S_api_Grid) (p1 : S_api_Grid) : Option (Bool × Int) :=
 bnd (model_pair p0 p1) fun r3 =>
 if r3 = 0 then (bnd (model_states p0 p1) fun r9 =>
 bnd (slices_ContainsFunc_c r9) fun r16 =>
 some (!(r16), 0))
 else (some (false, r3))
noncomputable def model_common (p0 : S_api_Cell) (p1 : S_api_Cell) : Option S_api_Cell :=
 if p0.Void = true then (some p1)
 else (if p1.Void = true then (some p0)
 else (bnd (model_state p0 p1) fun r10 =>
 if r10 = 0 then (some (⟨false, (⟨max p0.Z.Lo p1.Z.Lo, min p0.Z.Hi p1.Z.Hi⟩ : S_api_Span)⟩ : S_api_Cell))
 else (some (⟨true, (⟨0, 0⟩ : S_api_Span)⟩ : S_api_Cell))))
noncomputable def model_Common_l6 (p0 : S_api_Grid) (p1 : S_api_Grid) : ((List S_api_Cell) × Int) → Option (Sum ((List S_api_Cell) × Int) (List S_api_Cell)) := fun s46 =>
 if s46.2 < ((((p0.Cells).length : Nat) : Int)) then (bnd (idx p0.Cells s46.2) fun x51 =>
 bnd (idx p1.Cells s46.2) fun x62 =>
 bnd (model_common x51 x62) fun r73 =>
 gd (((s46.1).length + 1) * 24 ≤ 140737488355328) <|
 some (.inl (s46.1 ++ [r73], w64 (s46.2 + 1))))
 else (some (.inr s46.1))
noncomputable def model_Common (p0 : S_api_Grid) (p1 : S_api_Grid) : Option (S_api_Grid × Int) :=
 bnd (model_pair p0 p1) fun r4 =>
 if r4 = 0 then (jn (fun (s7 : List S_api_Cell) =>
 some ((⟨p0.Raster, s7⟩ : S_api_Grid), 0))
 (fun j7 => bnd (lfix (model_Common_l6 p0 p1) (([] : List S_api_Cell), 0)) fun t46 =>
 j7 t46))
 else (some ((⟨(⟨0, 0, 0, 0, 0⟩ : S_api_Raster), ([] : List S_api_Cell)⟩ : S_api_Grid), r4))
set_option maxRecDepth 100000 in
theorem model_within_ok (p0 : Int) (p1 : Int) (p2 : Int)  {r : Bool} (hx : model_within p0 p1 p2 = some r) (w : World) : CtL Try.prog 54 [.int .i64 (p0), .int .i64 (p1), .int .i64 (p2)] w fun v Ln => v = .bool (r) ∧ Ln = [] ∧ True := by
  refine CtL.mk 15 Try.func54 rfl Try.ntmps54 (by kernel_rfl) rfl ?_
  show T 15 _ [(0, .int .i64 (p0)), (1, .int .i64 (p1)), (2, .int .i64 (p2))] _
  unfold model_within at hx
  refine T_seq ?_
  refine T_reg ?_
  refine T_val (Ev_assign rfl) rfl ?_
  refine T_nil ?_
  refine T_next ?_
  obtain ⟨j2, hj2, hx⟩ := jn_some hx
  refine T_cutP (τ := Bool) (γ := Unit) (J := j2) (out := r) (fun s2 y2 => [(6, .bool (s2))]) (fun s2 y2 => [] ++ [.old w]) (fun s2 y2 => True) ?_ ?_
  · intro s2 y2 hx4 hG5
    subst hj2
    refine T_retc ?_
    obtain rfl := Option.some.inj hx4
    exact T_retP (rs := [.tmp 6]) Try.results54 (.tmp rfl (.nil)) (Ln := []) ⟨rfl, rfl, trivial⟩ (loNil) (by exact .refl)
  · skip
    refine T_reg ?_
    refine T_val (Ev_move rfl) rfl ?_
    refine T_val (Ev_move rfl) rfl ?_
    refine T_val (Ev_leq rfl rfl) rfl ?_
    refine T_val (Ev_move rfl) rfl ?_
    refine T_caseP (s := 10) rfl (fun h1 => ?_) (fun h1 => ?_)
    · have hx2 := ite_t h1 hx
      refine T_valG rfl rfl rfl (Ev_move rfl) rfl ?_
      refine T_valG rfl rfl rfl (Ev_move rfl) rfl ?_
      refine T_valG rfl rfl rfl (Ev_leq rfl rfl) rfl ?_
      refine T_val (Ev_pickT rfl rfl) rfl ?_
      refine T_val (Ev_assign rfl) rfl ?_
      refine T_nil ?_
      exact T_metP (decide (p1 ≤ p2)) () hx2 trivial (by exact .cons rfl (.nil)) (by exact .refl)
    · have hx3 := ite_f h1 hx
      refine T_skipG rfl rfl rfl rfl rfl ?_
      refine T_skipG rfl rfl rfl rfl rfl ?_
      refine T_skipG rfl rfl rfl rfl rfl ?_
      refine T_val (Ev_pickF rfl rfl) rfl ?_
      refine T_val (Ev_assign rfl) rfl ?_
      refine T_nil ?_
      exact T_metP false () hx3 trivial (by exact .cons rfl (.nil)) (by exact .refl)
set_option maxRecDepth 100000 in
theorem model_validCoord_ok (p0 : Int)  {r : Bool} (hx : model_validCoord p0 = some r) (w : World) : CtL Try.prog 55 [.int .i64 (p0)] w fun v Ln => v = .bool (r) ∧ Ln = [] ∧ True := by
  refine CtL.mk 5 Try.func55 rfl Try.ntmps55 (by kernel_rfl) rfl ?_
  show T 5 _ [(0, .int .i64 (p0))] _
  unfold model_validCoord at hx
  refine T_seq ?_
  refine T_reg ?_
  refine T_val (Ev_assign rfl) rfl ?_
  refine T_nil ?_
  refine T_next ?_
  refine T_seq ?_
  refine T_reg ?_
  refine T_val (Ev_move rfl) rfl ?_
  obtain ⟨r1, h2, hx3⟩ := bnd_some hx
  refine T_x (Wx_callL rfl (fun w1 hw1 => model_within_ok (-268435456) p0 268435456  h2 w1) rfl ?_)
  rintro _ _ hlo ⟨rfl, rfl, -⟩
  refine T_app0 ?_
  refine T_val (Ev_assign rfl) rfl ?_
  refine T_nil ?_
  refine T_next ?_
  refine T_retc ?_
  obtain rfl := Option.some.inj hx3
  exact T_retP (rs := [.tmp 2]) Try.results55 (.tmp rfl (.nil)) (Ln := []) ⟨rfl, rfl, trivial⟩ (loNil) (by exact .refl)
set_option maxRecDepth 100000 in
theorem exact_Valid_ok (p0 : S_api_Span)  {r : Bool} (hx : exact_Valid p0 = some r) (w : World) : CtL Try.prog 57 [.agg #[.int .i64 (p0.Lo), .int .i64 (p0.Hi)]] w fun v Ln => v = .bool (r) ∧ Ln = [] ∧ True := by
  refine CtL.mk 18 Try.func57 rfl Try.ntmps57 (by kernel_rfl) rfl ?_
  show T 18 _ [(0, .agg #[.int .i64 (p0.Lo), .int .i64 (p0.Hi)])] _
  unfold exact_Valid at hx
  refine T_seq ?_
  refine T_reg ?_
  refine T_x (Wx_box rfl rfl rfl (fun g1 => ?_))
  refine T_val (Ev_assign rfl) rfl ?_
  refine T_nil ?_
  refine T_next ?_
  obtain ⟨j2, hj2, hx⟩ := jn_some hx
  refine T_cutP (τ := Bool) (γ := Unit) (J := j2) (out := r) (fun s2 y2 => [(2, .bool (s2))]) (fun s2 y2 => [] ++ [.old w]) (fun s2 y2 => True) ?_ ?_
  · intro s2 y2 hx8 hG9
    subst hj2
    refine T_retc ?_
    obtain rfl := Option.some.inj hx8
    exact T_retP (rs := [.tmp 2]) Try.results57 (.tmp rfl (.nil)) (Ln := []) ⟨rfl, rfl, trivial⟩ (loNil) (by exact .refl)
  · skip
    refine T_reg ?_
    refine T_val (Ev_field rfl fld37_0 rfl) rfl ?_
    refine T_val (Ev_load1 rfl (i := 0) rfl rfl one3) rfl ?_
    refine T_val (Ev_leq rfl rfl) rfl ?_
    refine T_val (Ev_move rfl) rfl ?_
    refine T_caseP (s := 6) rfl (fun h2 => ?_) (fun h2 => ?_)
    · have hx3 := ite_t h2 hx
      refine T_valG rfl rfl rfl (Ev_field rfl fld37_0 rfl) rfl ?_
      refine T_valG rfl rfl rfl (Ev_load1 rfl (i := 0) rfl rfl one3) rfl ?_
      refine T_valG rfl rfl rfl (Ev_field rfl fld37_1 rfl) rfl ?_
      refine T_valG rfl rfl rfl (Ev_load1 rfl (i := 0) rfl rfl one3) rfl ?_
      refine T_valG rfl rfl rfl (Ev_leq rfl rfl) rfl ?_
      refine T_val (Ev_pickT rfl rfl) rfl ?_
      refine T_val (Ev_move rfl) rfl ?_
      refine T_caseP (s := 13) rfl (fun h4 => ?_) (fun h4 => ?_)
      · have hx5 := ite_t h4 hx3
        refine T_valG rfl rfl rfl (Ev_field rfl fld37_1 rfl) rfl ?_
        refine T_valG rfl rfl rfl (Ev_load1 rfl (i := 0) rfl rfl one3) rfl ?_
        refine T_valG rfl rfl rfl (Ev_leq rfl rfl) rfl ?_
        refine T_val (Ev_pickT rfl rfl) rfl ?_
        refine T_val (Ev_assign rfl) rfl ?_
        refine T_nil ?_
        exact T_metP (decide (p0.Hi ≤ 1152921504606846976)) () hx5 trivial (by exact .cons rfl (.nil)) (by exact .drop 0 rfl (.refl))
      · have hx6 := ite_f h4 hx3
        refine T_skipG rfl rfl rfl rfl rfl ?_
        refine T_skipG rfl rfl rfl rfl rfl ?_
        refine T_skipG rfl rfl rfl rfl rfl ?_
        refine T_val (Ev_pickF rfl rfl) rfl ?_
        refine T_val (Ev_assign rfl) rfl ?_
        refine T_nil ?_
        exact T_metP false () hx6 trivial (by exact .cons rfl (.nil)) (by exact .drop 0 rfl (.refl))
    · have hx7 := ite_f h2 hx
      refine T_skipG rfl rfl rfl rfl rfl ?_
      refine T_skipG rfl rfl rfl rfl rfl ?_
      refine T_skipG rfl rfl rfl rfl rfl ?_
      refine T_skipG rfl rfl rfl rfl rfl ?_
      refine T_skipG rfl rfl rfl rfl rfl ?_
      refine T_val (Ev_pickF rfl rfl) rfl ?_
      refine T_val (Ev_move rfl) rfl ?_
      refine T_skipG rfl rfl rfl rfl rfl ?_
      refine T_skipG rfl rfl rfl rfl rfl ?_
      refine T_skipG rfl rfl rfl rfl rfl ?_
      refine T_val (Ev_pickF rfl rfl) rfl ?_
      refine T_val (Ev_assign rfl) rfl ?_
      refine T_nil ?_
      exact T_metP false () hx7 trivial (by exact .cons rfl (.nil)) (by exact .drop 0 rfl (.refl))
set_option maxRecDepth 100000 in
theorem model_validCell_ok (p0 : S_api_Cell)  {r : Bool} (hx : model_validCell p0 = some r) (w : World) : CtL Try.prog 47 [.agg #[.bool (p0.Void), .int .i64 (p0.Z.Lo), .int .i64 (p0.Z.Hi)]] w fun v Ln => v = .bool (r) ∧ Ln = [] ∧ True := by
  refine CtL.mk 24 Try.func47 rfl Try.ntmps47 (by kernel_rfl) rfl ?_
  show T 24 _ [(0, .agg #[.bool (p0.Void), .int .i64 (p0.Z.Lo), .int .i64 (p0.Z.Hi)])] _
  unfold model_validCell at hx
  refine T_seq ?_
  refine T_reg ?_
  refine T_x (Wx_box rfl rfl rfl (fun g1 => ?_))
  refine T_val (Ev_assign rfl) rfl ?_
  refine T_nil ?_
  refine T_next ?_
  refine T_seq ?_
  refine T_seq ?_
  refine T_reg ?_
  refine T_val (Ev_field rfl fld39_0 rfl) rfl ?_
  refine T_val (Ev_load1 rfl (i := 0) rfl rfl one4) rfl ?_
  refine T_nil ?_
  refine T_next ?_
  refine T_caseB (s := 4) rfl (fun h2 => ?_) (fun h2 => ?_)
  · have hx3 := ite_t h2 hx
    refine T_condT rfl ?_
    refine T_seq ?_
    refine T_reg ?_
    refine T_val (Ev_field rfl fld39_1 rfl) rfl ?_
    refine T_val (Ev_loadK rfl (i := 0) rfl rfl agg37) rfl ?_
    refine T_val (Ev_build rfl (bld37_)) rfl ?_
    refine T_val (Ev_eqlS rfl rfl (by kernel_rfl) (seq37 _ _ _ _)) rfl ?_
    refine T_val (Ev_assign rfl) rfl ?_
    refine T_nil ?_
    refine T_next ?_
    refine T_retc ?_
    refine T_outR ?_
    obtain rfl := Option.some.inj hx3
    exact T_retP (rs := [.tmp 2]) Try.results47 (.tmp rfl (.nil)) (Ln := []) ⟨rfl, rfl, trivial⟩ (loNil) (by exact .drop 0 rfl (.refl))
  · have hx4 := ite_bf h2 hx
    refine T_condF rfl ?_
    refine T_skip ?_
    refine T_next ?_
    obtain ⟨j5, hj5, hx4⟩ := jn_some hx4
    refine T_cutP (τ := Bool) (γ := Unit) (J := j5) (out := r) (fun s5 y5 => [(2, .bool (s5))]) (fun s5 y5 => [] ++ [.old w]) (fun s5 y5 => True) ?_ ?_
    · intro s5 y5 hx20 hG21
      subst hj5
      refine T_retc ?_
      obtain rfl := Option.some.inj hx20
      exact T_retP (rs := [.tmp 2]) Try.results47 (.tmp rfl (.nil)) (Ln := []) ⟨rfl, rfl, trivial⟩ (loNil) (by exact .refl)
    · skip
      refine T_reg ?_
      refine T_val (Ev_field rfl fld39_1 rfl) rfl ?_
      refine T_val (Ev_loadK rfl (i := 0) rfl rfl agg37) rfl ?_
      obtain ⟨r5, h6, hx7⟩ := bnd_some hx4
      refine T_x (Wx_callL rfl (fun w1 hw1 => exact_Valid_ok p0.Z  h6 w1) rfl ?_)
      rintro _ _ hlo ⟨rfl, rfl, -⟩
      refine T_app0 ?_
      refine T_val (Ev_move rfl) rfl ?_
      refine T_caseB (s := 12) rfl (fun h8 => ?_) (fun h8 => ?_)
      · have hx9 := ite_t h8 hx7
        refine T_valG rfl rfl rfl (Ev_field rfl fld39_1 rfl) rfl ?_
        refine T_valG rfl rfl rfl (Ev_field rfl fld37_0 rfl) rfl ?_
        refine T_valG rfl rfl rfl (Ev_load1 rfl (i := 0) rfl rfl one3) rfl ?_
        obtain ⟨r10, h11, hx12⟩ := bnd_some hx9
        refine T_xG rfl rfl rfl (Wx_callL rfl (fun w1 hw1 => model_validCoord_ok p0.Z.Lo  h11 w1) rfl ?_)
        rintro _ _ hlo ⟨rfl, rfl, -⟩
        refine T_app0 ?_
        refine T_val (Ev_pickT rfl rfl) rfl ?_
        refine T_val (Ev_move rfl) rfl ?_
        refine T_caseB (s := 18) rfl (fun h13 => ?_) (fun h13 => ?_)
        · have hx14 := ite_t h13 hx12
          refine T_valG rfl rfl rfl (Ev_field rfl fld39_1 rfl) rfl ?_
          refine T_valG rfl rfl rfl (Ev_field rfl fld37_1 rfl) rfl ?_
          refine T_valG rfl rfl rfl (Ev_load1 rfl (i := 0) rfl rfl one3) rfl ?_
          obtain ⟨r15, h16, hx17⟩ := bnd_some hx14
          refine T_xG rfl rfl rfl (Wx_callL rfl (fun w1 hw1 => model_validCoord_ok p0.Z.Hi  h16 w1) rfl ?_)
          rintro _ _ hlo ⟨rfl, rfl, -⟩
          refine T_app0 ?_
          refine T_val (Ev_pickT rfl rfl) rfl ?_
          refine T_val (Ev_assign rfl) rfl ?_
          refine T_nil ?_
          exact T_metP r15 () hx17 trivial (by exact .cons rfl (.nil)) (by exact .drop 0 rfl (.refl))
        · have hx18 := ite_bf h13 hx12
          refine T_skipG rfl rfl rfl rfl rfl ?_
          refine T_skipG rfl rfl rfl rfl rfl ?_
          refine T_skipG rfl rfl rfl rfl rfl ?_
          refine T_skipG rfl rfl rfl rfl rfl ?_
          refine T_val (Ev_pickF rfl rfl) rfl ?_
          refine T_val (Ev_assign rfl) rfl ?_
          refine T_nil ?_
          exact T_metP false () hx18 trivial (by exact .cons rfl (.nil)) (by exact .drop 0 rfl (.refl))
      · have hx19 := ite_bf h8 hx7
        refine T_skipG rfl rfl rfl rfl rfl ?_
        refine T_skipG rfl rfl rfl rfl rfl ?_
        refine T_skipG rfl rfl rfl rfl rfl ?_
        refine T_skipG rfl rfl rfl rfl rfl ?_
        refine T_val (Ev_pickF rfl rfl) rfl ?_
        refine T_val (Ev_move rfl) rfl ?_
        refine T_skipG rfl rfl rfl rfl rfl ?_
        refine T_skipG rfl rfl rfl rfl rfl ?_
        refine T_skipG rfl rfl rfl rfl rfl ?_
        refine T_skipG rfl rfl rfl rfl rfl ?_
        refine T_val (Ev_pickF rfl rfl) rfl ?_
        refine T_val (Ev_assign rfl) rfl ?_
        refine T_nil ?_
        exact T_metP false () hx19 trivial (by exact .cons rfl (.nil)) (by exact .drop 0 rfl (.refl))
set_option maxRecDepth 100000 in
theorem model_state_ok (p0 : S_api_Cell) (p1 : S_api_Cell)  {r : Int} (hx : model_state p0 p1 = some r) (w : World) : CtL Try.prog 33 [.agg #[.bool (p0.Void), .int .i64 (p0.Z.Lo), .int .i64 (p0.Z.Hi)], .agg #[.bool (p1.Void), .int .i64 (p1.Z.Lo), .int .i64 (p1.Z.Hi)]] w fun v Ln => v = .int .i64 (r) ∧ Ln = [] ∧ True := by
  refine CtL.mk 28 Try.func33 rfl Try.ntmps33 (by kernel_rfl) rfl ?_
  show T 28 _ [(0, .agg #[.bool (p0.Void), .int .i64 (p0.Z.Lo), .int .i64 (p0.Z.Hi)]), (1, .agg #[.bool (p1.Void), .int .i64 (p1.Z.Lo), .int .i64 (p1.Z.Hi)])] _
  unfold model_state at hx
  refine T_seq ?_
  refine T_reg ?_
  refine T_x (Wx_box rfl rfl rfl (fun g1 => ?_))
  refine T_x (Wx_box rfl rfl rfl (fun g2 => ?_))
  refine T_val (Ev_assign rfl) rfl ?_
  refine T_nil ?_
  refine T_next ?_
  refine T_seq ?_
  refine T_block ?_
  obtain ⟨j3, hj3, hx⟩ := jn_some hx
  refine T_cutP (τ := Bool) (γ := Unit) (J := j3) (out := r) (fun s3 y3 => [(2, .pointer (some ⟨g1, 0, none⟩)), (3, .pointer (some ⟨g2, 0, none⟩)), (5, .bool (s3))]) (fun s3 y3 => [.m g2 39 [.bool (p1.Void), .int .i64 (p1.Z.Lo), .int .i64 (p1.Z.Hi)], .m g1 39 [.bool (p0.Void), .int .i64 (p0.Z.Lo), .int .i64 (p0.Z.Hi)]] ++ [.old w]) (fun s3 y3 => True) ?_ ?_
  · intro s3 y3 hx6 hG7
    subst hj3
    refine T_caseB (s := 5) rfl (fun h8 => ?_) (fun h8 => ?_)
    · have hx9 := ite_t h8 hx6
      refine T_condT rfl ?_
      refine T_seq ?_
      refine T_reg ?_
      refine T_val (Ev_assign rfl) rfl ?_
      refine T_nil ?_
      refine T_next ?_
      refine T_retc ?_
      refine T_inR ?_
      refine T_outR ?_
      obtain rfl := Option.some.inj hx9
      exact T_retP (rs := [.tmp 4]) Try.results33 (.tmp rfl (.nil)) (Ln := []) ⟨rfl, rfl, trivial⟩ (loNil) (by exact .drop 0 rfl (.drop 0 rfl (.refl)))
    · have hx10 := ite_bf h8 hx6
      refine T_condF rfl ?_
      refine T_seq ?_
      refine T_reg ?_
      refine T_val (Ev_field rfl fld39_1 rfl) rfl ?_
      refine T_val (Ev_field rfl fld37_0 rfl) rfl ?_
      refine T_val (Ev_load1 rfl (i := 0) rfl rfl one3) rfl ?_
      refine T_val (Ev_field rfl fld39_1 rfl) rfl ?_
      refine T_val (Ev_field rfl fld37_1 rfl) rfl ?_
      refine T_val (Ev_load1 rfl (i := 1) rfl rfl one3) rfl ?_
      refine T_val (Ev_gtr rfl rfl) rfl ?_
      refine T_val (Ev_assign rfl) rfl ?_
      refine T_nil ?_
      refine T_next ?_
      refine T_caseP (s := 12) rfl (fun h11 => ?_) (fun h11 => ?_)
      · have hx12 := ite_t h11 hx10
        refine T_condT rfl ?_
        refine T_seq ?_
        refine T_reg ?_
        refine T_val (Ev_assign rfl) rfl ?_
        refine T_nil ?_
        refine T_next ?_
        refine T_retc ?_
        refine T_inR ?_
        refine T_outR ?_
        obtain rfl := Option.some.inj hx12
        exact T_retP (rs := [.tmp 4]) Try.results33 (.tmp rfl (.nil)) (Ln := []) ⟨rfl, rfl, trivial⟩ (loNil) (by exact .drop 0 rfl (.drop 0 rfl (.refl)))
      · have hx13 := ite_f h11 hx10
        refine T_condF rfl ?_
        refine T_seq ?_
        refine T_reg ?_
        refine T_val (Ev_field rfl fld39_1 rfl) rfl ?_
        refine T_val (Ev_field rfl fld37_1 rfl) rfl ?_
        refine T_val (Ev_load1 rfl (i := 0) rfl rfl one3) rfl ?_
        refine T_val (Ev_field rfl fld39_1 rfl) rfl ?_
        refine T_val (Ev_field rfl fld37_0 rfl) rfl ?_
        refine T_val (Ev_load1 rfl (i := 1) rfl rfl one3) rfl ?_
        refine T_val (Ev_lss rfl rfl) rfl ?_
        refine T_val (Ev_assign rfl) rfl ?_
        refine T_nil ?_
        refine T_next ?_
        refine T_caseP (s := 20) rfl (fun h14 => ?_) (fun h14 => ?_)
        · have hx15 := ite_t h14 hx13
          refine T_condT rfl ?_
          refine T_seq ?_
          refine T_reg ?_
          refine T_val (Ev_assign rfl) rfl ?_
          refine T_nil ?_
          refine T_next ?_
          refine T_retc ?_
          refine T_inR ?_
          refine T_outR ?_
          obtain rfl := Option.some.inj hx15
          exact T_retP (rs := [.tmp 4]) Try.results33 (.tmp rfl (.nil)) (Ln := []) ⟨rfl, rfl, trivial⟩ (loNil) (by exact .drop 0 rfl (.drop 0 rfl (.refl)))
        · have hx16 := ite_f h14 hx13
          refine T_condF rfl ?_
          refine T_skip ?_
          refine T_inN ?_
          refine T_next ?_
          refine T_seq ?_
          refine T_reg ?_
          refine T_val (Ev_assign rfl) rfl ?_
          refine T_nil ?_
          refine T_next ?_
          refine T_retc ?_
          obtain rfl := Option.some.inj hx16
          exact T_retP (rs := [.tmp 4]) Try.results33 (.tmp rfl (.nil)) (Ln := []) ⟨rfl, rfl, trivial⟩ (loNil) (by exact .drop 0 rfl (.drop 0 rfl (.refl)))
  · skip
    refine T_reg ?_
    refine T_val (Ev_field rfl fld39_0 rfl) rfl ?_
    refine T_val (Ev_load1 rfl (i := 1) rfl rfl one4) rfl ?_
    refine T_val (Ev_move rfl) rfl ?_
    refine T_caseB (s := 8) rfl (fun h3 => ?_) (fun h3 => ?_)
    · have hx4 := ite_t h3 hx
      refine T_skipG rfl rfl rfl rfl rfl ?_
      refine T_skipG rfl rfl rfl rfl rfl ?_
      refine T_val (Ev_pickT rfl rfl) rfl ?_
      refine T_val (Ev_assign rfl) rfl ?_
      refine T_nil ?_
      exact T_metP true () hx4 trivial (by exact .cons rfl (.cons rfl (.cons rfl (.nil)))) (by exact .pick 0 rfl (.pick 0 rfl (.refl)))
    · have hx5 := ite_bf h3 hx
      refine T_valG rfl rfl rfl (Ev_field rfl fld39_0 rfl) rfl ?_
      refine T_valG rfl rfl rfl (Ev_load1 rfl (i := 0) rfl rfl one4) rfl ?_
      refine T_val (Ev_pickF rfl rfl) rfl ?_
      refine T_val (Ev_assign rfl) rfl ?_
      refine T_nil ?_
      exact T_metP p1.Void () hx5 trivial (by exact .cons rfl (.cons rfl (.cons rfl (.nil)))) (by exact .pick 0 rfl (.pick 0 rfl (.refl)))
set_option maxRecDepth 100000 in
theorem model_node_ok (p0 : S_api_Raster) (p1 : Int)  {r : S_api_XY} (hx : model_node p0 p1 = some r) (w : World) : CtL Try.prog 56 [.agg #[.int .i64 (p0.X0), .int .i64 (p0.Y0), .int .i64 (p0.Step), .int .i64 (p0.NX), .int .i64 (p0.NY)], .int .i64 (p1)] w fun v Ln => v = .agg #[.int .i64 (r.X), .int .i64 (r.Y)] ∧ Ln = [] ∧ True := by
  refine CtL.mk 26 Try.func56 rfl Try.ntmps56 (by kernel_rfl) rfl ?_
  show T 26 _ [(0, .agg #[.int .i64 (p0.X0), .int .i64 (p0.Y0), .int .i64 (p0.Step), .int .i64 (p0.NX), .int .i64 (p0.NY)]), (1, .int .i64 (p1))] _
  unfold model_node at hx
  refine T_seq ?_
  refine T_reg ?_
  refine T_x (Wx_box rfl rfl rfl (fun g1 => ?_))
  refine T_x (Wx_alloc zer82 rfl (fun g2 => ?_))
  refine T_nil ?_
  refine T_next ?_
  refine T_seq ?_
  refine T_draw [0, 1, 0, 0, 1, 0, 0, 1, 0, 0, 0, 1, 0, 0, 1, 0, 0, 1, 0, 0, 0, 3] [[], [0], [], [], [3], [2, 3, 4], [], [6], [2, 3, 4, 5, 6, 7], [0, 1, 2, 3, 4, 5, 6, 7, 8], [], [10], [], [], [13], [12, 13, 14], [], [16], [12, 13, 14, 15, 16, 17], [10, 11, 12, 13, 14, 15, 16, 17, 18], [0, 1, 2, 3, 4, 5, 6, 7, 8, 9, 10, 11, 12, 13, 14, 15, 16, 17, 18, 19], [0, 1, 2, 3, 4, 5, 6, 7, 8, 9, 10, 11, 12, 13, 14, 15, 16, 17, 18, 19, 20]] (.q 0 (.q 1 (.q 2 (.q 3 (.q 4 (.q 5 (.q 6 (.q 7 (.q 8 (.q 9 (.q 10 (.q 11 (.q 12 (.q 13 (.q 14 (.q 15 (.q 16 (.q 17 (.q 18 (.q 19 (.q 20 (.e 21 (.done) (.stop))))))))))))))))))))))) mixed (by kernel_rfl) (by kernel_rfl) ?_
  refine P_p rfl rfl (Ev_field rfl fld23_0 rfl) rfl ?_
  refine P_q rfl rfl (Ev_load1 rfl (i := 1) rfl rfl one3) rfl ?_
  refine P_p rfl rfl (Ev_move rfl) rfl ?_
  refine P_p rfl rfl (Ev_field rfl fld23_3 rfl) rfl ?_
  refine P_q rfl rfl (Ev_load1 rfl (i := 1) rfl rfl one3) rfl ?_
  obtain ⟨h3, hx4⟩ := gd_some hx
  refine P_p rfl rfl (Ev_rem rfl rfl h3) rfl ?_
  refine P_p rfl rfl (Ev_field rfl fld23_2 rfl) rfl ?_
  refine P_q rfl rfl (Ev_load1 rfl (i := 1) rfl rfl one3) rfl ?_
  refine P_p rfl rfl (Ev_mul_w64 rfl rfl) rfl ?_
  refine P_p rfl rfl (Ev_add_w64 rfl rfl) rfl ?_
  refine P_p rfl rfl (Ev_field rfl fld23_1 rfl) rfl ?_
  refine P_q rfl rfl (Ev_load1 rfl (i := 1) rfl rfl one3) rfl ?_
  refine P_p rfl rfl (Ev_move rfl) rfl ?_
  refine P_p rfl rfl (Ev_field rfl fld23_3 rfl) rfl ?_
  refine P_q rfl rfl (Ev_load1 rfl (i := 1) rfl rfl one3) rfl ?_
  obtain ⟨h5, hx6⟩ := gd_some hx4
  refine P_p rfl rfl (Ev_quo_w64 rfl rfl h5) rfl ?_
  refine P_p rfl rfl (Ev_field rfl fld23_2 rfl) rfl ?_
  refine P_q rfl rfl (Ev_load1 rfl (i := 1) rfl rfl one3) rfl ?_
  refine P_p rfl rfl (Ev_mul_w64 rfl rfl) rfl ?_
  refine P_p rfl rfl (Ev_add_w64 rfl rfl) rfl ?_
  refine P_p rfl rfl (Ev_build rfl (bld82_0i641i64 _ _)) rfl ?_
  refine P_h rfl rfl (Wh_store rfl rfl rfl (.here) (.put (.put (.done))) rfl (List.cons_ne_nil _ _) agg82.2 ?_) ?_
  rotate_left; exact P_stop
  refine P_done ?_
  refine T_next ?_
  refine T_retc ?_
  obtain rfl := Option.some.inj hx6
  exact T_retP (rs := [.cell 4 82]) Try.results56 (.cell rfl (i := 0) rfl rfl agg82 (.nil)) (Ln := []) ⟨rfl, rfl, trivial⟩ (loNil) (by exact .drop 0 rfl (.drop 0 rfl (.refl)))
set_option maxRecDepth 100000 in
theorem model_ValidRaster_ok (p0 : S_api_Raster)  {r : Bool} (hx : model_ValidRaster p0 = some r) (w : World) : CtL Try.prog 46 [.agg #[.int .i64 (p0.X0), .int .i64 (p0.Y0), .int .i64 (p0.Step), .int .i64 (p0.NX), .int .i64 (p0.NY)]] w fun v Ln => v = .bool (r) ∧ Ln = [] ∧ True := by
  refine CtL.mk 48 Try.func46 rfl Try.ntmps46 (by kernel_rfl) rfl ?_
  show T 48 _ [(0, .agg #[.int .i64 (p0.X0), .int .i64 (p0.Y0), .int .i64 (p0.Step), .int .i64 (p0.NX), .int .i64 (p0.NY)])] _
  unfold model_ValidRaster at hx
  refine T_seq ?_
  refine T_reg ?_
  refine T_x (Wx_box rfl rfl rfl (fun g1 => ?_))
  refine T_val (Ev_assign rfl) rfl ?_
  refine T_nil ?_
  refine T_next ?_
  refine T_seq ?_
  obtain ⟨j3, hj3, hx⟩ := jn_some hx
  refine T_cutP (τ := Bool) (γ := Unit) (J := j3) (out := r) (fun s3 y3 => [(1, .pointer (some ⟨g1, 0, none⟩)), (31, .bool (s3))]) (fun s3 y3 => [.m g1 23 [.int .i64 (p0.X0), .int .i64 (p0.Y0), .int .i64 (p0.Step), .int .i64 (p0.NX), .int .i64 (p0.NY)]] ++ [.old w]) (fun s3 y3 => True) ?_ ?_
  · intro s3 y3 hx29 hG30
    subst hj3
    refine T_caseB (s := 31) rfl (fun h31 => ?_) (fun h31 => ?_)
    · have hx32 := ite_t h31 hx29
      refine T_condT rfl ?_
      refine T_seq ?_
      refine T_reg ?_
      refine T_val (Ev_assign rfl) rfl ?_
      refine T_nil ?_
      refine T_next ?_
      refine T_retc ?_
      refine T_outR ?_
      obtain rfl := Option.some.inj hx32
      exact T_retP (rs := [.tmp 2]) Try.results46 (.tmp rfl (.nil)) (Ln := []) ⟨rfl, rfl, trivial⟩ (loNil) (by exact .drop 0 rfl (.refl))
    · have hx33 := ite_bf h31 hx29
      refine T_condF rfl ?_
      refine T_skip ?_
      refine T_next ?_
      refine T_seq ?_
      refine T_reg ?_
      refine T_val (Ev_loadK rfl (i := 0) rfl rfl agg23) rfl ?_
      refine T_val (Ev_field rfl fld23_3 rfl) rfl ?_
      refine T_val (Ev_load1 rfl (i := 0) rfl rfl one3) rfl ?_
      refine T_val (Ev_field rfl fld23_4 rfl) rfl ?_
      refine T_val (Ev_load1 rfl (i := 0) rfl rfl one3) rfl ?_
      refine T_val (Ev_mul_w64 rfl rfl) rfl ?_
      refine T_val (Ev_sub_w64 rfl rfl) rfl ?_
      obtain ⟨r34, h35, hx36⟩ := bnd_some hx33
      refine T_x (Wx_callL rfl (fun w1 hw1 => model_node_ok p0 (w64 ((w64 (p0.NX * p0.NY)) - 1))  h35 w1) rfl ?_)
      rintro _ _ hlo ⟨rfl, rfl, -⟩
      refine T_app0 ?_
      refine T_x (Wx_alloc zer82 rfl (fun g37 => ?_))
      refine T_h (Wh_store rfl rfl rfl (.here) (.put (.put (.done))) rfl (List.cons_ne_nil _ _) agg82.2 ?_)
      refine T_nil ?_
      refine T_next ?_
      obtain ⟨j6, hj6, hx36⟩ := jn_some hx36
      refine T_cutP (τ := Bool) (γ := Unit) (J := j6) (out := r) (fun s6 y6 => [(2, .bool (s6))]) (fun s6 y6 => [] ++ [.old w]) (fun s6 y6 => True) ?_ ?_
      · intro s6 y6 hx47 hG48
        subst hj6
        refine T_retc ?_
        obtain rfl := Option.some.inj hx47
        exact T_retP (rs := [.tmp 2]) Try.results46 (.tmp rfl (.nil)) (Ln := []) ⟨rfl, rfl, trivial⟩ (loNil) (by exact .refl)
      · skip
        refine T_reg ?_
        refine T_val (Ev_field rfl fld82_0 rfl) rfl ?_
        refine T_val (Ev_load1 rfl (i := 0) rfl rfl one3) rfl ?_
        obtain ⟨r38, h39, hx40⟩ := bnd_some hx36
        refine T_x (Wx_callL rfl (fun w1 hw1 => model_validCoord_ok r34.X  h39 w1) rfl ?_)
        rintro _ _ hlo ⟨rfl, rfl, -⟩
        refine T_app0 ?_
        refine T_val (Ev_move rfl) rfl ?_
        refine T_caseB (s := 43) rfl (fun h41 => ?_) (fun h41 => ?_)
        · have hx42 := ite_t h41 hx40
          refine T_valG rfl rfl rfl (Ev_field rfl fld82_1 rfl) rfl ?_
          refine T_valG rfl rfl rfl (Ev_load1 rfl (i := 0) rfl rfl one3) rfl ?_
          obtain ⟨r43, h44, hx45⟩ := bnd_some hx42
          refine T_xG rfl rfl rfl (Wx_callL rfl (fun w1 hw1 => model_validCoord_ok r34.Y  h44 w1) rfl ?_)
          rintro _ _ hlo ⟨rfl, rfl, -⟩
          refine T_app0 ?_
          refine T_val (Ev_pickT rfl rfl) rfl ?_
          refine T_val (Ev_assign rfl) rfl ?_
          refine T_nil ?_
          exact T_metP r43 () hx45 trivial (by exact .cons rfl (.nil)) (by exact .drop 0 rfl (.drop 0 rfl (.refl)))
        · have hx46 := ite_bf h41 hx40
          refine T_skipG rfl rfl rfl rfl rfl ?_
          refine T_skipG rfl rfl rfl rfl rfl ?_
          refine T_skipG rfl rfl rfl rfl rfl ?_
          refine T_val (Ev_pickF rfl rfl) rfl ?_
          refine T_val (Ev_assign rfl) rfl ?_
          refine T_nil ?_
          exact T_metP false () hx46 trivial (by exact .cons rfl (.nil)) (by exact .drop 0 rfl (.drop 0 rfl (.refl)))
  · skip
    refine T_reg ?_
    refine T_val (Ev_field rfl fld23_2 rfl) rfl ?_
    refine T_val (Ev_load1 rfl (i := 0) rfl rfl one3) rfl ?_
    obtain ⟨r2, h3, hx4⟩ := bnd_some hx
    refine T_x (Wx_callL rfl (fun w1 hw1 => model_within_ok 1 p0.Step 1000000  h3 w1) rfl ?_)
    rintro _ _ hlo ⟨rfl, rfl, -⟩
    refine T_app0 ?_
    refine T_val (Ev_not rfl) rfl ?_
    refine T_val (Ev_move rfl) rfl ?_
    refine T_caseNB (s := 8) rfl (fun h5 => ?_) (fun h5 => ?_)
    · have hx6 := ite_bf h5 hx4
      refine T_skipG rfl rfl rfl rfl rfl ?_
      refine T_skipG rfl rfl rfl rfl rfl ?_
      refine T_skipG rfl rfl rfl rfl rfl ?_
      refine T_skipG rfl rfl rfl rfl rfl ?_
      refine T_val (Ev_pickT rfl rfl) rfl ?_
      refine T_val (Ev_move rfl) rfl ?_
      refine T_skipG rfl rfl rfl rfl rfl ?_
      refine T_skipG rfl rfl rfl rfl rfl ?_
      refine T_skipG rfl rfl rfl rfl rfl ?_
      refine T_skipG rfl rfl rfl rfl rfl ?_
      refine T_val (Ev_pickT rfl rfl) rfl ?_
      refine T_val (Ev_move rfl) rfl ?_
      refine T_skipG rfl rfl rfl rfl rfl ?_
      refine T_skipG rfl rfl rfl rfl rfl ?_
      refine T_skipG rfl rfl rfl rfl rfl ?_
      refine T_skipG rfl rfl rfl rfl rfl ?_
      refine T_val (Ev_pickT rfl rfl) rfl ?_
      refine T_val (Ev_move rfl) rfl ?_
      refine T_skipG rfl rfl rfl rfl rfl ?_
      refine T_skipG rfl rfl rfl rfl rfl ?_
      refine T_skipG rfl rfl rfl rfl rfl ?_
      refine T_skipG rfl rfl rfl rfl rfl ?_
      refine T_val (Ev_pickT rfl rfl) rfl ?_
      refine T_nil ?_
      exact T_metP true () hx6 trivial (by exact .cons rfl (.cons rfl (.nil))) (by exact .pick 0 rfl (.refl))
    · have hx7 := ite_t h5 hx4
      refine T_valG rfl rfl rfl (Ev_field rfl fld23_3 rfl) rfl ?_
      refine T_valG rfl rfl rfl (Ev_load1 rfl (i := 0) rfl rfl one3) rfl ?_
      obtain ⟨r8, h9, hx10⟩ := bnd_some hx7
      refine T_xG rfl rfl rfl (Wx_callL rfl (fun w1 hw1 => model_within_ok 1 p0.NX 64  h9 w1) rfl ?_)
      rintro _ _ hlo ⟨rfl, rfl, -⟩
      refine T_app0 ?_
      refine T_valG rfl rfl rfl (Ev_not rfl) rfl ?_
      refine T_val (Ev_pickF rfl rfl) rfl ?_
      refine T_val (Ev_move rfl) rfl ?_
      refine T_caseNB (s := 14) rfl (fun h11 => ?_) (fun h11 => ?_)
      · have hx12 := ite_bf h11 hx10
        refine T_skipG rfl rfl rfl rfl rfl ?_
        refine T_skipG rfl rfl rfl rfl rfl ?_
        refine T_skipG rfl rfl rfl rfl rfl ?_
        refine T_skipG rfl rfl rfl rfl rfl ?_
        refine T_val (Ev_pickT rfl rfl) rfl ?_
        refine T_val (Ev_move rfl) rfl ?_
        refine T_skipG rfl rfl rfl rfl rfl ?_
        refine T_skipG rfl rfl rfl rfl rfl ?_
        refine T_skipG rfl rfl rfl rfl rfl ?_
        refine T_skipG rfl rfl rfl rfl rfl ?_
        refine T_val (Ev_pickT rfl rfl) rfl ?_
        refine T_val (Ev_move rfl) rfl ?_
        refine T_skipG rfl rfl rfl rfl rfl ?_
        refine T_skipG rfl rfl rfl rfl rfl ?_
        refine T_skipG rfl rfl rfl rfl rfl ?_
        refine T_skipG rfl rfl rfl rfl rfl ?_
        refine T_val (Ev_pickT rfl rfl) rfl ?_
        refine T_nil ?_
        exact T_metP true () hx12 trivial (by exact .cons rfl (.cons rfl (.nil))) (by exact .pick 0 rfl (.refl))
      · have hx13 := ite_t h11 hx10
        refine T_valG rfl rfl rfl (Ev_field rfl fld23_4 rfl) rfl ?_
        refine T_valG rfl rfl rfl (Ev_load1 rfl (i := 0) rfl rfl one3) rfl ?_
        obtain ⟨r14, h15, hx16⟩ := bnd_some hx13
        refine T_xG rfl rfl rfl (Wx_callL rfl (fun w1 hw1 => model_within_ok 1 p0.NY 64  h15 w1) rfl ?_)
        rintro _ _ hlo ⟨rfl, rfl, -⟩
        refine T_app0 ?_
        refine T_valG rfl rfl rfl (Ev_not rfl) rfl ?_
        refine T_val (Ev_pickF rfl rfl) rfl ?_
        refine T_val (Ev_move rfl) rfl ?_
        refine T_caseNB (s := 20) rfl (fun h17 => ?_) (fun h17 => ?_)
        · have hx18 := ite_bf h17 hx16
          refine T_skipG rfl rfl rfl rfl rfl ?_
          refine T_skipG rfl rfl rfl rfl rfl ?_
          refine T_skipG rfl rfl rfl rfl rfl ?_
          refine T_skipG rfl rfl rfl rfl rfl ?_
          refine T_val (Ev_pickT rfl rfl) rfl ?_
          refine T_val (Ev_move rfl) rfl ?_
          refine T_skipG rfl rfl rfl rfl rfl ?_
          refine T_skipG rfl rfl rfl rfl rfl ?_
          refine T_skipG rfl rfl rfl rfl rfl ?_
          refine T_skipG rfl rfl rfl rfl rfl ?_
          refine T_val (Ev_pickT rfl rfl) rfl ?_
          refine T_nil ?_
          exact T_metP true () hx18 trivial (by exact .cons rfl (.cons rfl (.nil))) (by exact .pick 0 rfl (.refl))
        · have hx19 := ite_t h17 hx16
          refine T_valG rfl rfl rfl (Ev_field rfl fld23_0 rfl) rfl ?_
          refine T_valG rfl rfl rfl (Ev_load1 rfl (i := 0) rfl rfl one3) rfl ?_
          obtain ⟨r20, h21, hx22⟩ := bnd_some hx19
          refine T_xG rfl rfl rfl (Wx_callL rfl (fun w1 hw1 => model_validCoord_ok p0.X0  h21 w1) rfl ?_)
          rintro _ _ hlo ⟨rfl, rfl, -⟩
          refine T_app0 ?_
          refine T_valG rfl rfl rfl (Ev_not rfl) rfl ?_
          refine T_val (Ev_pickF rfl rfl) rfl ?_
          refine T_val (Ev_move rfl) rfl ?_
          refine T_caseNB (s := 26) rfl (fun h23 => ?_) (fun h23 => ?_)
          · have hx24 := ite_bf h23 hx22
            refine T_skipG rfl rfl rfl rfl rfl ?_
            refine T_skipG rfl rfl rfl rfl rfl ?_
            refine T_skipG rfl rfl rfl rfl rfl ?_
            refine T_skipG rfl rfl rfl rfl rfl ?_
            refine T_val (Ev_pickT rfl rfl) rfl ?_
            refine T_nil ?_
            exact T_metP true () hx24 trivial (by exact .cons rfl (.cons rfl (.nil))) (by exact .pick 0 rfl (.refl))
          · have hx25 := ite_t h23 hx22
            refine T_valG rfl rfl rfl (Ev_field rfl fld23_1 rfl) rfl ?_
            refine T_valG rfl rfl rfl (Ev_load1 rfl (i := 0) rfl rfl one3) rfl ?_
            obtain ⟨r26, h27, hx28⟩ := bnd_some hx25
            refine T_xG rfl rfl rfl (Wx_callL rfl (fun w1 hw1 => model_validCoord_ok p0.Y0  h27 w1) rfl ?_)
            rintro _ _ hlo ⟨rfl, rfl, -⟩
            refine T_app0 ?_
            refine T_valG rfl rfl rfl (Ev_not rfl) rfl ?_
            refine T_val (Ev_pickF rfl rfl) rfl ?_
            refine T_nil ?_
            exact T_metP (!(r26)) () hx28 trivial (by exact .cons rfl (.cons rfl (.nil))) (by exact .pick 0 rfl (.refl))
set_option maxRecDepth 100000 in
theorem model_Valid_ok (p0 : S_api_Grid) {K : List Ent} {A0_0 : Option Addr} {c0_0 : Nat} (ha0 : Has K A0_0 (p0.Cells).length c0_0 3 e_api_Cell (p0.Cells)) {r : Bool} (hx : model_Valid p0 = some r) (w : World) (hK : ∀ e ∈ K, Ent.ok w e) : CtL Try.prog 31 [.agg #[.int .i64 (p0.Raster.X0), .int .i64 (p0.Raster.Y0), .int .i64 (p0.Raster.Step), .int .i64 (p0.Raster.NX), .int .i64 (p0.Raster.NY), .slice (A0_0) ((p0.Cells).length) (c0_0)]] w fun v Ln => v = .bool (r) ∧ Ln = [] ∧ True := by
  have ha0' := Has.up0 ha0
  refine CtL.mk 33 Try.func31 rfl Try.ntmps31 (by kernel_rfl) rfl ?_
  show T 33 _ [(0, .agg #[.int .i64 (p0.Raster.X0), .int .i64 (p0.Raster.Y0), .int .i64 (p0.Raster.Step), .int .i64 (p0.Raster.NX), .int .i64 (p0.Raster.NY), .slice (A0_0) ((p0.Cells).length) (c0_0)])] _
  unfold model_Valid at hx
  refine T_seq ?_
  refine T_reg ?_
  refine T_x (Wx_box rfl rfl rfl (fun g1 => ?_))
  refine T_val (Ev_assign rfl) rfl ?_
  refine T_nil ?_
  refine T_next ?_
  refine T_seq ?_
  obtain ⟨j3, hj3, hx⟩ := jn_some hx
  refine T_cutP (τ := Bool) (γ := Unit) (J := j3) (out := r) (fun s3 y3 => [(1, .pointer (some ⟨g1, 0, none⟩)), (21, .bool (s3))]) (fun s3 y3 => [.m g1 26 [.int .i64 (p0.Raster.X0), .int .i64 (p0.Raster.Y0), .int .i64 (p0.Raster.Step), .int .i64 (p0.Raster.NX), .int .i64 (p0.Raster.NY), .slice (A0_0) ((p0.Cells).length) (c0_0)]] ++ [.old w]) (fun s3 y3 => True) ?_ ?_
  · intro s3 y3 hx8 hG9
    subst hj3
    refine T_caseB (s := 21) rfl (fun h10 => ?_) (fun h10 => ?_)
    · have hx11 := ite_t h10 hx8
      refine T_condT rfl ?_
      refine T_seq ?_
      refine T_reg ?_
      refine T_val (Ev_assign rfl) rfl ?_
      refine T_nil ?_
      refine T_next ?_
      refine T_retc ?_
      refine T_outR ?_
      obtain rfl := Option.some.inj hx11
      exact T_retP (rs := [.tmp 2]) Try.results31 (.tmp rfl (.nil)) (Ln := []) ⟨rfl, rfl, trivial⟩ (loNil) (by exact .drop 0 rfl (.refl))
    · have hx12 := ite_bf h10 hx8
      refine T_condF rfl ?_
      refine T_skip ?_
      refine T_next ?_
      obtain ⟨j5, hj5, hx12⟩ := jn_some hx12
      refine T_cutP (τ := Unit) (γ := Unit) (J := j5) (out := r) (fun s5 y5 => []) (fun s5 y5 => [] ++ [.old w]) (fun s5 y5 => True) ?_ ?_
      · intro s5 y5 hx57 hG58
        subst hj5
        refine T_seq ?_
        refine T_reg ?_
        refine T_val (Ev_assign rfl) rfl ?_
        refine T_nil ?_
        refine T_next ?_
        refine T_retc ?_
        obtain rfl := Option.some.inj hx57
        exact T_retP (rs := [.tmp 2]) Try.results31 (.tmp rfl (.nil)) (Ln := []) ⟨rfl, rfl, trivial⟩ (loNil) (by exact .refl)
      · skip
        refine T_seq ?_
        refine T_reg ?_
        refine T_val (Ev_field rfl fld26_1 rfl) rfl ?_
        refine T_val (Ev_load1 rfl (i := 0) rfl rfl one24) rfl ?_
        refine T_val (Ev_len rfl 39 Try.underlying24) rfl ?_
        refine T_val (Ev_move rfl) rfl ?_
        refine T_nil ?_
        refine T_next ?_
        refine T_block ?_
        obtain ⟨t35, hl35, ho35⟩ := bnd_some hx12
        refine T_loopP (σ := Int) (γ := Unit) hl35 (fun s35 y35 => [(23, .slice (A0_0) ((p0.Cells).length) (c0_0)), (24, .int .i64 ((((p0.Cells).length : Nat) : Int))), (25, .int .i64 (s35))]) (fun s35 y35 => [] ++ [.old w]) (fun s35 y35 => True) () trivial (by exact .cons rfl (.cons rfl (.cons rfl (.nil)))) (by exact .drop 0 rfl (.refl)) ?_
        intro s35 y35 hG35 x35 hx35 ht35
        unfold model_Valid_l4 at hx35
        refine T_seq ?_
        refine T_reg ?_
        refine T_val (Ev_lss rfl rfl) rfl ?_
        refine T_nil ?_
        refine T_next ?_
        refine T_seq ?_
        refine T_caseP (s := 26) rfl (fun h36 => ?_) (fun h36 => ?_)
        · have hx37 := ite_t h36 hx35
          refine T_condT rfl ?_
          refine T_skip ?_
          refine T_next ?_
          refine T_seq ?_
          refine T_block ?_
          refine T_seq ?_
          refine T_reg ?_
          obtain ⟨x39, h40, hx41⟩ := bnd_some hx37
          have hw49 := Has.low (E := []) ha0' hK
          obtain ⟨b42, o43, j44, hA45, hj46, hl47, hp48⟩ := Has.at_idx hw49 h40
          refine T_val (Ev_index rfl rfl hA45 (j := j44) hj46 hl47 slc24) rfl ?_
          refine T_val (Ev_loadPK0 rfl hp48 (SubE.cons2 (i := 0) rfl (SubE.nil)) rfl agg39) rfl ?_
          refine T_x (Wx_alloc zer39 rfl (fun g50 => ?_))
          refine T_h (Wh_store rfl rfl rfl (.here) (.put (.put (.put (.done)))) rfl (List.cons_ne_nil _ _) agg39.2 ?_)
          refine T_nil ?_
          refine T_next ?_
          refine T_seq ?_
          refine T_reg ?_
          refine T_val (Ev_loadK rfl (i := 0) rfl rfl agg39) rfl ?_
          obtain ⟨r51, h52, hx53⟩ := bnd_some hx41
          refine T_x (Wx_callL rfl (fun w1 hw1 => model_validCell_ok x39  h52 w1) rfl ?_)
          rintro _ _ hlo ⟨rfl, rfl, -⟩
          refine T_app0 ?_
          refine T_val (Ev_not rfl) rfl ?_
          refine T_nil ?_
          refine T_next ?_
          refine T_caseNB (s := 31) rfl (fun h54 => ?_) (fun h54 => ?_)
          · have hx55 := ite_bf h54 hx53
            refine T_condT rfl ?_
            refine T_seq ?_
            refine T_reg ?_
            refine T_val (Ev_assign rfl) rfl ?_
            refine T_nil ?_
            refine T_next ?_
            refine T_retc ?_
            refine T_inR ?_
            refine T_outR ?_
            obtain rfl := exit_eq ht35 hx55
            refine T_outR ?_
            refine T_inR ?_
            refine T_outR ?_
            obtain rfl := Option.some.inj ho35
            exact T_retP (rs := [.tmp 2]) Try.results31 (.tmp rfl (.nil)) (Ln := []) ⟨rfl, rfl, trivial⟩ (loNil) (by exact .drop 0 rfl (.refl))
          · have hx56 := ite_t h54 hx53
            refine T_condF rfl ?_
            refine T_skip ?_
            refine T_inN ?_
            refine T_next ?_
            refine T_reg ?_
            refine T_val (Ev_add_w64 rfl rfl) rfl ?_
            refine T_val (Ev_move rfl) rfl ?_
            refine T_nil ?_
            exact T_roundP (w64 (s35 + 1)) () hx56 trivial (by exact .cons rfl (.cons rfl (.cons rfl (.nil)))) (by exact .drop 0 rfl (.refl))
        · have hx38 := ite_f h36 hx35
          refine T_condF rfl ?_
          refine T_exit ?_
          refine T_outX ?_
          obtain rfl := exit_eq ht35 hx38
          refine T_outX ?_
          refine T_here ?_
          exact T_metP () () ho35 trivial (by exact .nil) (by exact .refl)
  · skip
    refine T_reg ?_
    refine T_val (Ev_field rfl fld26_0 rfl) rfl ?_
    refine T_val (Ev_loadK rfl (i := 0) rfl rfl agg23) rfl ?_
    obtain ⟨r2, h3, hx4⟩ := bnd_some hx
    refine T_x (Wx_callL rfl (fun w1 hw1 => model_ValidRaster_ok p0.Raster  h3 w1) rfl ?_)
    rintro _ _ hlo ⟨rfl, rfl, -⟩
    refine T_app0 ?_
    refine T_val (Ev_not rfl) rfl ?_
    refine T_val (Ev_move rfl) rfl ?_
    refine T_caseNB (s := 9) rfl (fun h5 => ?_) (fun h5 => ?_)
    · have hx6 := ite_bf h5 hx4
      refine T_skipG rfl rfl rfl rfl rfl ?_
      refine T_skipG rfl rfl rfl rfl rfl ?_
      refine T_skipG rfl rfl rfl rfl rfl ?_
      refine T_skipG rfl rfl rfl rfl rfl ?_
      refine T_skipG rfl rfl rfl rfl rfl ?_
      refine T_skipG rfl rfl rfl rfl rfl ?_
      refine T_skipG rfl rfl rfl rfl rfl ?_
      refine T_skipG rfl rfl rfl rfl rfl ?_
      refine T_skipG rfl rfl rfl rfl rfl ?_
      refine T_skipG rfl rfl rfl rfl rfl ?_
      refine T_skipG rfl rfl rfl rfl rfl ?_
      refine T_val (Ev_pickT rfl rfl) rfl ?_
      refine T_nil ?_
      exact T_metP true () hx6 trivial (by exact .cons rfl (.cons rfl (.nil))) (by exact .pick 0 rfl (.refl))
    · have hx7 := ite_t h5 hx4
      refine T_valG rfl rfl rfl (Ev_field rfl fld26_1 rfl) rfl ?_
      refine T_valG rfl rfl rfl (Ev_load1 rfl (i := 0) rfl rfl one24) rfl ?_
      refine T_valG rfl rfl rfl (Ev_len rfl 39 Try.underlying24) rfl ?_
      refine T_valG rfl rfl rfl (Ev_field rfl fld26_0 rfl) rfl ?_
      refine T_valG rfl rfl rfl (Ev_field rfl fld23_3 rfl) rfl ?_
      refine T_valG rfl rfl rfl (Ev_load1 rfl (i := 0) rfl rfl one3) rfl ?_
      refine T_valG rfl rfl rfl (Ev_field rfl fld26_0 rfl) rfl ?_
      refine T_valG rfl rfl rfl (Ev_field rfl fld23_4 rfl) rfl ?_
      refine T_valG rfl rfl rfl (Ev_load1 rfl (i := 0) rfl rfl one3) rfl ?_
      refine T_valG rfl rfl rfl (Ev_mul_w64 rfl rfl) rfl ?_
      refine T_valG rfl rfl rfl (Ev_neq rfl rfl) rfl ?_
      refine T_val (Ev_pickF rfl rfl) rfl ?_
      refine T_nil ?_
      exact T_metP (!(decide (((((p0.Cells).length : Nat) : Int)) = (w64 (p0.Raster.NX * p0.Raster.NY))))) () hx7 trivial (by exact .cons rfl (.cons rfl (.nil))) (by exact .pick 0 rfl (.refl))
set_option maxRecDepth 100000 in
theorem model_pair_ok (p0 : S_api_Grid) (p1 : S_api_Grid) {K : List Ent} {A0_0 : Option Addr} {c0_0 : Nat} {A0_1 : Option Addr} {c0_1 : Nat} (ha0 : Has K A0_0 (p0.Cells).length c0_0 3 e_api_Cell (p0.Cells)) (ha1 : Has K A0_1 (p1.Cells).length c0_1 3 e_api_Cell (p1.Cells)) {r : Int} (hx : model_pair p0 p1 = some r) (w : World) (hK : ∀ e ∈ K, Ent.ok w e) : CtL Try.prog 15 [.agg #[.int .i64 (p0.Raster.X0), .int .i64 (p0.Raster.Y0), .int .i64 (p0.Raster.Step), .int .i64 (p0.Raster.NX), .int .i64 (p0.Raster.NY), .slice (A0_0) ((p0.Cells).length) (c0_0)], .agg #[.int .i64 (p1.Raster.X0), .int .i64 (p1.Raster.Y0), .int .i64 (p1.Raster.Step), .int .i64 (p1.Raster.NX), .int .i64 (p1.Raster.NY), .slice (A0_1) ((p1.Cells).length) (c0_1)]] w fun v Ln => v = .int .i64 (r) ∧ Ln = [] ∧ True := by
  have ha0' := Has.up0 ha0
  have ha1' := Has.up0 ha1
  refine CtL.mk 20 Try.func15 rfl Try.ntmps15 (by kernel_rfl) rfl ?_
  show T 20 _ [(0, .agg #[.int .i64 (p0.Raster.X0), .int .i64 (p0.Raster.Y0), .int .i64 (p0.Raster.Step), .int .i64 (p0.Raster.NX), .int .i64 (p0.Raster.NY), .slice (A0_0) ((p0.Cells).length) (c0_0)]), (1, .agg #[.int .i64 (p1.Raster.X0), .int .i64 (p1.Raster.Y0), .int .i64 (p1.Raster.Step), .int .i64 (p1.Raster.NX), .int .i64 (p1.Raster.NY), .slice (A0_1) ((p1.Cells).length) (c0_1)])] _
  unfold model_pair at hx
  refine T_seq ?_
  refine T_reg ?_
  refine T_x (Wx_box rfl rfl rfl (fun g1 => ?_))
  refine T_x (Wx_box rfl rfl rfl (fun g2 => ?_))
  refine T_val (Ev_assign rfl) rfl ?_
  refine T_nil ?_
  refine T_next ?_
  refine T_seq ?_
  refine T_block ?_
  obtain ⟨j3, hj3, hx⟩ := jn_some hx
  refine T_cutP (τ := Bool) (γ := Unit) (J := j3) (out := r) (fun s3 y3 => [(2, .pointer (some ⟨g1, 0, none⟩)), (3, .pointer (some ⟨g2, 0, none⟩)), (5, .bool (s3))]) (fun s3 y3 => [.m g2 26 [.int .i64 (p1.Raster.X0), .int .i64 (p1.Raster.Y0), .int .i64 (p1.Raster.Step), .int .i64 (p1.Raster.NX), .int .i64 (p1.Raster.NY), .slice (A0_1) ((p1.Cells).length) (c0_1)], .m g1 26 [.int .i64 (p0.Raster.X0), .int .i64 (p0.Raster.Y0), .int .i64 (p0.Raster.Step), .int .i64 (p0.Raster.NX), .int .i64 (p0.Raster.NY), .slice (A0_0) ((p0.Cells).length) (c0_0)]] ++ [.old w]) (fun s3 y3 => True) ?_ ?_
  · intro s3 y3 hx12 hG13
    subst hj3
    refine T_caseB (s := 5) rfl (fun h14 => ?_) (fun h14 => ?_)
    · have hx15 := ite_t h14 hx12
      refine T_condT rfl ?_
      refine T_seq ?_
      refine T_reg ?_
      refine T_val (Ev_assign rfl) rfl ?_
      refine T_nil ?_
      refine T_next ?_
      refine T_retc ?_
      refine T_inR ?_
      refine T_outR ?_
      obtain rfl := Option.some.inj hx15
      exact T_retP (rs := [.tmp 4]) Try.results15 (.tmp rfl (.nil)) (Ln := []) ⟨rfl, rfl, trivial⟩ (loNil) (by exact .drop 0 rfl (.drop 0 rfl (.refl)))
    · have hx16 := ite_bf h14 hx12
      refine T_condF rfl ?_
      refine T_seq ?_
      refine T_reg ?_
      refine T_val (Ev_field rfl fld26_0 rfl) rfl ?_
      refine T_val (Ev_loadK rfl (i := 1) rfl rfl agg23) rfl ?_
      refine T_val (Ev_field rfl fld26_0 rfl) rfl ?_
      refine T_val (Ev_loadK rfl (i := 0) rfl rfl agg23) rfl ?_
      refine T_val (Ev_neqS rfl rfl (by kernel_rfl) (seq23 _ _ _ _ _ _ _ _ _ _)) rfl ?_
      refine T_val (Ev_assign rfl) rfl ?_
      refine T_nil ?_
      refine T_next ?_
      refine T_caseNB (s := 14) rfl (fun h17 => ?_) (fun h17 => ?_)
      · have hx18 := ite_bf h17 hx16
        refine T_condT rfl ?_
        refine T_seq ?_
        refine T_reg ?_
        refine T_val (Ev_assign rfl) rfl ?_
        refine T_nil ?_
        refine T_next ?_
        refine T_retc ?_
        refine T_inR ?_
        refine T_outR ?_
        obtain rfl := Option.some.inj hx18
        exact T_retP (rs := [.tmp 4]) Try.results15 (.tmp rfl (.nil)) (Ln := []) ⟨rfl, rfl, trivial⟩ (loNil) (by exact .drop 0 rfl (.drop 0 rfl (.refl)))
      · have hx19 := ite_t h17 hx16
        refine T_condF rfl ?_
        refine T_skip ?_
        refine T_inN ?_
        refine T_next ?_
        refine T_seq ?_
        refine T_reg ?_
        refine T_val (Ev_assign rfl) rfl ?_
        refine T_nil ?_
        refine T_next ?_
        refine T_retc ?_
        obtain rfl := Option.some.inj hx19
        exact T_retP (rs := [.tmp 4]) Try.results15 (.tmp rfl (.nil)) (Ln := []) ⟨rfl, rfl, trivial⟩ (loNil) (by exact .drop 0 rfl (.drop 0 rfl (.refl)))
  · skip
    refine T_reg ?_
    refine T_val (Ev_loadK rfl (i := 1) rfl rfl agg26) rfl ?_
    obtain ⟨r3, h4, hx5⟩ := bnd_some hx
    refine T_x (Wx_callL rfl (fun w1 hw1 => model_Valid_ok p0 (Has.len' ha0') h4 w1 (okApp (K := K) (K2 := []) hK (by exact (SubE.cons2 (i := 2) rfl (SubE.nil))) (by exact (SubE.nil)) hw1)) rfl ?_)
    rintro _ _ hlo ⟨rfl, rfl, -⟩
    refine T_app0 ?_
    refine T_val (Ev_not rfl) rfl ?_
    refine T_val (Ev_move rfl) rfl ?_
    refine T_caseNB (s := 9) rfl (fun h6 => ?_) (fun h6 => ?_)
    · have hx7 := ite_bf h6 hx5
      refine T_skipG rfl rfl rfl rfl rfl ?_
      refine T_skipG rfl rfl rfl rfl rfl ?_
      refine T_skipG rfl rfl rfl rfl rfl ?_
      refine T_val (Ev_pickT rfl rfl) rfl ?_
      refine T_val (Ev_assign rfl) rfl ?_
      refine T_nil ?_
      exact T_metP true () hx7 trivial (by exact .cons rfl (.cons rfl (.cons rfl (.nil)))) (by exact .pick 0 rfl (.pick 0 rfl (.refl)))
    · have hx8 := ite_t h6 hx5
      refine T_valG rfl rfl rfl (Ev_loadK rfl (i := 0) rfl rfl agg26) rfl ?_
      obtain ⟨r9, h10, hx11⟩ := bnd_some hx8
      refine T_xG rfl rfl rfl (Wx_callL rfl (fun w1 hw1 => model_Valid_ok p1 (Has.len' ha1') h10 w1 (okApp (K := K) (K2 := []) hK (by exact (SubE.cons2 (i := 2) rfl (SubE.nil))) (by exact (SubE.nil)) hw1)) rfl ?_)
      rintro _ _ hlo ⟨rfl, rfl, -⟩
      refine T_app0 ?_
      refine T_valG rfl rfl rfl (Ev_not rfl) rfl ?_
      refine T_val (Ev_pickF rfl rfl) rfl ?_
      refine T_val (Ev_assign rfl) rfl ?_
      refine T_nil ?_
      exact T_metP (!(r9)) () hx11 trivial (by exact .cons rfl (.cons rfl (.cons rfl (.nil)))) (by exact .pick 0 rfl (.pick 0 rfl (.refl)))
set_option maxRecDepth 100000 in
theorem lidarref01_Place_ok (p0 : S_api_XY)  {r : Bool} (hx : lidarref01_Place p0 = some r) (w : World) : CtL Try.prog 28 [.agg #[.int .i64 (p0.X), .int .i64 (p0.Y)]] w fun v Ln => v = .bool (r) ∧ Ln = [] ∧ True := by
  refine CtL.mk 21 Try.func28 rfl Try.ntmps28 (by kernel_rfl) rfl ?_
  show T 21 _ [(0, .agg #[.int .i64 (p0.X), .int .i64 (p0.Y)])] _
  unfold lidarref01_Place at hx
  refine T_seq ?_
  refine T_reg ?_
  refine T_x (Wx_box rfl rfl rfl (fun g1 => ?_))
  refine T_val (Ev_assign rfl) rfl ?_
  refine T_nil ?_
  refine T_next ?_
  obtain ⟨j2, hj2, hx⟩ := jn_some hx
  refine T_cutP (τ := Bool) (γ := Unit) (J := j2) (out := r) (fun s2 y2 => [(2, .bool (s2))]) (fun s2 y2 => [] ++ [.old w]) (fun s2 y2 => True) ?_ ?_
  · intro s2 y2 hx11 hG12
    subst hj2
    refine T_retc ?_
    obtain rfl := Option.some.inj hx11
    exact T_retP (rs := [.tmp 2]) Try.results28 (.tmp rfl (.nil)) (Ln := []) ⟨rfl, rfl, trivial⟩ (loNil) (by exact .refl)
  · skip
    refine T_reg ?_
    refine T_val (Ev_field rfl fld82_0 rfl) rfl ?_
    refine T_val (Ev_load1 rfl (i := 0) rfl rfl one3) rfl ?_
    refine T_val (Ev_leq rfl rfl) rfl ?_
    refine T_val (Ev_move rfl) rfl ?_
    refine T_caseP (s := 6) rfl (fun h2 => ?_) (fun h2 => ?_)
    · have hx3 := ite_t h2 hx
      refine T_valG rfl rfl rfl (Ev_field rfl fld82_0 rfl) rfl ?_
      refine T_valG rfl rfl rfl (Ev_load1 rfl (i := 0) rfl rfl one3) rfl ?_
      refine T_valG rfl rfl rfl (Ev_leq rfl rfl) rfl ?_
      refine T_val (Ev_pickT rfl rfl) rfl ?_
      refine T_val (Ev_move rfl) rfl ?_
      refine T_caseP (s := 11) rfl (fun h4 => ?_) (fun h4 => ?_)
      · have hx5 := ite_t h4 hx3
        refine T_valG rfl rfl rfl (Ev_field rfl fld82_1 rfl) rfl ?_
        refine T_valG rfl rfl rfl (Ev_load1 rfl (i := 0) rfl rfl one3) rfl ?_
        refine T_valG rfl rfl rfl (Ev_leq rfl rfl) rfl ?_
        refine T_val (Ev_pickT rfl rfl) rfl ?_
        refine T_val (Ev_move rfl) rfl ?_
        refine T_caseP (s := 16) rfl (fun h6 => ?_) (fun h6 => ?_)
        · have hx7 := ite_t h6 hx5
          refine T_valG rfl rfl rfl (Ev_field rfl fld82_1 rfl) rfl ?_
          refine T_valG rfl rfl rfl (Ev_load1 rfl (i := 0) rfl rfl one3) rfl ?_
          refine T_valG rfl rfl rfl (Ev_leq rfl rfl) rfl ?_
          refine T_val (Ev_pickT rfl rfl) rfl ?_
          refine T_val (Ev_assign rfl) rfl ?_
          refine T_nil ?_
          exact T_metP (decide (p0.Y ≤ 268435456)) () hx7 trivial (by exact .cons rfl (.nil)) (by exact .drop 0 rfl (.refl))
        · have hx8 := ite_f h6 hx5
          refine T_skipG rfl rfl rfl rfl rfl ?_
          refine T_skipG rfl rfl rfl rfl rfl ?_
          refine T_skipG rfl rfl rfl rfl rfl ?_
          refine T_val (Ev_pickF rfl rfl) rfl ?_
          refine T_val (Ev_assign rfl) rfl ?_
          refine T_nil ?_
          exact T_metP false () hx8 trivial (by exact .cons rfl (.nil)) (by exact .drop 0 rfl (.refl))
      · have hx9 := ite_f h4 hx3
        refine T_skipG rfl rfl rfl rfl rfl ?_
        refine T_skipG rfl rfl rfl rfl rfl ?_
        refine T_skipG rfl rfl rfl rfl rfl ?_
        refine T_val (Ev_pickF rfl rfl) rfl ?_
        refine T_val (Ev_move rfl) rfl ?_
        refine T_skipG rfl rfl rfl rfl rfl ?_
        refine T_skipG rfl rfl rfl rfl rfl ?_
        refine T_skipG rfl rfl rfl rfl rfl ?_
        refine T_val (Ev_pickF rfl rfl) rfl ?_
        refine T_val (Ev_assign rfl) rfl ?_
        refine T_nil ?_
        exact T_metP false () hx9 trivial (by exact .cons rfl (.nil)) (by exact .drop 0 rfl (.refl))
    · have hx10 := ite_f h2 hx
      refine T_skipG rfl rfl rfl rfl rfl ?_
      refine T_skipG rfl rfl rfl rfl rfl ?_
      refine T_skipG rfl rfl rfl rfl rfl ?_
      refine T_val (Ev_pickF rfl rfl) rfl ?_
      refine T_val (Ev_move rfl) rfl ?_
      refine T_skipG rfl rfl rfl rfl rfl ?_
      refine T_skipG rfl rfl rfl rfl rfl ?_
      refine T_skipG rfl rfl rfl rfl rfl ?_
      refine T_val (Ev_pickF rfl rfl) rfl ?_
      refine T_val (Ev_move rfl) rfl ?_
      refine T_skipG rfl rfl rfl rfl rfl ?_
      refine T_skipG rfl rfl rfl rfl rfl ?_
      refine T_skipG rfl rfl rfl rfl rfl ?_
      refine T_val (Ev_pickF rfl rfl) rfl ?_
      refine T_val (Ev_assign rfl) rfl ?_
      refine T_nil ?_
      exact T_metP false () hx10 trivial (by exact .cons rfl (.nil)) (by exact .drop 0 rfl (.refl))
set_option maxRecDepth 100000 in
theorem lidarref09_ValidRaster_ok (p0 : S_api_Raster)  {r : Bool} (hx : lidarref09_ValidRaster p0 = some r) (w : World) : CtL Try.prog 13 [.agg #[.int .i64 (p0.X0), .int .i64 (p0.Y0), .int .i64 (p0.Step), .int .i64 (p0.NX), .int .i64 (p0.NY)]] w fun v Ln => v = .bool (r) ∧ Ln = [] ∧ True := by
  refine CtL.mk 60 Try.func13 rfl Try.ntmps13 (by kernel_rfl) rfl ?_
  show T 60 _ [(0, .agg #[.int .i64 (p0.X0), .int .i64 (p0.Y0), .int .i64 (p0.Step), .int .i64 (p0.NX), .int .i64 (p0.NY)])] _
  unfold lidarref09_ValidRaster at hx
  refine T_seq ?_
  refine T_reg ?_
  refine T_x (Wx_box rfl rfl rfl (fun g1 => ?_))
  refine T_val (Ev_assign rfl) rfl ?_
  refine T_nil ?_
  refine T_next ?_
  refine T_seq ?_
  obtain ⟨j3, hj3, hx⟩ := jn_some hx
  refine T_cutP (τ := Bool) (γ := Unit) (J := j3) (out := r) (fun s3 y3 => [(1, .pointer (some ⟨g1, 0, none⟩)), (39, .bool (s3))]) (fun s3 y3 => [.m g1 23 [.int .i64 (p0.X0), .int .i64 (p0.Y0), .int .i64 (p0.Step), .int .i64 (p0.NX), .int .i64 (p0.NY)]] ++ [.old w]) (fun s3 y3 => True) ?_ ?_
  · intro s3 y3 hx23 hG24
    subst hj3
    refine T_caseB (s := 39) rfl (fun h25 => ?_) (fun h25 => ?_)
    · have hx26 := ite_t h25 hx23
      refine T_condT rfl ?_
      refine T_seq ?_
      refine T_reg ?_
      refine T_val (Ev_assign rfl) rfl ?_
      refine T_nil ?_
      refine T_next ?_
      refine T_retc ?_
      refine T_outR ?_
      obtain rfl := Option.some.inj hx26
      exact T_retP (rs := [.tmp 2]) Try.results13 (.tmp rfl (.nil)) (Ln := []) ⟨rfl, rfl, trivial⟩ (loNil) (by exact .drop 0 rfl (.refl))
    · have hx27 := ite_bf h25 hx23
      refine T_condF rfl ?_
      refine T_skip ?_
      refine T_next ?_
      refine T_seq ?_
      refine T_reg ?_
      refine T_val (Ev_field rfl fld23_0 rfl) rfl ?_
      refine T_val (Ev_load1 rfl (i := 0) rfl rfl one3) rfl ?_
      refine T_val (Ev_field rfl fld23_3 rfl) rfl ?_
      refine T_val (Ev_load1 rfl (i := 0) rfl rfl one3) rfl ?_
      refine T_val (Ev_sub_w64 rfl rfl) rfl ?_
      refine T_val (Ev_field rfl fld23_2 rfl) rfl ?_
      refine T_val (Ev_load1 rfl (i := 0) rfl rfl one3) rfl ?_
      refine T_val (Ev_mul_w64 rfl rfl) rfl ?_
      refine T_val (Ev_add_w64 rfl rfl) rfl ?_
      refine T_val (Ev_field rfl fld23_1 rfl) rfl ?_
      refine T_val (Ev_load1 rfl (i := 0) rfl rfl one3) rfl ?_
      refine T_val (Ev_field rfl fld23_4 rfl) rfl ?_
      refine T_val (Ev_load1 rfl (i := 0) rfl rfl one3) rfl ?_
      refine T_val (Ev_sub_w64 rfl rfl) rfl ?_
      refine T_val (Ev_field rfl fld23_2 rfl) rfl ?_
      refine T_val (Ev_load1 rfl (i := 0) rfl rfl one3) rfl ?_
      refine T_val (Ev_mul_w64 rfl rfl) rfl ?_
      refine T_val (Ev_add_w64 rfl rfl) rfl ?_
      refine T_val (Ev_build rfl (bld82_0i641i64 _ _)) rfl ?_
      obtain ⟨r28, h29, hx30⟩ := bnd_some hx27
      refine T_x (Wx_callL rfl (fun w1 hw1 => lidarref01_Place_ok (⟨w64 (p0.X0 + (w64 ((w64 (p0.NX - 1)) * p0.Step))), w64 (p0.Y0 + (w64 ((w64 (p0.NY - 1)) * p0.Step)))⟩ : S_api_XY)  h29 w1) rfl ?_)
      rintro _ _ hlo ⟨rfl, rfl, -⟩
      refine T_app0 ?_
      refine T_val (Ev_assign rfl) rfl ?_
      refine T_nil ?_
      refine T_next ?_
      refine T_retc ?_
      obtain rfl := Option.some.inj hx30
      exact T_retP (rs := [.tmp 2]) Try.results13 (.tmp rfl (.nil)) (Ln := []) ⟨rfl, rfl, trivial⟩ (loNil) (by exact .drop 0 rfl (.refl))
  · skip
    refine T_reg ?_
    refine T_val (Ev_field rfl fld23_2 rfl) rfl ?_
    refine T_val (Ev_load1 rfl (i := 0) rfl rfl one3) rfl ?_
    refine T_val (Ev_lss rfl rfl) rfl ?_
    refine T_val (Ev_move rfl) rfl ?_
    refine T_caseP (s := 6) rfl (fun h2 => ?_) (fun h2 => ?_)
    · have hx3 := ite_t h2 hx
      refine T_skipG rfl rfl rfl rfl rfl ?_
      refine T_skipG rfl rfl rfl rfl rfl ?_
      refine T_skipG rfl rfl rfl rfl rfl ?_
      refine T_val (Ev_pickT rfl rfl) rfl ?_
      refine T_val (Ev_move rfl) rfl ?_
      refine T_skipG rfl rfl rfl rfl rfl ?_
      refine T_skipG rfl rfl rfl rfl rfl ?_
      refine T_skipG rfl rfl rfl rfl rfl ?_
      refine T_val (Ev_pickT rfl rfl) rfl ?_
      refine T_val (Ev_move rfl) rfl ?_
      refine T_skipG rfl rfl rfl rfl rfl ?_
      refine T_skipG rfl rfl rfl rfl rfl ?_
      refine T_skipG rfl rfl rfl rfl rfl ?_
      refine T_val (Ev_pickT rfl rfl) rfl ?_
      refine T_val (Ev_move rfl) rfl ?_
      refine T_skipG rfl rfl rfl rfl rfl ?_
      refine T_skipG rfl rfl rfl rfl rfl ?_
      refine T_skipG rfl rfl rfl rfl rfl ?_
      refine T_val (Ev_pickT rfl rfl) rfl ?_
      refine T_val (Ev_move rfl) rfl ?_
      refine T_skipG rfl rfl rfl rfl rfl ?_
      refine T_skipG rfl rfl rfl rfl rfl ?_
      refine T_skipG rfl rfl rfl rfl rfl ?_
      refine T_val (Ev_pickT rfl rfl) rfl ?_
      refine T_val (Ev_move rfl) rfl ?_
      refine T_skipG rfl rfl rfl rfl rfl ?_
      refine T_skipG rfl rfl rfl rfl rfl ?_
      refine T_skipG rfl rfl rfl rfl rfl ?_
      refine T_skipG rfl rfl rfl rfl rfl ?_
      refine T_skipG rfl rfl rfl rfl rfl ?_
      refine T_skipG rfl rfl rfl rfl rfl ?_
      refine T_skipG rfl rfl rfl rfl rfl ?_
      refine T_val (Ev_pickT rfl rfl) rfl ?_
      refine T_nil ?_
      exact T_metP true () hx3 trivial (by exact .cons rfl (.cons rfl (.nil))) (by exact .pick 0 rfl (.refl))
    · have hx4 := ite_f h2 hx
      refine T_valG rfl rfl rfl (Ev_field rfl fld23_2 rfl) rfl ?_
      refine T_valG rfl rfl rfl (Ev_load1 rfl (i := 0) rfl rfl one3) rfl ?_
      refine T_valG rfl rfl rfl (Ev_gtr rfl rfl) rfl ?_
      refine T_val (Ev_pickF rfl rfl) rfl ?_
      refine T_val (Ev_move rfl) rfl ?_
      refine T_caseP (s := 11) rfl (fun h5 => ?_) (fun h5 => ?_)
      · have hx6 := ite_t h5 hx4
        refine T_skipG rfl rfl rfl rfl rfl ?_
        refine T_skipG rfl rfl rfl rfl rfl ?_
        refine T_skipG rfl rfl rfl rfl rfl ?_
        refine T_val (Ev_pickT rfl rfl) rfl ?_
        refine T_val (Ev_move rfl) rfl ?_
        refine T_skipG rfl rfl rfl rfl rfl ?_
        refine T_skipG rfl rfl rfl rfl rfl ?_
        refine T_skipG rfl rfl rfl rfl rfl ?_
        refine T_val (Ev_pickT rfl rfl) rfl ?_
        refine T_val (Ev_move rfl) rfl ?_
        refine T_skipG rfl rfl rfl rfl rfl ?_
        refine T_skipG rfl rfl rfl rfl rfl ?_
        refine T_skipG rfl rfl rfl rfl rfl ?_
        refine T_val (Ev_pickT rfl rfl) rfl ?_
        refine T_val (Ev_move rfl) rfl ?_
        refine T_skipG rfl rfl rfl rfl rfl ?_
        refine T_skipG rfl rfl rfl rfl rfl ?_
        refine T_skipG rfl rfl rfl rfl rfl ?_
        refine T_val (Ev_pickT rfl rfl) rfl ?_
        refine T_val (Ev_move rfl) rfl ?_
        refine T_skipG rfl rfl rfl rfl rfl ?_
        refine T_skipG rfl rfl rfl rfl rfl ?_
        refine T_skipG rfl rfl rfl rfl rfl ?_
        refine T_skipG rfl rfl rfl rfl rfl ?_
        refine T_skipG rfl rfl rfl rfl rfl ?_
        refine T_skipG rfl rfl rfl rfl rfl ?_
        refine T_skipG rfl rfl rfl rfl rfl ?_
        refine T_val (Ev_pickT rfl rfl) rfl ?_
        refine T_nil ?_
        exact T_metP true () hx6 trivial (by exact .cons rfl (.cons rfl (.nil))) (by exact .pick 0 rfl (.refl))
      · have hx7 := ite_f h5 hx4
        refine T_valG rfl rfl rfl (Ev_field rfl fld23_3 rfl) rfl ?_
        refine T_valG rfl rfl rfl (Ev_load1 rfl (i := 0) rfl rfl one3) rfl ?_
        refine T_valG rfl rfl rfl (Ev_lss rfl rfl) rfl ?_
        refine T_val (Ev_pickF rfl rfl) rfl ?_
        refine T_val (Ev_move rfl) rfl ?_
        refine T_caseP (s := 16) rfl (fun h8 => ?_) (fun h8 => ?_)
        · have hx9 := ite_t h8 hx7
          refine T_skipG rfl rfl rfl rfl rfl ?_
          refine T_skipG rfl rfl rfl rfl rfl ?_
          refine T_skipG rfl rfl rfl rfl rfl ?_
          refine T_val (Ev_pickT rfl rfl) rfl ?_
          refine T_val (Ev_move rfl) rfl ?_
          refine T_skipG rfl rfl rfl rfl rfl ?_
          refine T_skipG rfl rfl rfl rfl rfl ?_
          refine T_skipG rfl rfl rfl rfl rfl ?_
          refine T_val (Ev_pickT rfl rfl) rfl ?_
          refine T_val (Ev_move rfl) rfl ?_
          refine T_skipG rfl rfl rfl rfl rfl ?_
          refine T_skipG rfl rfl rfl rfl rfl ?_
          refine T_skipG rfl rfl rfl rfl rfl ?_
          refine T_val (Ev_pickT rfl rfl) rfl ?_
          refine T_val (Ev_move rfl) rfl ?_
          refine T_skipG rfl rfl rfl rfl rfl ?_
          refine T_skipG rfl rfl rfl rfl rfl ?_
          refine T_skipG rfl rfl rfl rfl rfl ?_
          refine T_skipG rfl rfl rfl rfl rfl ?_
          refine T_skipG rfl rfl rfl rfl rfl ?_
          refine T_skipG rfl rfl rfl rfl rfl ?_
          refine T_skipG rfl rfl rfl rfl rfl ?_
          refine T_val (Ev_pickT rfl rfl) rfl ?_
          refine T_nil ?_
          exact T_metP true () hx9 trivial (by exact .cons rfl (.cons rfl (.nil))) (by exact .pick 0 rfl (.refl))
        · have hx10 := ite_f h8 hx7
          refine T_valG rfl rfl rfl (Ev_field rfl fld23_3 rfl) rfl ?_
          refine T_valG rfl rfl rfl (Ev_load1 rfl (i := 0) rfl rfl one3) rfl ?_
          refine T_valG rfl rfl rfl (Ev_gtr rfl rfl) rfl ?_
          refine T_val (Ev_pickF rfl rfl) rfl ?_
          refine T_val (Ev_move rfl) rfl ?_
          refine T_caseP (s := 21) rfl (fun h11 => ?_) (fun h11 => ?_)
          · have hx12 := ite_t h11 hx10
            refine T_skipG rfl rfl rfl rfl rfl ?_
            refine T_skipG rfl rfl rfl rfl rfl ?_
            refine T_skipG rfl rfl rfl rfl rfl ?_
            refine T_val (Ev_pickT rfl rfl) rfl ?_
            refine T_val (Ev_move rfl) rfl ?_
            refine T_skipG rfl rfl rfl rfl rfl ?_
            refine T_skipG rfl rfl rfl rfl rfl ?_
            refine T_skipG rfl rfl rfl rfl rfl ?_
            refine T_val (Ev_pickT rfl rfl) rfl ?_
            refine T_val (Ev_move rfl) rfl ?_
            refine T_skipG rfl rfl rfl rfl rfl ?_
            refine T_skipG rfl rfl rfl rfl rfl ?_
            refine T_skipG rfl rfl rfl rfl rfl ?_
            refine T_skipG rfl rfl rfl rfl rfl ?_
            refine T_skipG rfl rfl rfl rfl rfl ?_
            refine T_skipG rfl rfl rfl rfl rfl ?_
            refine T_skipG rfl rfl rfl rfl rfl ?_
            refine T_val (Ev_pickT rfl rfl) rfl ?_
            refine T_nil ?_
            exact T_metP true () hx12 trivial (by exact .cons rfl (.cons rfl (.nil))) (by exact .pick 0 rfl (.refl))
          · have hx13 := ite_f h11 hx10
            refine T_valG rfl rfl rfl (Ev_field rfl fld23_4 rfl) rfl ?_
            refine T_valG rfl rfl rfl (Ev_load1 rfl (i := 0) rfl rfl one3) rfl ?_
            refine T_valG rfl rfl rfl (Ev_lss rfl rfl) rfl ?_
            refine T_val (Ev_pickF rfl rfl) rfl ?_
            refine T_val (Ev_move rfl) rfl ?_
            refine T_caseP (s := 26) rfl (fun h14 => ?_) (fun h14 => ?_)
            · have hx15 := ite_t h14 hx13
              refine T_skipG rfl rfl rfl rfl rfl ?_
              refine T_skipG rfl rfl rfl rfl rfl ?_
              refine T_skipG rfl rfl rfl rfl rfl ?_
              refine T_val (Ev_pickT rfl rfl) rfl ?_
              refine T_val (Ev_move rfl) rfl ?_
              refine T_skipG rfl rfl rfl rfl rfl ?_
              refine T_skipG rfl rfl rfl rfl rfl ?_
              refine T_skipG rfl rfl rfl rfl rfl ?_
              refine T_skipG rfl rfl rfl rfl rfl ?_
              refine T_skipG rfl rfl rfl rfl rfl ?_
              refine T_skipG rfl rfl rfl rfl rfl ?_
              refine T_skipG rfl rfl rfl rfl rfl ?_
              refine T_val (Ev_pickT rfl rfl) rfl ?_
              refine T_nil ?_
              exact T_metP true () hx15 trivial (by exact .cons rfl (.cons rfl (.nil))) (by exact .pick 0 rfl (.refl))
            · have hx16 := ite_f h14 hx13
              refine T_valG rfl rfl rfl (Ev_field rfl fld23_4 rfl) rfl ?_
              refine T_valG rfl rfl rfl (Ev_load1 rfl (i := 0) rfl rfl one3) rfl ?_
              refine T_valG rfl rfl rfl (Ev_gtr rfl rfl) rfl ?_
              refine T_val (Ev_pickF rfl rfl) rfl ?_
              refine T_val (Ev_move rfl) rfl ?_
              refine T_caseP (s := 31) rfl (fun h17 => ?_) (fun h17 => ?_)
              · have hx18 := ite_t h17 hx16
                refine T_skipG rfl rfl rfl rfl rfl ?_
                refine T_skipG rfl rfl rfl rfl rfl ?_
                refine T_skipG rfl rfl rfl rfl rfl ?_
                refine T_skipG rfl rfl rfl rfl rfl ?_
                refine T_skipG rfl rfl rfl rfl rfl ?_
                refine T_skipG rfl rfl rfl rfl rfl ?_
                refine T_skipG rfl rfl rfl rfl rfl ?_
                refine T_val (Ev_pickT rfl rfl) rfl ?_
                refine T_nil ?_
                exact T_metP true () hx18 trivial (by exact .cons rfl (.cons rfl (.nil))) (by exact .pick 0 rfl (.refl))
              · have hx19 := ite_f h17 hx16
                refine T_valG rfl rfl rfl (Ev_field rfl fld23_0 rfl) rfl ?_
                refine T_valG rfl rfl rfl (Ev_load1 rfl (i := 0) rfl rfl one3) rfl ?_
                refine T_valG rfl rfl rfl (Ev_field rfl fld23_1 rfl) rfl ?_
                refine T_valG rfl rfl rfl (Ev_load1 rfl (i := 0) rfl rfl one3) rfl ?_
                refine T_valG rfl rfl rfl (Ev_build rfl (bld82_0i641i64 _ _)) rfl ?_
                obtain ⟨r20, h21, hx22⟩ := bnd_some hx19
                refine T_xG rfl rfl rfl (Wx_callL rfl (fun w1 hw1 => lidarref01_Place_ok (⟨p0.X0, p0.Y0⟩ : S_api_XY)  h21 w1) rfl ?_)
                rintro _ _ hlo ⟨rfl, rfl, -⟩
                refine T_app0 ?_
                refine T_valG rfl rfl rfl (Ev_not rfl) rfl ?_
                refine T_val (Ev_pickF rfl rfl) rfl ?_
                refine T_nil ?_
                exact T_metP (!(r20)) () hx22 trivial (by exact .cons rfl (.cons rfl (.nil))) (by exact .pick 0 rfl (.refl))
set_option maxRecDepth 100000 in
theorem lidarref09_Valid_ok (p0 : S_api_Grid) {K : List Ent} {A0_0 : Option Addr} {c0_0 : Nat} (ha0 : Has K A0_0 (p0.Cells).length c0_0 3 e_api_Cell (p0.Cells)) {r : Bool} (hx : lidarref09_Valid p0 = some r) (w : World) (hK : ∀ e ∈ K, Ent.ok w e) : CtL Try.prog 4 [.agg #[.int .i64 (p0.Raster.X0), .int .i64 (p0.Raster.Y0), .int .i64 (p0.Raster.Step), .int .i64 (p0.Raster.NX), .int .i64 (p0.Raster.NY), .slice (A0_0) ((p0.Cells).length) (c0_0)]] w fun v Ln => v = .bool (r) ∧ Ln = [] ∧ True := by
  have ha0' := Has.up0 ha0
  refine CtL.mk 63 Try.func4 rfl Try.ntmps4 (by kernel_rfl) rfl ?_
  show T 63 _ [(0, .agg #[.int .i64 (p0.Raster.X0), .int .i64 (p0.Raster.Y0), .int .i64 (p0.Raster.Step), .int .i64 (p0.Raster.NX), .int .i64 (p0.Raster.NY), .slice (A0_0) ((p0.Cells).length) (c0_0)])] _
  unfold lidarref09_Valid at hx
  refine T_seq ?_
  refine T_reg ?_
  refine T_x (Wx_box rfl rfl rfl (fun g1 => ?_))
  refine T_val (Ev_assign rfl) rfl ?_
  refine T_nil ?_
  refine T_next ?_
  refine T_seq ?_
  obtain ⟨j3, hj3, hx⟩ := jn_some hx
  refine T_cutP (τ := Bool) (γ := Unit) (J := j3) (out := r) (fun s3 y3 => [(1, .pointer (some ⟨g1, 0, none⟩)), (21, .bool (s3))]) (fun s3 y3 => [.m g1 26 [.int .i64 (p0.Raster.X0), .int .i64 (p0.Raster.Y0), .int .i64 (p0.Raster.Step), .int .i64 (p0.Raster.NX), .int .i64 (p0.Raster.NY), .slice (A0_0) ((p0.Cells).length) (c0_0)]] ++ [.old w]) (fun s3 y3 => True) ?_ ?_
  · intro s3 y3 hx8 hG9
    subst hj3
    refine T_caseB (s := 21) rfl (fun h10 => ?_) (fun h10 => ?_)
    · have hx11 := ite_t h10 hx8
      refine T_condT rfl ?_
      refine T_seq ?_
      refine T_reg ?_
      refine T_val (Ev_assign rfl) rfl ?_
      refine T_nil ?_
      refine T_next ?_
      refine T_retc ?_
      refine T_outR ?_
      obtain rfl := Option.some.inj hx11
      exact T_retP (rs := [.tmp 2]) Try.results4 (.tmp rfl (.nil)) (Ln := []) ⟨rfl, rfl, trivial⟩ (loNil) (by exact .drop 0 rfl (.refl))
    · have hx12 := ite_bf h10 hx8
      refine T_condF rfl ?_
      refine T_skip ?_
      refine T_next ?_
      obtain ⟨j5, hj5, hx12⟩ := jn_some hx12
      refine T_cutP (τ := Unit) (γ := Unit) (J := j5) (out := r) (fun s5 y5 => []) (fun s5 y5 => [] ++ [.old w]) (fun s5 y5 => True) ?_ ?_
      · intro s5 y5 hx91 hG92
        subst hj5
        refine T_seq ?_
        refine T_reg ?_
        refine T_val (Ev_assign rfl) rfl ?_
        refine T_nil ?_
        refine T_next ?_
        refine T_retc ?_
        obtain rfl := Option.some.inj hx91
        exact T_retP (rs := [.tmp 2]) Try.results4 (.tmp rfl (.nil)) (Ln := []) ⟨rfl, rfl, trivial⟩ (loNil) (by exact .refl)
      · skip
        refine T_seq ?_
        refine T_reg ?_
        refine T_val (Ev_assign rfl) rfl ?_
        refine T_nil ?_
        refine T_next ?_
        refine T_block ?_
        obtain ⟨t52, hl52, ho52⟩ := bnd_some hx12
        refine T_loopP (σ := Int) (γ := Unit) hl52 (fun s52 y52 => [(1, .pointer (some ⟨g1, 0, none⟩)), (3, .int .i64 (s52))]) (fun s52 y52 => [.m g1 26 [.int .i64 (p0.Raster.X0), .int .i64 (p0.Raster.Y0), .int .i64 (p0.Raster.Step), .int .i64 (p0.Raster.NX), .int .i64 (p0.Raster.NY), .slice (A0_0) ((p0.Cells).length) (c0_0)]] ++ [.old w]) (fun s52 y52 => True) () trivial (by exact .cons rfl (.cons rfl (.nil))) (by exact .pick 0 rfl (.refl)) ?_
        intro s52 y52 hG52 x52 hx52 ht52
        unfold lidarref09_Valid_l4 at hx52
        refine T_seq ?_
        refine T_seq ?_
        refine T_reg ?_
        refine T_val (Ev_move rfl) rfl ?_
        refine T_val (Ev_field rfl fld26_1 rfl) rfl ?_
        refine T_val (Ev_load1 rfl (i := 0) rfl rfl one24) rfl ?_
        refine T_val (Ev_len rfl 39 Try.underlying24) rfl ?_
        refine T_val (Ev_lss rfl rfl) rfl ?_
        refine T_nil ?_
        refine T_next ?_
        refine T_caseP (s := 26) rfl (fun h53 => ?_) (fun h53 => ?_)
        · have hx54 := ite_t h53 hx52
          refine T_condT rfl ?_
          refine T_skip ?_
          refine T_next ?_
          refine T_seq ?_
          refine T_block ?_
          refine T_seq ?_
          refine T_reg ?_
          refine T_val (Ev_field rfl fld26_1 rfl) rfl ?_
          refine T_val (Ev_load1 rfl (i := 0) rfl rfl one24) rfl ?_
          refine T_val (Ev_move rfl) rfl ?_
          obtain ⟨x56, h57, hx58⟩ := bnd_some hx54
          have hw66 := Has.low (E := []) ha0' hK
          obtain ⟨b59, o60, j61, hA62, hj63, hl64, hp65⟩ := Has.at_idx hw66 h57
          refine T_val (Ev_index rfl rfl hA62 (j := j61) hj63 hl64 slc24) rfl ?_
          refine T_val (Ev_loadPK0 rfl hp65 (SubE.cons2 (i := 1) rfl (SubE.nil)) rfl agg39) rfl ?_
          refine T_x (Wx_alloc zer39 rfl (fun g67 => ?_))
          refine T_h (Wh_store rfl rfl rfl (.here) (.put (.put (.put (.done)))) rfl (List.cons_ne_nil _ _) agg39.2 ?_)
          refine T_nil ?_
          refine T_next ?_
          obtain ⟨j17, hj17, hx58⟩ := jn_some hx58
          refine T_cutP (τ := Bool) (γ := Unit) (J := j17) (out := x52) (fun s17 y17 => [(1, .pointer (some ⟨g1, 0, none⟩)), (3, .int .i64 (s52)), (62, .bool (s17))]) (fun s17 y17 => [.m g1 26 [.int .i64 (p0.Raster.X0), .int .i64 (p0.Raster.Y0), .int .i64 (p0.Raster.Step), .int .i64 (p0.Raster.NX), .int .i64 (p0.Raster.NY), .slice (A0_0) ((p0.Cells).length) (c0_0)]] ++ [.old w]) (fun s17 y17 => True) ?_ ?_
          · intro s17 y17 hx86 hG87
            subst hj17
            refine T_caseB (s := 62) rfl (fun h88 => ?_) (fun h88 => ?_)
            · have hx89 := ite_t h88 hx86
              refine T_condT rfl ?_
              refine T_seq ?_
              refine T_reg ?_
              refine T_val (Ev_assign rfl) rfl ?_
              refine T_nil ?_
              refine T_next ?_
              refine T_retc ?_
              refine T_inR ?_
              refine T_outR ?_
              obtain rfl := exit_eq ht52 hx89
              refine T_outR ?_
              refine T_inR ?_
              refine T_outR ?_
              obtain rfl := Option.some.inj ho52
              exact T_retP (rs := [.tmp 2]) Try.results4 (.tmp rfl (.nil)) (Ln := []) ⟨rfl, rfl, trivial⟩ (loNil) (by exact .drop 0 rfl (.refl))
            · have hx90 := ite_bf h88 hx86
              refine T_condF rfl ?_
              refine T_skip ?_
              refine T_inN ?_
              refine T_next ?_
              refine T_reg ?_
              refine T_val (Ev_move rfl) rfl ?_
              refine T_val (Ev_add_w64 rfl rfl) rfl ?_
              refine T_val (Ev_assign rfl) rfl ?_
              refine T_nil ?_
              exact T_roundP (w64 (s52 + 1)) () hx90 trivial (by exact .cons rfl (.cons rfl (.nil))) (by exact .pick 0 rfl (.refl))
          · skip
            refine T_reg ?_
            refine T_val (Ev_field rfl fld39_0 rfl) rfl ?_
            refine T_val (Ev_load1 rfl (i := 0) rfl rfl one4) rfl ?_
            refine T_val (Ev_move rfl) rfl ?_
            refine T_caseB (s := 36) rfl (fun h68 => ?_) (fun h68 => ?_)
            · have hx69 := ite_t h68 hx58
              refine T_valG rfl rfl rfl (Ev_field rfl fld39_1 rfl) rfl ?_
              refine T_valG rfl rfl rfl (Ev_loadK rfl (i := 0) rfl rfl agg37) rfl ?_
              refine T_valG rfl rfl rfl (Ev_build rfl (bld37_)) rfl ?_
              refine T_valG rfl rfl rfl (Ev_neqS rfl rfl (by kernel_rfl) (seq37 _ _ _ _)) rfl ?_
              refine T_val (Ev_pickT rfl rfl) rfl ?_
              refine T_val (Ev_move rfl) rfl ?_
              refine T_caseNB (s := 42) rfl (fun h70 => ?_) (fun h70 => ?_)
              · have hx71 := ite_bf h70 hx69
                refine T_skipG rfl rfl rfl rfl rfl ?_
                refine T_skipG rfl rfl rfl rfl rfl ?_
                refine T_skipG rfl rfl rfl rfl rfl ?_
                refine T_skipG rfl rfl rfl rfl rfl ?_
                refine T_skipG rfl rfl rfl rfl rfl ?_
                refine T_skipG rfl rfl rfl rfl rfl ?_
                refine T_skipG rfl rfl rfl rfl rfl ?_
                refine T_val (Ev_pickT rfl rfl) rfl ?_
                refine T_val (Ev_move rfl) rfl ?_
                refine T_skipG rfl rfl rfl rfl rfl ?_
                refine T_skipG rfl rfl rfl rfl rfl ?_
                refine T_skipG rfl rfl rfl rfl rfl ?_
                refine T_skipG rfl rfl rfl rfl rfl ?_
                refine T_val (Ev_pickT rfl rfl) rfl ?_
                refine T_val (Ev_move rfl) rfl ?_
                refine T_skipG rfl rfl rfl rfl rfl ?_
                refine T_skipG rfl rfl rfl rfl rfl ?_
                refine T_skipG rfl rfl rfl rfl rfl ?_
                refine T_skipG rfl rfl rfl rfl rfl ?_
                refine T_val (Ev_pickT rfl rfl) rfl ?_
                refine T_nil ?_
                exact T_metP true () hx71 trivial (by exact .cons rfl (.cons rfl (.cons rfl (.nil)))) (by exact .pick 1 rfl (.drop 0 rfl (.refl)))
              · have hx72 := ite_t h70 hx69
                refine T_valG rfl rfl rfl (Ev_field rfl fld39_1 rfl) rfl ?_
                refine T_valG rfl rfl rfl (Ev_field rfl fld37_0 rfl) rfl ?_
                refine T_valG rfl rfl rfl (Ev_load1 rfl (i := 0) rfl rfl one3) rfl ?_
                refine T_valG rfl rfl rfl (Ev_field rfl fld39_1 rfl) rfl ?_
                refine T_valG rfl rfl rfl (Ev_field rfl fld37_1 rfl) rfl ?_
                refine T_valG rfl rfl rfl (Ev_load1 rfl (i := 0) rfl rfl one3) rfl ?_
                refine T_valG rfl rfl rfl (Ev_gtr rfl rfl) rfl ?_
                refine T_val (Ev_pickF rfl rfl) rfl ?_
                refine T_val (Ev_move rfl) rfl ?_
                refine T_caseP (s := 51) rfl (fun h73 => ?_) (fun h73 => ?_)
                · have hx74 := ite_t h73 hx72
                  refine T_skipG rfl rfl rfl rfl rfl ?_
                  refine T_skipG rfl rfl rfl rfl rfl ?_
                  refine T_skipG rfl rfl rfl rfl rfl ?_
                  refine T_skipG rfl rfl rfl rfl rfl ?_
                  refine T_val (Ev_pickT rfl rfl) rfl ?_
                  refine T_val (Ev_move rfl) rfl ?_
                  refine T_skipG rfl rfl rfl rfl rfl ?_
                  refine T_skipG rfl rfl rfl rfl rfl ?_
                  refine T_skipG rfl rfl rfl rfl rfl ?_
                  refine T_skipG rfl rfl rfl rfl rfl ?_
                  refine T_val (Ev_pickT rfl rfl) rfl ?_
                  refine T_nil ?_
                  exact T_metP true () hx74 trivial (by exact .cons rfl (.cons rfl (.cons rfl (.nil)))) (by exact .pick 1 rfl (.drop 0 rfl (.refl)))
                · have hx75 := ite_f h73 hx72
                  refine T_valG rfl rfl rfl (Ev_field rfl fld39_1 rfl) rfl ?_
                  refine T_valG rfl rfl rfl (Ev_field rfl fld37_0 rfl) rfl ?_
                  refine T_valG rfl rfl rfl (Ev_load1 rfl (i := 0) rfl rfl one3) rfl ?_
                  refine T_valG rfl rfl rfl (Ev_lss rfl rfl) rfl ?_
                  refine T_val (Ev_pickF rfl rfl) rfl ?_
                  refine T_val (Ev_move rfl) rfl ?_
                  refine T_caseP (s := 57) rfl (fun h76 => ?_) (fun h76 => ?_)
                  · have hx77 := ite_t h76 hx75
                    refine T_skipG rfl rfl rfl rfl rfl ?_
                    refine T_skipG rfl rfl rfl rfl rfl ?_
                    refine T_skipG rfl rfl rfl rfl rfl ?_
                    refine T_skipG rfl rfl rfl rfl rfl ?_
                    refine T_val (Ev_pickT rfl rfl) rfl ?_
                    refine T_nil ?_
                    exact T_metP true () hx77 trivial (by exact .cons rfl (.cons rfl (.cons rfl (.nil)))) (by exact .pick 1 rfl (.drop 0 rfl (.refl)))
                  · have hx78 := ite_f h76 hx75
                    refine T_valG rfl rfl rfl (Ev_field rfl fld39_1 rfl) rfl ?_
                    refine T_valG rfl rfl rfl (Ev_field rfl fld37_1 rfl) rfl ?_
                    refine T_valG rfl rfl rfl (Ev_load1 rfl (i := 0) rfl rfl one3) rfl ?_
                    refine T_valG rfl rfl rfl (Ev_gtr rfl rfl) rfl ?_
                    refine T_val (Ev_pickF rfl rfl) rfl ?_
                    refine T_nil ?_
                    exact T_metP (decide (268435456 < x56.Z.Hi)) () hx78 trivial (by exact .cons rfl (.cons rfl (.cons rfl (.nil)))) (by exact .pick 1 rfl (.drop 0 rfl (.refl)))
            · have hx79 := ite_bf h68 hx58
              refine T_skipG rfl rfl rfl rfl rfl ?_
              refine T_skipG rfl rfl rfl rfl rfl ?_
              refine T_skipG rfl rfl rfl rfl rfl ?_
              refine T_skipG rfl rfl rfl rfl rfl ?_
              refine T_val (Ev_pickF rfl rfl) rfl ?_
              refine T_val (Ev_move rfl) rfl ?_
              refine T_valG rfl rfl rfl (Ev_field rfl fld39_1 rfl) rfl ?_
              refine T_valG rfl rfl rfl (Ev_field rfl fld37_0 rfl) rfl ?_
              refine T_valG rfl rfl rfl (Ev_load1 rfl (i := 0) rfl rfl one3) rfl ?_
              refine T_valG rfl rfl rfl (Ev_field rfl fld39_1 rfl) rfl ?_
              refine T_valG rfl rfl rfl (Ev_field rfl fld37_1 rfl) rfl ?_
              refine T_valG rfl rfl rfl (Ev_load1 rfl (i := 0) rfl rfl one3) rfl ?_
              refine T_valG rfl rfl rfl (Ev_gtr rfl rfl) rfl ?_
              refine T_val (Ev_pickF rfl rfl) rfl ?_
              refine T_val (Ev_move rfl) rfl ?_
              refine T_caseP (s := 51) rfl (fun h80 => ?_) (fun h80 => ?_)
              · have hx81 := ite_t h80 hx79
                refine T_skipG rfl rfl rfl rfl rfl ?_
                refine T_skipG rfl rfl rfl rfl rfl ?_
                refine T_skipG rfl rfl rfl rfl rfl ?_
                refine T_skipG rfl rfl rfl rfl rfl ?_
                refine T_val (Ev_pickT rfl rfl) rfl ?_
                refine T_val (Ev_move rfl) rfl ?_
                refine T_skipG rfl rfl rfl rfl rfl ?_
                refine T_skipG rfl rfl rfl rfl rfl ?_
                refine T_skipG rfl rfl rfl rfl rfl ?_
                refine T_skipG rfl rfl rfl rfl rfl ?_
                refine T_val (Ev_pickT rfl rfl) rfl ?_
                refine T_nil ?_
                exact T_metP true () hx81 trivial (by exact .cons rfl (.cons rfl (.cons rfl (.nil)))) (by exact .pick 1 rfl (.drop 0 rfl (.refl)))
              · have hx82 := ite_f h80 hx79
                refine T_valG rfl rfl rfl (Ev_field rfl fld39_1 rfl) rfl ?_
                refine T_valG rfl rfl rfl (Ev_field rfl fld37_0 rfl) rfl ?_
                refine T_valG rfl rfl rfl (Ev_load1 rfl (i := 0) rfl rfl one3) rfl ?_
                refine T_valG rfl rfl rfl (Ev_lss rfl rfl) rfl ?_
                refine T_val (Ev_pickF rfl rfl) rfl ?_
                refine T_val (Ev_move rfl) rfl ?_
                refine T_caseP (s := 57) rfl (fun h83 => ?_) (fun h83 => ?_)
                · have hx84 := ite_t h83 hx82
                  refine T_skipG rfl rfl rfl rfl rfl ?_
                  refine T_skipG rfl rfl rfl rfl rfl ?_
                  refine T_skipG rfl rfl rfl rfl rfl ?_
                  refine T_skipG rfl rfl rfl rfl rfl ?_
                  refine T_val (Ev_pickT rfl rfl) rfl ?_
                  refine T_nil ?_
                  exact T_metP true () hx84 trivial (by exact .cons rfl (.cons rfl (.cons rfl (.nil)))) (by exact .pick 1 rfl (.drop 0 rfl (.refl)))
                · have hx85 := ite_f h83 hx82
                  refine T_valG rfl rfl rfl (Ev_field rfl fld39_1 rfl) rfl ?_
                  refine T_valG rfl rfl rfl (Ev_field rfl fld37_1 rfl) rfl ?_
                  refine T_valG rfl rfl rfl (Ev_load1 rfl (i := 0) rfl rfl one3) rfl ?_
                  refine T_valG rfl rfl rfl (Ev_gtr rfl rfl) rfl ?_
                  refine T_val (Ev_pickF rfl rfl) rfl ?_
                  refine T_nil ?_
                  exact T_metP (decide (268435456 < x56.Z.Hi)) () hx85 trivial (by exact .cons rfl (.cons rfl (.cons rfl (.nil)))) (by exact .pick 1 rfl (.drop 0 rfl (.refl)))
        · have hx55 := ite_f h53 hx52
          refine T_condF rfl ?_
          refine T_exit ?_
          refine T_outX ?_
          obtain rfl := exit_eq ht52 hx55
          refine T_outX ?_
          refine T_here ?_
          exact T_metP () () ho52 trivial (by exact .nil) (by exact .drop 0 rfl (.refl))
  · skip
    refine T_reg ?_
    refine T_val (Ev_field rfl fld26_0 rfl) rfl ?_
    refine T_val (Ev_loadK rfl (i := 0) rfl rfl agg23) rfl ?_
    obtain ⟨r2, h3, hx4⟩ := bnd_some hx
    refine T_x (Wx_callL rfl (fun w1 hw1 => lidarref09_ValidRaster_ok p0.Raster  h3 w1) rfl ?_)
    rintro _ _ hlo ⟨rfl, rfl, -⟩
    refine T_app0 ?_
    refine T_val (Ev_not rfl) rfl ?_
    refine T_val (Ev_move rfl) rfl ?_
    refine T_caseNB (s := 9) rfl (fun h5 => ?_) (fun h5 => ?_)
    · have hx6 := ite_bf h5 hx4
      refine T_skipG rfl rfl rfl rfl rfl ?_
      refine T_skipG rfl rfl rfl rfl rfl ?_
      refine T_skipG rfl rfl rfl rfl rfl ?_
      refine T_skipG rfl rfl rfl rfl rfl ?_
      refine T_skipG rfl rfl rfl rfl rfl ?_
      refine T_skipG rfl rfl rfl rfl rfl ?_
      refine T_skipG rfl rfl rfl rfl rfl ?_
      refine T_skipG rfl rfl rfl rfl rfl ?_
      refine T_skipG rfl rfl rfl rfl rfl ?_
      refine T_skipG rfl rfl rfl rfl rfl ?_
      refine T_skipG rfl rfl rfl rfl rfl ?_
      refine T_val (Ev_pickT rfl rfl) rfl ?_
      refine T_nil ?_
      exact T_metP true () hx6 trivial (by exact .cons rfl (.cons rfl (.nil))) (by exact .pick 0 rfl (.refl))
    · have hx7 := ite_t h5 hx4
      refine T_valG rfl rfl rfl (Ev_field rfl fld26_1 rfl) rfl ?_
      refine T_valG rfl rfl rfl (Ev_load1 rfl (i := 0) rfl rfl one24) rfl ?_
      refine T_valG rfl rfl rfl (Ev_len rfl 39 Try.underlying24) rfl ?_
      refine T_valG rfl rfl rfl (Ev_field rfl fld26_0 rfl) rfl ?_
      refine T_valG rfl rfl rfl (Ev_field rfl fld23_3 rfl) rfl ?_
      refine T_valG rfl rfl rfl (Ev_load1 rfl (i := 0) rfl rfl one3) rfl ?_
      refine T_valG rfl rfl rfl (Ev_field rfl fld26_0 rfl) rfl ?_
      refine T_valG rfl rfl rfl (Ev_field rfl fld23_4 rfl) rfl ?_
      refine T_valG rfl rfl rfl (Ev_load1 rfl (i := 0) rfl rfl one3) rfl ?_
      refine T_valG rfl rfl rfl (Ev_mul_w64 rfl rfl) rfl ?_
      refine T_valG rfl rfl rfl (Ev_neq rfl rfl) rfl ?_
      refine T_val (Ev_pickF rfl rfl) rfl ?_
      refine T_nil ?_
      exact T_metP (!(decide (((((p0.Cells).length : Nat) : Int)) = (w64 (p0.Raster.NX * p0.Raster.NY))))) () hx7 trivial (by exact .cons rfl (.cons rfl (.nil))) (by exact .pick 0 rfl (.refl))
set_option maxRecDepth 100000 in
theorem model_states_ok (p0 : S_api_Grid) (p1 : S_api_Grid) {K : List Ent} {A0_0 : Option Addr} {c0_0 : Nat} {A0_1 : Option Addr} {c0_1 : Nat} (ha0 : Has K A0_0 (p0.Cells).length c0_0 3 e_api_Cell (p0.Cells)) (ha1 : Has K A0_1 (p1.Cells).length c0_1 3 e_api_Cell (p1.Cells)) {r : List Int} (hx : model_states p0 p1 = some r) (w : World) (hK : ∀ e ∈ K, Ent.ok w e) : CtL Try.prog 18 [.agg #[.int .i64 (p0.Raster.X0), .int .i64 (p0.Raster.Y0), .int .i64 (p0.Raster.Step), .int .i64 (p0.Raster.NX), .int .i64 (p0.Raster.NY), .slice (A0_0) ((p0.Cells).length) (c0_0)], .agg #[.int .i64 (p1.Raster.X0), .int .i64 (p1.Raster.Y0), .int .i64 (p1.Raster.Step), .int .i64 (p1.Raster.NX), .int .i64 (p1.Raster.NY), .slice (A0_1) ((p1.Cells).length) (c0_1)]] w fun v Ln => ∃ (A0 : Option Addr) (c0 : Nat), v = .slice (A0) ((r).length) (c0) ∧ Ln = [.r A0 (r).length c0 3 1 ((r).flatMap e_i64)] ∧ True := by
  have ha0' := Has.up0 ha0
  have ha1' := Has.up0 ha1
  refine CtL.mk 33 Try.func18 rfl Try.ntmps18 (by kernel_rfl) rfl ?_
  show T 33 _ [(0, .agg #[.int .i64 (p0.Raster.X0), .int .i64 (p0.Raster.Y0), .int .i64 (p0.Raster.Step), .int .i64 (p0.Raster.NX), .int .i64 (p0.Raster.NY), .slice (A0_0) ((p0.Cells).length) (c0_0)]), (1, .agg #[.int .i64 (p1.Raster.X0), .int .i64 (p1.Raster.Y0), .int .i64 (p1.Raster.Step), .int .i64 (p1.Raster.NX), .int .i64 (p1.Raster.NY), .slice (A0_1) ((p1.Cells).length) (c0_1)])] _
  unfold model_states at hx
  refine T_seq ?_
  refine T_reg ?_
  refine T_x (Wx_box rfl rfl rfl (fun g1 => ?_))
  refine T_x (Wx_box rfl rfl rfl (fun g2 => ?_))
  refine T_val (Ev_assign rfl) rfl ?_
  refine T_nil ?_
  refine T_next ?_
  refine T_seq ?_
  refine T_reg ?_
  refine T_val (Ev_field rfl fld26_1 rfl) rfl ?_
  refine T_val (Ev_load1 rfl (i := 1) rfl rfl one24) rfl ?_
  refine T_val (Ev_len rfl 39 Try.underlying24) rfl ?_
  obtain ⟨h4, hx5⟩ := gd_some hx
  refine T_x (Wx_make0 (z := .int .i64 (0)) rfl rfl (m := Int.toNat ((((p0.Cells).length : Nat) : Int))) rfl (by omega) Try.underlying34 (show Try.prog.info? 3 = some Try.t3 from by kernel_rfl) (by kernel_rfl) rfl (by kernel_rfl) (by show 8 * _ ≤ _; omega) (by omega) rfl (fun A3 c6 => ?_))
  refine T_val (Ev_assign rfl) rfl ?_
  refine T_nil ?_
  refine T_next ?_
  obtain ⟨j3, hj3, hx5⟩ := jn_some hx5
  refine T_cutP (τ := List Int) (γ := (Option Addr) × Nat) (J := j3) (out := r) (fun s3 y3 => [(5, .slice (y3.1) ((s3).length) (y3.2))]) (fun s3 y3 => [.r (y3.1) ((s3).length) (y3.2) 3 1 ((s3).flatMap e_i64)] ++ [.old w]) (fun s3 y3 => True) ?_ ?_
  · intro s3 y3 hx79 hG80
    subst hj3
    refine T_seq ?_
    refine T_reg ?_
    refine T_val (Ev_move rfl) rfl ?_
    refine T_val (Ev_assign rfl) rfl ?_
    refine T_nil ?_
    refine T_next ?_
    refine T_retc ?_
    obtain rfl := Option.some.inj hx79
    exact T_retP (rs := [.tmp 4]) Try.results18 (.tmp rfl (.nil)) (Ln := [.r (y3.1) ((s3).length) (y3.2) 3 1 ((s3).flatMap e_i64)]) ⟨y3.1, y3.2, rfl, rfl, trivial⟩ (loCons rfl (loNil)) (by exact .pick 0 rfl (.refl))
  · skip
    refine T_seq ?_
    refine T_reg ?_
    refine T_val (Ev_field rfl fld26_1 rfl) rfl ?_
    refine T_val (Ev_load1 rfl (i := 2) rfl rfl one24) rfl ?_
    refine T_val (Ev_len rfl 39 Try.underlying24) rfl ?_
    refine T_val (Ev_move rfl) rfl ?_
    refine T_nil ?_
    refine T_next ?_
    refine T_block ?_
    obtain ⟨t43, hl43, ho43⟩ := bnd_some hx5
    have hn44 : 0 = (([] : List Int)).length := by simp [setI_len, cpy_len, List.length_append] <;> omega
    refine T_ent (.here) (e' := .r (A3) ((([] : List Int)).length) (c6) 3 1 ((([] : List Int)).flatMap e_i64)) (by first | (rw [← hn44]; done) | rfl) ?_
    refine T_slot (s := 5) (v' := .slice (A3) ((([] : List Int)).length) (c6)) rfl (by have hn45 : (0) = (([] : List Int)).length := (by simp [setI_len, cpy_len, List.length_append] <;> omega); first | (rw [← hn45]; done) | rfl) ?_
    refine T_loopP (σ := (List Int) × Int) (γ := (Option Addr) × Nat) hl43 (fun s43 y43 => [(2, .pointer (some ⟨g1, 0, none⟩)), (3, .pointer (some ⟨g2, 0, none⟩)), (5, .slice (y43.1) ((s43.1).length) (y43.2)), (13, .int .i64 ((((p0.Cells).length : Nat) : Int))), (14, .int .i64 (s43.2))]) (fun s43 y43 => [.r (y43.1) ((s43.1).length) (y43.2) 3 1 ((s43.1).flatMap e_i64), .m g2 26 [.int .i64 (p1.Raster.X0), .int .i64 (p1.Raster.Y0), .int .i64 (p1.Raster.Step), .int .i64 (p1.Raster.NX), .int .i64 (p1.Raster.NY), .slice (A0_1) ((p1.Cells).length) (c0_1)], .m g1 26 [.int .i64 (p0.Raster.X0), .int .i64 (p0.Raster.Y0), .int .i64 (p0.Raster.Step), .int .i64 (p0.Raster.NX), .int .i64 (p0.Raster.NY), .slice (A0_0) ((p0.Cells).length) (c0_0)]] ++ [.old w]) (fun s43 y43 => True) (A3, c6) trivial (by exact .cons rfl (.cons rfl (.cons rfl (.cons rfl (.cons rfl (.nil)))))) (by exact .pick 0 rfl (.pick 0 rfl (.pick 0 rfl (.refl)))) ?_
    intro s43 y43 hG43 x43 hx43 ht43
    unfold model_states_l3 at hx43
    refine T_seq ?_
    refine T_reg ?_
    refine T_val (Ev_lss rfl rfl) rfl ?_
    refine T_nil ?_
    refine T_next ?_
    refine T_seq ?_
    refine T_caseP (s := 15) rfl (fun h46 => ?_) (fun h46 => ?_)
    · have hx47 := ite_t h46 hx43
      refine T_condT rfl ?_
      refine T_skip ?_
      refine T_next ?_
      refine T_seq ?_
      refine T_block ?_
      refine T_seq ?_
      refine T_reg ?_
      refine T_val (Ev_move rfl) rfl ?_
      refine T_val (Ev_assign rfl) rfl ?_
      refine T_nil ?_
      refine T_next ?_
      refine T_draw [0, 0, 1, 0, 0, 1, 0, 1, 0, 0, 1, 2, 2, 3, 2] [[], [], [1], [], [1, 2, 3], [1, 2, 3, 4], [], [6], [], [6, 7, 8], [6, 7, 8, 9], [1, 2, 3, 4, 5, 6, 7, 8, 9, 10], [1, 2, 3, 4, 5, 6, 7, 8, 9, 10, 11], [0, 1, 2, 3, 4, 5, 6, 7, 8, 9, 10, 11, 12], [0, 1, 2, 3, 4, 5, 6, 7, 8, 9, 10, 11, 12, 13]] (.q 0 (.q 1 (.q 2 (.q 3 (.q 4 (.q 5 (.q 6 (.q 7 (.q 8 (.q 9 (.q 10 (.e 11 (.e 12 (.e 13 (.e 14 (.done) (.stop)) (.stop)) (.stop)) (.stop))))))))))))) mixed (by kernel_rfl) (by kernel_rfl) ?_
      refine P_p rfl rfl (Ev_move rfl) rfl ?_
      refine P_p rfl rfl (Ev_field rfl fld26_1 rfl) rfl ?_
      refine P_q rfl rfl (Ev_load1 rfl (i := 2) rfl rfl one24) rfl ?_
      refine P_p rfl rfl (Ev_move rfl) rfl ?_
      obtain ⟨x49, h50, hx51⟩ := bnd_some hx47
      have hw59 := Has.low (E := []) ha0' hK
      obtain ⟨b52, o53, j54, hA55, hj56, hl57, hp58⟩ := Has.at_idx hw59 h50
      refine P_p rfl rfl (Ev_index rfl rfl hA55 (j := j54) hj56 hl57 slc24) rfl ?_
      refine P_q rfl rfl (Ev_loadPK0 rfl hp58 (SubE.cons2 (i := 3) rfl (SubE.nil)) rfl agg39) rfl ?_
      refine P_p rfl rfl (Ev_field rfl fld26_1 rfl) rfl ?_
      refine P_q rfl rfl (Ev_load1 rfl (i := 1) rfl rfl one24) rfl ?_
      refine P_p rfl rfl (Ev_move rfl) rfl ?_
      obtain ⟨x60, h61, hx62⟩ := bnd_some hx51
      have hw70 := Has.low (E := []) ha1' hK
      obtain ⟨b63, o64, j65, hA66, hj67, hl68, hp69⟩ := Has.at_idx hw70 h61
      refine P_p rfl rfl (Ev_index rfl rfl hA66 (j := j65) hj67 hl68 slc24) rfl ?_
      refine P_q rfl rfl (Ev_loadPK0 rfl hp69 (SubE.cons2 (i := 3) rfl (SubE.nil)) rfl agg39) rfl ?_
      obtain ⟨r71, h72, hx73⟩ := bnd_some hx62
      refine P_x rfl (Wx_callL rfl (fun w1 hw1 => model_state_ok x49 x60  h72 w1) rfl ?_) ?_
      rotate_left; exact P_stop
      rintro _ _ hlo ⟨rfl, rfl, -⟩
      refine T_app0 ?_
      refine P_x rfl (Wx_buildSlice rfl (bls34_1_0i64 _) rfl (fun g74 => ?_)) ?_
      rotate_left; exact P_stop
      obtain ⟨h75, hx76⟩ := gd_some hx73
      refine P_h rfl rfl (Wh_appendP e_i64 (s43.1) [r71] rfl rfl rfl elm34 (fun _ => rfl) (i' := 0) rfl rfl rfl rfl h75 rfl (fun _ _ => .there (.here)) (fun _ _ => .drop .refl) (by decide) (fun A77 c78 => ?_)) ?_
      rotate_left; exact P_stop
      refine P_x rfl (Wx_val (Ev_assign rfl) rfl ?_) ?_
      rotate_left; exact P_stop
      refine P_done ?_
      refine T_inN ?_
      refine T_next ?_
      refine T_reg ?_
      refine T_val (Ev_add_w64 rfl rfl) rfl ?_
      refine T_val (Ev_move rfl) rfl ?_
      refine T_nil ?_
      exact T_roundP (s43.1 ++ [r71], w64 (s43.2 + 1)) (A77, c78) hx76 trivial (by exact .cons rfl (.cons rfl (.cons rfl (.cons rfl (.cons rfl (.nil)))))) (by exact .pick 0 rfl (.pick 0 rfl (.pick 0 rfl (.refl))))
    · have hx48 := ite_f h46 hx43
      refine T_condF rfl ?_
      refine T_exit ?_
      refine T_outX ?_
      obtain rfl := exit_eq ht43 hx48
      refine T_outX ?_
      refine T_here ?_
      exact T_metP s43.1 (y43.1, y43.2) ho43 trivial (by exact .cons rfl (.nil)) (by exact .pick 0 rfl (.drop 0 rfl (.drop 0 rfl (.refl))))
set_option maxRecDepth 100000 in
theorem model_Consistent_1_ok (p0 : Int)  {r : Bool} (hx : model_Consistent_1 p0 = some r) (w : World) : CtL Try.prog 16 [.int .i64 (p0)] w fun v Ln => v = .bool (r) ∧ Ln = [] ∧ True := by
  refine CtL.mk 9 Try.func16 rfl Try.ntmps16 (by kernel_rfl) rfl ?_
  show T 9 _ [(0, .int .i64 (p0))] _
  unfold model_Consistent_1 at hx
  refine T_seq ?_
  refine T_reg ?_
  refine T_val (Ev_assign rfl) rfl ?_
  refine T_nil ?_
  refine T_next ?_
  obtain ⟨j2, hj2, hx⟩ := jn_some hx
  refine T_cutP (τ := Bool) (γ := Unit) (J := j2) (out := r) (fun s2 y2 => [(2, .bool (s2))]) (fun s2 y2 => [] ++ [.old w]) (fun s2 y2 => True) ?_ ?_
  · intro s2 y2 hx4 hG5
    subst hj2
    refine T_retc ?_
    obtain rfl := Option.some.inj hx4
    exact T_retP (rs := [.tmp 2]) Try.results16 (.tmp rfl (.nil)) (Ln := []) ⟨rfl, rfl, trivial⟩ (loNil) (by exact .refl)
  · skip
    refine T_reg ?_
    refine T_val (Ev_move rfl) rfl ?_
    refine T_val (Ev_eql rfl rfl) rfl ?_
    refine T_val (Ev_move rfl) rfl ?_
    refine T_caseP (s := 5) rfl (fun h1 => ?_) (fun h1 => ?_)
    · have hx2 := ite_t h1 hx
      refine T_skipG rfl rfl rfl rfl rfl ?_
      refine T_skipG rfl rfl rfl rfl rfl ?_
      refine T_val (Ev_pickT rfl rfl) rfl ?_
      refine T_val (Ev_assign rfl) rfl ?_
      refine T_nil ?_
      exact T_metP true () hx2 trivial (by exact .cons rfl (.nil)) (by exact .refl)
    · have hx3 := ite_f h1 hx
      refine T_valG rfl rfl rfl (Ev_move rfl) rfl ?_
      refine T_valG rfl rfl rfl (Ev_eql rfl rfl) rfl ?_
      refine T_val (Ev_pickF rfl rfl) rfl ?_
      refine T_val (Ev_assign rfl) rfl ?_
      refine T_nil ?_
      exact T_metP (decide (p0 = (-1))) () hx3 trivial (by exact .cons rfl (.nil)) (by exact .refl)
set_option maxRecDepth 100000 in
theorem slices_IndexFunc_c_ok (p0 : List Int) {K : List Ent} {A0_0 : Option Addr} {c0_0 : Nat} (ha0 : Has K A0_0 (p0).length c0_0 1 e_i64 (p0)) {r : Int} (hx : slices_IndexFunc_c p0 = some r) (w : World) (hK : ∀ e ∈ K, Ent.ok w e) : CtL Try.prog 32 [.slice (A0_0) ((p0).length) (c0_0), .func (.func 16) #[] #[]] w fun v Ln => v = .int .i64 (r) ∧ Ln = [] ∧ True := by
  have ha0' := Has.up0 ha0
  refine CtL.mk 19 Try.func32 rfl Try.ntmps32 (by kernel_rfl) rfl ?_
  show T 19 _ [(0, .slice (A0_0) ((p0).length) (c0_0)), (1, .func (.func 16) #[] #[])] _
  unfold slices_IndexFunc_c at hx
  refine T_seq ?_
  refine T_reg ?_
  refine T_val (Ev_assign rfl) rfl ?_
  refine T_nil ?_
  refine T_next ?_
  obtain ⟨j2, hj2, hx⟩ := jn_some hx
  refine T_cutP (τ := Unit) (γ := Unit) (J := j2) (out := r) (fun s2 y2 => []) (fun s2 y2 => [] ++ [.old w]) (fun s2 y2 => True) ?_ ?_
  · intro s2 y2 hx43 hG44
    subst hj2
    refine T_seq ?_
    refine T_reg ?_
    refine T_val (Ev_assign rfl) rfl ?_
    refine T_nil ?_
    refine T_next ?_
    refine T_retc ?_
    obtain rfl := Option.some.inj hx43
    exact T_retP (rs := [.tmp 4]) Try.results32 (.tmp rfl (.nil)) (Ln := []) ⟨rfl, rfl, trivial⟩ (loNil) (by exact .refl)
  · skip
    refine T_seq ?_
    refine T_reg ?_
    refine T_val (Ev_move rfl) rfl ?_
    refine T_val (Ev_len rfl 3 Try.underlying34) rfl ?_
    refine T_val (Ev_move rfl) rfl ?_
    refine T_nil ?_
    refine T_next ?_
    refine T_block ?_
    obtain ⟨t22, hl22, ho22⟩ := bnd_some hx
    refine T_loopP (σ := Int) (γ := Unit) hl22 (fun s22 y22 => [(0, .slice (A0_0) ((p0).length) (c0_0)), (1, .func (.func 16) #[] #[]), (7, .int .i64 ((((p0).length : Nat) : Int))), (8, .int .i64 (s22))]) (fun s22 y22 => [] ++ [.old w]) (fun s22 y22 => True) () trivial (by exact .cons rfl (.cons rfl (.cons rfl (.cons rfl (.nil))))) (by exact .refl) ?_
    intro s22 y22 hG22 x22 hx22 ht22
    unfold slices_IndexFunc_c_l2 at hx22
    refine T_seq ?_
    refine T_reg ?_
    refine T_val (Ev_lss rfl rfl) rfl ?_
    refine T_nil ?_
    refine T_next ?_
    refine T_seq ?_
    refine T_caseP (s := 9) rfl (fun h23 => ?_) (fun h23 => ?_)
    · have hx24 := ite_t h23 hx22
      refine T_condT rfl ?_
      refine T_skip ?_
      refine T_next ?_
      refine T_seq ?_
      refine T_block ?_
      refine T_seq ?_
      refine T_reg ?_
      refine T_val (Ev_move rfl) rfl ?_
      refine T_val (Ev_assign rfl) rfl ?_
      refine T_nil ?_
      refine T_next ?_
      refine T_seq ?_
      refine T_reg ?_
      refine T_val (Ev_move rfl) rfl ?_
      refine T_val (Ev_move rfl) rfl ?_
      refine T_val (Ev_move rfl) rfl ?_
      obtain ⟨x26, h27, hx28⟩ := bnd_some hx24
      have hw36 := Has.low (E := []) ha0' hK
      obtain ⟨b29, o30, j31, hA32, hj33, hl34, hp35⟩ := Has.at_idx hw36 h27
      refine T_val (Ev_index rfl rfl hA32 (j := j31) hj33 hl34 slc34) rfl ?_
      refine T_val (Ev_loadP0 rfl hp35 (SubE.cons2 (i := 0) rfl (SubE.nil)) rfl one3) rfl ?_
      obtain ⟨r37, h38, hx39⟩ := bnd_some hx28
      refine T_x (Wx_callF rfl rfl (fun w1 hw1 => model_Consistent_1_ok x26  h38 w1) rfl ?_)
      rintro _ _ hlo ⟨rfl, rfl, -⟩
      refine T_app0 ?_
      refine T_nil ?_
      refine T_next ?_
      refine T_caseB (s := 16) rfl (fun h40 => ?_) (fun h40 => ?_)
      · have hx41 := ite_t h40 hx39
        refine T_condT rfl ?_
        refine T_seq ?_
        refine T_reg ?_
        refine T_val (Ev_move rfl) rfl ?_
        refine T_val (Ev_assign rfl) rfl ?_
        refine T_nil ?_
        refine T_next ?_
        refine T_retc ?_
        refine T_inR ?_
        refine T_outR ?_
        obtain rfl := exit_eq ht22 hx41
        refine T_outR ?_
        refine T_inR ?_
        refine T_outR ?_
        obtain rfl := Option.some.inj ho22
        exact T_retP (rs := [.tmp 4]) Try.results32 (.tmp rfl (.nil)) (Ln := []) ⟨rfl, rfl, trivial⟩ (loNil) (by exact .refl)
      · have hx42 := ite_bf h40 hx39
        refine T_condF rfl ?_
        refine T_skip ?_
        refine T_inN ?_
        refine T_next ?_
        refine T_reg ?_
        refine T_val (Ev_add_w64 rfl rfl) rfl ?_
        refine T_val (Ev_move rfl) rfl ?_
        refine T_nil ?_
        exact T_roundP (w64 (s22 + 1)) () hx42 trivial (by exact .cons rfl (.cons rfl (.cons rfl (.cons rfl (.nil))))) (by exact .refl)
    · have hx25 := ite_f h23 hx22
      refine T_condF rfl ?_
      refine T_exit ?_
      refine T_outX ?_
      obtain rfl := exit_eq ht22 hx25
      refine T_outX ?_
      refine T_here ?_
      exact T_metP () () ho22 trivial (by exact .nil) (by exact .refl)
set_option maxRecDepth 100000 in
theorem slices_ContainsFunc_c_ok (p0 : List Int) {K : List Ent} {A0_0 : Option Addr} {c0_0 : Nat} (ha0 : Has K A0_0 (p0).length c0_0 1 e_i64 (p0)) {r : Bool} (hx : slices_ContainsFunc_c p0 = some r) (w : World) (hK : ∀ e ∈ K, Ent.ok w e) : CtL Try.prog 17 [.slice (A0_0) ((p0).length) (c0_0), .func (.func 16) #[] #[]] w fun v Ln => v = .bool (r) ∧ Ln = [] ∧ True := by
  have ha0' := Has.up0 ha0
  refine CtL.mk 9 Try.func17 rfl Try.ntmps17 (by kernel_rfl) rfl ?_
  show T 9 _ [(0, .slice (A0_0) ((p0).length) (c0_0)), (1, .func (.func 16) #[] #[])] _
  unfold slices_ContainsFunc_c at hx
  refine T_seq ?_
  refine T_reg ?_
  refine T_val (Ev_assign rfl) rfl ?_
  refine T_nil ?_
  refine T_next ?_
  refine T_seq ?_
  refine T_reg ?_
  refine T_val (Ev_move rfl) rfl ?_
  refine T_val (Ev_move rfl) rfl ?_
  obtain ⟨r1, h2, hx3⟩ := bnd_some hx
  refine T_x (Wx_callL rfl (fun w1 hw1 => slices_IndexFunc_c_ok p0 (Has.len' ha0') h2 w1 (okApp (K := K) (K2 := []) hK (by exact (SubE.cons2 (i := 0) rfl (SubE.nil))) (by exact (SubE.nil)) hw1)) rfl ?_)
  rintro _ _ hlo ⟨rfl, rfl, -⟩
  refine T_app0 ?_
  refine T_val (Ev_geq rfl rfl) rfl ?_
  refine T_val (Ev_assign rfl) rfl ?_
  refine T_nil ?_
  refine T_next ?_
  refine T_retc ?_
  obtain rfl := Option.some.inj hx3
  exact T_retP (rs := [.tmp 4]) Try.results17 (.tmp rfl (.nil)) (Ln := []) ⟨rfl, rfl, trivial⟩ (loNil) (by exact .refl)
set_option maxRecDepth 100000 in
theorem model_Consistent_ok (p0 : S_api_Grid) (p1 : S_api_Grid) {K : List Ent} {A0_0 : Option Addr} {c0_0 : Nat} {A0_1 : Option Addr} {c0_1 : Nat} (ha0 : Has K A0_0 (p0.Cells).length c0_0 3 e_api_Cell (p0.Cells)) (ha1 : Has K A0_1 (p1.Cells).length c0_1 3 e_api_Cell (p1.Cells)) {r : Bool × Int} (hx : model_Consistent p0 p1 = some r) (w : World) (hK : ∀ e ∈ K, Ent.ok w e) : CtL Try.prog 7 [.agg #[.int .i64 (p0.Raster.X0), .int .i64 (p0.Raster.Y0), .int .i64 (p0.Raster.Step), .int .i64 (p0.Raster.NX), .int .i64 (p0.Raster.NY), .slice (A0_0) ((p0.Cells).length) (c0_0)], .agg #[.int .i64 (p1.Raster.X0), .int .i64 (p1.Raster.Y0), .int .i64 (p1.Raster.Step), .int .i64 (p1.Raster.NX), .int .i64 (p1.Raster.NY), .slice (A0_1) ((p1.Cells).length) (c0_1)]] w fun v Ln => v = .tuple #[.bool (r.1), .int .i64 (r.2)] ∧ Ln = [] ∧ True := by
  have ha0' := Has.up0 ha0
  have ha1' := Has.up0 ha1
  refine CtL.mk 20 Try.func7 rfl Try.ntmps7 (by kernel_rfl) rfl ?_
  show T 20 _ [(0, .agg #[.int .i64 (p0.Raster.X0), .int .i64 (p0.Raster.Y0), .int .i64 (p0.Raster.Step), .int .i64 (p0.Raster.NX), .int .i64 (p0.Raster.NY), .slice (A0_0) ((p0.Cells).length) (c0_0)]), (1, .agg #[.int .i64 (p1.Raster.X0), .int .i64 (p1.Raster.Y0), .int .i64 (p1.Raster.Step), .int .i64 (p1.Raster.NX), .int .i64 (p1.Raster.NY), .slice (A0_1) ((p1.Cells).length) (c0_1)])] _
  unfold model_Consistent at hx
  refine T_seq ?_
  refine T_reg ?_
  refine T_x (Wx_box rfl rfl rfl (fun g1 => ?_))
  refine T_x (Wx_box rfl rfl rfl (fun g2 => ?_))
  refine T_val (Ev_assign rfl) rfl ?_
  refine T_val (Ev_assign rfl) rfl ?_
  refine T_nil ?_
  refine T_next ?_
  refine T_seq ?_
  refine T_seq ?_
  refine T_reg ?_
  refine T_val (Ev_loadK rfl (i := 1) rfl rfl agg26) rfl ?_
  refine T_val (Ev_loadK rfl (i := 0) rfl rfl agg26) rfl ?_
  obtain ⟨r3, h4, hx5⟩ := bnd_some hx
  refine T_x (Wx_callL rfl (fun w1 hw1 => model_pair_ok p0 p1 (Has.len' ha0') (Has.len' ha1') h4 w1 (okApp (K := K) (K2 := []) hK (by exact (SubE.cons2 (i := 2) rfl (SubE.nil))) (by exact (SubE.nil)) hw1)) rfl ?_)
  rintro _ _ hlo ⟨rfl, rfl, -⟩
  refine T_app0 ?_
  refine T_val (Ev_assign rfl) rfl ?_
  refine T_nil ?_
  refine T_next ?_
  refine T_seq ?_
  refine T_reg ?_
  refine T_val (Ev_move rfl) rfl ?_
  refine T_val (Ev_neq rfl rfl) rfl ?_
  refine T_nil ?_
  refine T_next ?_
  refine T_caseNP (s := 12) rfl (fun h6 => ?_) (fun h6 => ?_)
  · have hx7 := ite_f h6 hx5
    refine T_condT rfl ?_
    refine T_seq ?_
    refine T_reg ?_
    refine T_val (Ev_move rfl) rfl ?_
    refine T_val (Ev_assign rfl) rfl ?_
    refine T_val (Ev_assign rfl) rfl ?_
    refine T_nil ?_
    refine T_next ?_
    refine T_retc ?_
    refine T_outR ?_
    obtain rfl := Option.some.inj hx7
    exact T_retP (rs := [.tmp 4, .tmp 5]) Try.results7 (.tmp rfl (.tmp rfl (.nil))) (Ln := []) ⟨rfl, rfl, trivial⟩ (loNil) (by exact .drop 0 rfl (.drop 0 rfl (.refl)))
  · have hx8 := ite_t h6 hx5
    refine T_condF rfl ?_
    refine T_skip ?_
    refine T_next ?_
    refine T_seq ?_
    refine T_reg ?_
    refine T_val (Ev_assign rfl) rfl ?_
    refine T_nil ?_
    refine T_next ?_
    refine T_seq ?_
    refine T_reg ?_
    refine T_val (Ev_loadK rfl (i := 1) rfl rfl agg26) rfl ?_
    refine T_val (Ev_loadK rfl (i := 0) rfl rfl agg26) rfl ?_
    obtain ⟨r9, h10, hx11⟩ := bnd_some hx8
    refine T_x (Wx_callL rfl (fun w1 hw1 => model_states_ok p0 p1 (Has.len' ha0') (Has.len' ha1') h10 w1 (okApp (K := K) (K2 := []) hK (by exact (SubE.cons2 (i := 2) rfl (SubE.nil))) (by exact (SubE.nil)) hw1)) rfl ?_)
    rintro _ _ hlo ⟨A12, c13, rfl, rfl, -⟩
    refine T_app1 ?_
    refine T_val (Ev_move rfl) rfl ?_
    refine T_rowP (k := 0) rfl (by decide) (fun _ => rfl) (fun hn14 hs15 => ?_)
    obtain ⟨r16, h17, hx18⟩ := bnd_some hx11
    refine T_x (Wx_callL rfl (fun w1 hw1 => slices_ContainsFunc_c_ok r9 (Has.len' hs15) h17 w1 (okAll (K := ([.r (A12) ((r9).length) (c13) 3 1 ((r9).flatMap e_i64)] : List Ent)) (by exact (SubE.cons2 (i := 0) rfl (SubE.nil))) hw1)) rfl ?_)
    rintro _ _ hlo ⟨rfl, rfl, -⟩
    refine T_app0 ?_
    refine T_val (Ev_not rfl) rfl ?_
    refine T_val (Ev_assign rfl) rfl ?_
    refine T_val (Ev_assign rfl) rfl ?_
    refine T_nil ?_
    refine T_next ?_
    refine T_retc ?_
    obtain rfl := Option.some.inj hx18
    exact T_retP (rs := [.tmp 4, .tmp 5]) Try.results7 (.tmp rfl (.tmp rfl (.nil))) (Ln := []) ⟨rfl, rfl, trivial⟩ (loNil) (by exact .drop 0 rfl (.drop 0 rfl (.drop 0 rfl (.refl))))
set_option maxRecDepth 100000 in
theorem model_common_ok (p0 : S_api_Cell) (p1 : S_api_Cell)  {r : S_api_Cell} (hx : model_common p0 p1 = some r) (w : World) : CtL Try.prog 21 [.agg #[.bool (p0.Void), .int .i64 (p0.Z.Lo), .int .i64 (p0.Z.Hi)], .agg #[.bool (p1.Void), .int .i64 (p1.Z.Lo), .int .i64 (p1.Z.Hi)]] w fun v Ln => v = .agg #[.bool (r.Void), .int .i64 (r.Z.Lo), .int .i64 (r.Z.Hi)] ∧ Ln = [] ∧ True := by
  refine CtL.mk 35 Try.func21 rfl Try.ntmps21 (by kernel_rfl) rfl ?_
  show T 35 _ [(0, .agg #[.bool (p0.Void), .int .i64 (p0.Z.Lo), .int .i64 (p0.Z.Hi)]), (1, .agg #[.bool (p1.Void), .int .i64 (p1.Z.Lo), .int .i64 (p1.Z.Hi)])] _
  unfold model_common at hx
  refine T_seq ?_
  refine T_reg ?_
  refine T_x (Wx_box rfl rfl rfl (fun g1 => ?_))
  refine T_x (Wx_box rfl rfl rfl (fun g2 => ?_))
  refine T_x (Wx_alloc zer39 rfl (fun g3 => ?_))
  refine T_nil ?_
  refine T_next ?_
  refine T_seq ?_
  refine T_block ?_
  refine T_seq ?_
  refine T_reg ?_
  refine T_val (Ev_field rfl fld39_0 rfl) rfl ?_
  refine T_val (Ev_load1 rfl (i := 2) rfl rfl one4) rfl ?_
  refine T_val (Ev_assign rfl) rfl ?_
  refine T_nil ?_
  refine T_next ?_
  refine T_caseB (s := 5) rfl (fun h4 => ?_) (fun h4 => ?_)
  · have hx5 := ite_t h4 hx
    refine T_condT rfl ?_
    refine T_seq ?_
    refine T_reg ?_
    refine T_val (Ev_loadK rfl (i := 1) rfl rfl agg39) rfl ?_
    refine T_h (Wh_store rfl rfl rfl (.here) (.put (.put (.put (.done)))) rfl (List.cons_ne_nil _ _) agg39.2 ?_)
    refine T_nil ?_
    refine T_next ?_
    refine T_retc ?_
    refine T_inR ?_
    refine T_outR ?_
    obtain rfl := Option.some.inj hx5
    exact T_retP (rs := [.cell 4 39]) Try.results21 (.cell rfl (i := 0) rfl rfl agg39 (.nil)) (Ln := []) ⟨rfl, rfl, trivial⟩ (loNil) (by exact .drop 0 rfl (.drop 0 rfl (.drop 0 rfl (.refl))))
  · have hx6 := ite_bf h4 hx
    refine T_condF rfl ?_
    refine T_seq ?_
    refine T_reg ?_
    refine T_val (Ev_field rfl fld39_0 rfl) rfl ?_
    refine T_val (Ev_load1 rfl (i := 1) rfl rfl one4) rfl ?_
    refine T_val (Ev_assign rfl) rfl ?_
    refine T_nil ?_
    refine T_next ?_
    refine T_caseB (s := 9) rfl (fun h7 => ?_) (fun h7 => ?_)
    · have hx8 := ite_t h7 hx6
      refine T_condT rfl ?_
      refine T_seq ?_
      refine T_reg ?_
      refine T_val (Ev_loadK rfl (i := 2) rfl rfl agg39) rfl ?_
      refine T_h (Wh_store rfl rfl rfl (.here) (.put (.put (.put (.done)))) rfl (List.cons_ne_nil _ _) agg39.2 ?_)
      refine T_nil ?_
      refine T_next ?_
      refine T_retc ?_
      refine T_inR ?_
      refine T_outR ?_
      obtain rfl := Option.some.inj hx8
      exact T_retP (rs := [.cell 4 39]) Try.results21 (.cell rfl (i := 0) rfl rfl agg39 (.nil)) (Ln := []) ⟨rfl, rfl, trivial⟩ (loNil) (by exact .drop 0 rfl (.drop 0 rfl (.drop 0 rfl (.refl))))
    · have hx9 := ite_bf h7 hx6
      refine T_condF rfl ?_
      refine T_seq ?_
      refine T_reg ?_
      refine T_val (Ev_loadK rfl (i := 2) rfl rfl agg39) rfl ?_
      refine T_val (Ev_loadK rfl (i := 1) rfl rfl agg39) rfl ?_
      obtain ⟨r10, h11, hx12⟩ := bnd_some hx9
      refine T_x (Wx_callL rfl (fun w1 hw1 => model_state_ok p0 p1  h11 w1) rfl ?_)
      rintro _ _ hlo ⟨rfl, rfl, -⟩
      refine T_app0 ?_
      refine T_val (Ev_eql rfl rfl) rfl ?_
      refine T_val (Ev_assign rfl) rfl ?_
      refine T_nil ?_
      refine T_next ?_
      refine T_caseP (s := 13) rfl (fun h13 => ?_) (fun h13 => ?_)
      · have hx14 := ite_t h13 hx12
        refine T_condT rfl ?_
        refine T_seq ?_
        refine T_reg ?_
        refine T_val (Ev_field rfl fld39_1 rfl) rfl ?_
        refine T_val (Ev_field rfl fld37_0 rfl) rfl ?_
        refine T_val (Ev_load1 rfl (i := 2) rfl rfl one3) rfl ?_
        refine T_val (Ev_field rfl fld39_1 rfl) rfl ?_
        refine T_val (Ev_field rfl fld37_0 rfl) rfl ?_
        refine T_val (Ev_load1 rfl (i := 1) rfl rfl one3) rfl ?_
        refine T_val (Ev_max2 rfl rfl) rfl ?_
        refine T_val (Ev_field rfl fld39_1 rfl) rfl ?_
        refine T_val (Ev_field rfl fld37_1 rfl) rfl ?_
        refine T_val (Ev_load1 rfl (i := 2) rfl rfl one3) rfl ?_
        refine T_val (Ev_field rfl fld39_1 rfl) rfl ?_
        refine T_val (Ev_field rfl fld37_1 rfl) rfl ?_
        refine T_val (Ev_load1 rfl (i := 1) rfl rfl one3) rfl ?_
        refine T_val (Ev_min2 rfl rfl) rfl ?_
        refine T_val (Ev_build rfl (bld37_0i641i64 _ _)) rfl ?_
        refine T_val (Ev_build rfl (bld39_1ai64i64 _ _)) rfl ?_
        refine T_h (Wh_store rfl rfl rfl (.here) (.put (.put (.put (.done)))) rfl (List.cons_ne_nil _ _) agg39.2 ?_)
        refine T_nil ?_
        refine T_next ?_
        refine T_retc ?_
        refine T_inR ?_
        refine T_outR ?_
        obtain rfl := Option.some.inj hx14
        exact T_retP (rs := [.cell 4 39]) Try.results21 (.cell rfl (i := 0) rfl rfl agg39 (.nil)) (Ln := []) ⟨rfl, rfl, trivial⟩ (loNil) (by exact .drop 0 rfl (.drop 0 rfl (.drop 0 rfl (.refl))))
      · have hx15 := ite_f h13 hx12
        refine T_condF rfl ?_
        refine T_skip ?_
        refine T_inN ?_
        refine T_next ?_
        refine T_seq ?_
        refine T_reg ?_
        refine T_val (Ev_build rfl (bld39_0b _)) rfl ?_
        refine T_h (Wh_store rfl rfl rfl (.here) (.put (.put (.put (.done)))) rfl (List.cons_ne_nil _ _) agg39.2 ?_)
        refine T_nil ?_
        refine T_next ?_
        refine T_retc ?_
        obtain rfl := Option.some.inj hx15
        exact T_retP (rs := [.cell 4 39]) Try.results21 (.cell rfl (i := 0) rfl rfl agg39 (.nil)) (Ln := []) ⟨rfl, rfl, trivial⟩ (loNil) (by exact .drop 0 rfl (.drop 0 rfl (.drop 0 rfl (.refl))))
set_option maxRecDepth 100000 in
theorem model_Common_ok (p0 : S_api_Grid) (p1 : S_api_Grid) {K : List Ent} {A0_0 : Option Addr} {c0_0 : Nat} {A0_1 : Option Addr} {c0_1 : Nat} (ha0 : Has K A0_0 (p0.Cells).length c0_0 3 e_api_Cell (p0.Cells)) (ha1 : Has K A0_1 (p1.Cells).length c0_1 3 e_api_Cell (p1.Cells)) {r : S_api_Grid × Int} (hx : model_Common p0 p1 = some r) (w : World) (hK : ∀ e ∈ K, Ent.ok w e) : CtL Try.prog 9 [.agg #[.int .i64 (p0.Raster.X0), .int .i64 (p0.Raster.Y0), .int .i64 (p0.Raster.Step), .int .i64 (p0.Raster.NX), .int .i64 (p0.Raster.NY), .slice (A0_0) ((p0.Cells).length) (c0_0)], .agg #[.int .i64 (p1.Raster.X0), .int .i64 (p1.Raster.Y0), .int .i64 (p1.Raster.Step), .int .i64 (p1.Raster.NX), .int .i64 (p1.Raster.NY), .slice (A0_1) ((p1.Cells).length) (c0_1)]] w fun v Ln => ∃ (A0 : Option Addr) (c0 : Nat), v = .tuple #[.agg #[.int .i64 (r.1.Raster.X0), .int .i64 (r.1.Raster.Y0), .int .i64 (r.1.Raster.Step), .int .i64 (r.1.Raster.NX), .int .i64 (r.1.Raster.NY), .slice (A0) ((r.1.Cells).length) (c0)], .int .i64 (r.2)] ∧ Ln = [.r A0 (r.1.Cells).length c0 39 3 ((r.1.Cells).flatMap e_api_Cell)] ∧ True := by
  have ha0' := Has.up0 ha0
  have ha1' := Has.up0 ha1
  refine CtL.mk 43 Try.func9 rfl Try.ntmps9 (by kernel_rfl) rfl ?_
  show T 43 _ [(0, .agg #[.int .i64 (p0.Raster.X0), .int .i64 (p0.Raster.Y0), .int .i64 (p0.Raster.Step), .int .i64 (p0.Raster.NX), .int .i64 (p0.Raster.NY), .slice (A0_0) ((p0.Cells).length) (c0_0)]), (1, .agg #[.int .i64 (p1.Raster.X0), .int .i64 (p1.Raster.Y0), .int .i64 (p1.Raster.Step), .int .i64 (p1.Raster.NX), .int .i64 (p1.Raster.NY), .slice (A0_1) ((p1.Cells).length) (c0_1)])] _
  unfold model_Common at hx
  refine T_seq ?_
  refine T_reg ?_
  refine T_x (Wx_box rfl rfl rfl (fun g1 => ?_))
  refine T_x (Wx_box rfl rfl rfl (fun g2 => ?_))
  refine T_x (Wx_alloc zer26 rfl (fun g3 => ?_))
  refine T_val (Ev_assign rfl) rfl ?_
  refine T_nil ?_
  refine T_next ?_
  refine T_seq ?_
  refine T_seq ?_
  refine T_reg ?_
  refine T_val (Ev_loadK rfl (i := 2) rfl rfl agg26) rfl ?_
  refine T_val (Ev_loadK rfl (i := 1) rfl rfl agg26) rfl ?_
  obtain ⟨r4, h5, hx6⟩ := bnd_some hx
  refine T_x (Wx_callL rfl (fun w1 hw1 => model_pair_ok p0 p1 (Has.len' ha0') (Has.len' ha1') h5 w1 (okApp (K := K) (K2 := []) hK (by exact (SubE.cons2 (i := 3) rfl (SubE.nil))) (by exact (SubE.nil)) hw1)) rfl ?_)
  rintro _ _ hlo ⟨rfl, rfl, -⟩
  refine T_app0 ?_
  refine T_val (Ev_assign rfl) rfl ?_
  refine T_nil ?_
  refine T_next ?_
  refine T_seq ?_
  refine T_reg ?_
  refine T_val (Ev_move rfl) rfl ?_
  refine T_val (Ev_neq rfl rfl) rfl ?_
  refine T_nil ?_
  refine T_next ?_
  refine T_caseNP (s := 13) rfl (fun h7 => ?_) (fun h7 => ?_)
  · have hx8 := ite_f h7 hx6
    refine T_condT rfl ?_
    refine T_seq ?_
    refine T_reg ?_
    refine T_val (Ev_build rfl (bld26_)) rfl ?_
    refine T_val (Ev_move rfl) rfl ?_
    refine T_h (Wh_store rfl rfl rfl (.here) (.put (.put (.put (.put (.put (.put (.done))))))) rfl (List.cons_ne_nil _ _) agg26.2 ?_)
    refine T_val (Ev_assign rfl) rfl ?_
    refine T_nil ?_
    refine T_next ?_
    refine T_retc ?_
    refine T_outR ?_
    refine T_none 39 3 ?_
    obtain rfl := Option.some.inj hx8
    exact T_retP (rs := [.cell 4 26, .tmp 5]) Try.results9 (.cell rfl (i := 1) rfl rfl agg26 (.tmp rfl (.nil))) (Ln := [.r (none) (0) (0) 39 3 ((([] : List S_api_Cell)).flatMap e_api_Cell)]) ⟨none, 0, rfl, rfl, trivial⟩ (loCons rfl (loNil)) (by exact .pick 0 rfl (.drop 0 rfl (.drop 0 rfl (.drop 0 rfl (.refl)))))
  · have hx9 := ite_t h7 hx6
    refine T_condF rfl ?_
    refine T_skip ?_
    refine T_next ?_
    refine T_seq ?_
    refine T_reg ?_
    refine T_val (Ev_field rfl fld26_0 rfl) rfl ?_
    refine T_val (Ev_loadK rfl (i := 2) rfl rfl agg23) rfl ?_
    refine T_val (Ev_build rfl (bld26_0ai64i64i64i64i64 _ _ _ _ _)) rfl ?_
    refine T_x (Wx_alloc zer26 rfl (fun g10 => ?_))
    refine T_h (Wh_store rfl rfl rfl (.here) (.put (.put (.put (.put (.put (.put (.done))))))) rfl (List.cons_ne_nil _ _) agg26.2 ?_)
    refine T_nil ?_
    refine T_next ?_
    obtain ⟨j7, hj7, hx9⟩ := jn_some hx9
    refine T_cutP (τ := List S_api_Cell) (γ := (Option Addr) × Nat) (J := j7) (out := r) (fun s7 y7 => [(4, .pointer (some ⟨g3, 0, none⟩)), (7, .pointer (some ⟨g10, 0, none⟩))]) (fun s7 y7 => [.r (y7.1) ((s7).length) (y7.2) 39 3 ((s7).flatMap e_api_Cell), .m g10 26 [.int .i64 (p0.Raster.X0), .int .i64 (p0.Raster.Y0), .int .i64 (p0.Raster.Step), .int .i64 (p0.Raster.NX), .int .i64 (p0.Raster.NY), .slice (y7.1) ((s7).length) (y7.2)], .m g3 26 [.int .i64 (0), .int .i64 (0), .int .i64 (0), .int .i64 (0), .int .i64 (0), .slice (none) (0) (0)]] ++ [.old w]) (fun s7 y7 => True) ?_ ?_
    · intro s7 y7 hx81 hG82
      subst hj7
      refine T_seq ?_
      refine T_reg ?_
      refine T_val (Ev_loadK rfl (i := 1) rfl rfl agg26) rfl ?_
      refine T_h (Wh_store rfl rfl rfl (.there (.there (.here))) (.put (.put (.put (.put (.put (.put (.done))))))) rfl (List.cons_ne_nil _ _) agg26.2 ?_)
      refine T_val (Ev_assign rfl) rfl ?_
      refine T_nil ?_
      refine T_next ?_
      refine T_retc ?_
      obtain rfl := Option.some.inj hx81
      exact T_retP (rs := [.cell 4 26, .tmp 5]) Try.results9 (.cell rfl (i := 2) rfl rfl agg26 (.tmp rfl (.nil))) (Ln := [.r (y7.1) ((s7).length) (y7.2) 39 3 ((s7).flatMap e_api_Cell)]) ⟨y7.1, y7.2, rfl, rfl, trivial⟩ (loCons rfl (loNil)) (by exact .pick 0 rfl (.drop 0 rfl (.drop 0 rfl (.refl))))
    · skip
      refine T_seq ?_
      refine T_reg ?_
      refine T_val (Ev_field rfl fld26_1 rfl) rfl ?_
      refine T_val (Ev_load1 rfl (i := 3) rfl rfl one24) rfl ?_
      refine T_val (Ev_len rfl 39 Try.underlying24) rfl ?_
      refine T_val (Ev_move rfl) rfl ?_
      refine T_nil ?_
      refine T_next ?_
      refine T_block ?_
      obtain ⟨t46, hl46, ho46⟩ := bnd_some hx9
      refine T_none 39 3 ?_
      have hn47 : 0 = (([] : List S_api_Cell)).length := by simp [setI_len, cpy_len, List.length_append] <;> omega
      refine T_ent (.here) (e' := .r (none) ((([] : List S_api_Cell)).length) (0) 39 3 ((([] : List S_api_Cell)).flatMap e_api_Cell)) (by first | (rw [← hn47]; done) | rfl) ?_
      refine T_loopP (σ := (List S_api_Cell) × Int) (γ := (Option Addr) × Nat) hl46 (fun s46 y46 => [(2, .pointer (some ⟨g1, 0, none⟩)), (3, .pointer (some ⟨g2, 0, none⟩)), (4, .pointer (some ⟨g3, 0, none⟩)), (7, .pointer (some ⟨g10, 0, none⟩)), (21, .int .i64 ((((p0.Cells).length : Nat) : Int))), (22, .int .i64 (s46.2))]) (fun s46 y46 => [.r (y46.1) ((s46.1).length) (y46.2) 39 3 ((s46.1).flatMap e_api_Cell), .m g10 26 [.int .i64 (p0.Raster.X0), .int .i64 (p0.Raster.Y0), .int .i64 (p0.Raster.Step), .int .i64 (p0.Raster.NX), .int .i64 (p0.Raster.NY), .slice (y46.1) ((s46.1).length) (y46.2)], .m g3 26 [.int .i64 (0), .int .i64 (0), .int .i64 (0), .int .i64 (0), .int .i64 (0), .slice (none) (0) (0)], .m g2 26 [.int .i64 (p1.Raster.X0), .int .i64 (p1.Raster.Y0), .int .i64 (p1.Raster.Step), .int .i64 (p1.Raster.NX), .int .i64 (p1.Raster.NY), .slice (A0_1) ((p1.Cells).length) (c0_1)], .m g1 26 [.int .i64 (p0.Raster.X0), .int .i64 (p0.Raster.Y0), .int .i64 (p0.Raster.Step), .int .i64 (p0.Raster.NX), .int .i64 (p0.Raster.NY), .slice (A0_0) ((p0.Cells).length) (c0_0)]] ++ [.old w]) (fun s46 y46 => True) (none, 0) trivial (by exact .cons rfl (.cons rfl (.cons rfl (.cons rfl (.cons rfl (.cons rfl (.nil))))))) (by exact .pick 0 rfl (.pick 0 rfl (.pick 0 rfl (.pick 0 rfl (.pick 0 rfl (.refl)))))) ?_
      intro s46 y46 hG46 x46 hx46 ht46
      unfold model_Common_l6 at hx46
      refine T_seq ?_
      refine T_reg ?_
      refine T_val (Ev_lss rfl rfl) rfl ?_
      refine T_nil ?_
      refine T_next ?_
      refine T_seq ?_
      refine T_caseP (s := 23) rfl (fun h48 => ?_) (fun h48 => ?_)
      · have hx49 := ite_t h48 hx46
        refine T_condT rfl ?_
        refine T_skip ?_
        refine T_next ?_
        refine T_seq ?_
        refine T_block ?_
        refine T_seq ?_
        refine T_reg ?_
        refine T_val (Ev_move rfl) rfl ?_
        refine T_val (Ev_assign rfl) rfl ?_
        refine T_nil ?_
        refine T_next ?_
        refine T_draw [0, 1, 0, 1, 0, 0, 1, 0, 1, 0, 0, 1, 2, 2, 3, 0, 3] [[], [0], [], [2], [], [2, 3, 4], [2, 3, 4, 5], [], [7], [], [7, 8, 9], [7, 8, 9, 10], [2, 3, 4, 5, 6, 7, 8, 9, 10, 11], [2, 3, 4, 5, 6, 7, 8, 9, 10, 11, 12], [0, 1, 2, 3, 4, 5, 6, 7, 8, 9, 10, 11, 12, 13], [0, 1, 2, 3, 4, 5, 6, 7, 8, 9, 10, 11, 12, 13, 14], [0, 1, 2, 3, 4, 5, 6, 7, 8, 9, 10, 11, 12, 13, 14, 15]] (.q 0 (.q 1 (.q 2 (.q 3 (.q 4 (.q 5 (.q 6 (.q 7 (.q 8 (.q 9 (.q 10 (.q 11 (.e 12 (.e 13 (.e 14 (.q 15 (.e 16 (.done) (.stop))) (.stop)) (.stop)) (.stop)))))))))))))) mixed (by kernel_rfl) (by kernel_rfl) ?_
        refine P_p rfl rfl (Ev_field rfl fld26_1 rfl) rfl ?_
        refine P_q rfl rfl (Ev_load1 rfl (i := 1) rfl rfl one24) rfl ?_
        refine P_p rfl rfl (Ev_field rfl fld26_1 rfl) rfl ?_
        refine P_q rfl rfl (Ev_load1 rfl (i := 4) rfl rfl one24) rfl ?_
        refine P_p rfl rfl (Ev_move rfl) rfl ?_
        obtain ⟨x51, h52, hx53⟩ := bnd_some hx49
        have hw61 := Has.low (E := []) ha0' hK
        obtain ⟨b54, o55, j56, hA57, hj58, hl59, hp60⟩ := Has.at_idx hw61 h52
        refine P_p rfl rfl (Ev_index rfl rfl hA57 (j := j56) hj58 hl59 slc24) rfl ?_
        refine P_q rfl rfl (Ev_loadPK0 rfl hp60 (SubE.cons2 (i := 5) rfl (SubE.nil)) rfl agg39) rfl ?_
        refine P_p rfl rfl (Ev_field rfl fld26_1 rfl) rfl ?_
        refine P_q rfl rfl (Ev_load1 rfl (i := 3) rfl rfl one24) rfl ?_
        refine P_p rfl rfl (Ev_move rfl) rfl ?_
        obtain ⟨x62, h63, hx64⟩ := bnd_some hx53
        have hw72 := Has.low (E := []) ha1' hK
        obtain ⟨b65, o66, j67, hA68, hj69, hl70, hp71⟩ := Has.at_idx hw72 h63
        refine P_p rfl rfl (Ev_index rfl rfl hA68 (j := j67) hj69 hl70 slc24) rfl ?_
        refine P_q rfl rfl (Ev_loadPK0 rfl hp71 (SubE.cons2 (i := 5) rfl (SubE.nil)) rfl agg39) rfl ?_
        obtain ⟨r73, h74, hx75⟩ := bnd_some hx64
        refine P_x rfl (Wx_callL rfl (fun w1 hw1 => model_common_ok x51 x62  h74 w1) rfl ?_) ?_
        rotate_left; exact P_stop
        rintro _ _ hlo ⟨rfl, rfl, -⟩
        refine T_app0 ?_
        refine P_x rfl (Wx_buildSlice rfl (bls24_1_0abi64i64 _ _ _) rfl (fun g76 => ?_)) ?_
        rotate_left; exact P_stop
        obtain ⟨h77, hx78⟩ := gd_some hx75
        refine P_h rfl rfl (Wh_appendP e_api_Cell (s46.1) [r73] rfl rfl rfl elm24 (fun _ => rfl) (i' := 0) rfl rfl rfl rfl h77 rfl (fun _ _ => .there (.here)) (fun _ _ => .drop .refl) (by decide) (fun A79 c80 => ?_)) ?_
        rotate_left; exact P_stop
        refine P_p rfl rfl (Ev_field rfl fld26_1 rfl) rfl ?_
        refine P_h rfl rfl (Wh_store rfl rfl rfl (.there (.here)) (.skip (.skip (.skip (.skip (.skip (.put (.done))))))) rfl (List.cons_ne_nil _ _) one24.2 ?_) ?_
        rotate_left; exact P_stop
        refine P_done ?_
        refine T_inN ?_
        refine T_next ?_
        refine T_reg ?_
        refine T_val (Ev_add_w64 rfl rfl) rfl ?_
        refine T_val (Ev_move rfl) rfl ?_
        refine T_nil ?_
        exact T_roundP (s46.1 ++ [r73], w64 (s46.2 + 1)) (A79, c80) hx78 trivial (by exact .cons rfl (.cons rfl (.cons rfl (.cons rfl (.cons rfl (.cons rfl (.nil))))))) (by exact .pick 0 rfl (.pick 0 rfl (.pick 0 rfl (.pick 0 rfl (.pick 0 rfl (.refl))))))
      · have hx50 := ite_f h48 hx46
        refine T_condF rfl ?_
        refine T_exit ?_
        refine T_outX ?_
        obtain rfl := exit_eq ht46 hx50
        refine T_outX ?_
        refine T_here ?_
        exact T_metP s46.1 (y46.1, y46.2) ho46 trivial (by exact .cons rfl (.cons rfl (.nil))) (by exact .pick 0 rfl (.pick 0 rfl (.pick 0 rfl (.drop 0 rfl (.drop 0 rfl (.refl))))))
end Go.Proofs.Ytdcdabkoajhllaa
