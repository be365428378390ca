/- Walks of the program, with their plain functions: the references, the laws' own check. -/
import Derived.Test.YtdkjcoonmgjpfaaJ4
namespace Go.Proofs.Ytdkjcoonmgjpfaa
open Go Go.RowKit
theorem bls22_4_0ai64i641ai64i642ai64i643ai64i64 (x0 : Int) (x1 : Int) (x2 : Int) (x3 : Int) (x4 : Int) (x5 : Int) (x6 : Int) (x7 : Int) : BuildSliceOf Try.prog 22 4 [(0, .agg #[.int .i64 x0, .int .i64 x1]), (1, .agg #[.int .i64 x2, .int .i64 x3]), (2, .agg #[.int .i64 x4, .int .i64 x5]), (3, .agg #[.int .i64 x6, .int .i64 x7])] 24 [.int .i64 x0, .int .i64 x1, .int .i64 x2, .int .i64 x3, .int .i64 x4, .int .i64 x5, .int .i64 x6, .int .i64 x7] := fun w => by kernel_rfl
theorem bld51_0i641i64 (x0 : Int) (x1 : Int) : BuildOf Try.prog 51 [(0, .int .i64 x0), (1, .int .i64 x1)] [.int .i64 x0, .int .i64 x1] := fun w => by kernel_rfl
theorem bld53_0i643ai64i645i646i64 (x0 : Int) (x1 : Int) (x2 : Int) (x3 : Int) (x4 : Int) : BuildOf Try.prog 53 [(0, .int .i64 x0), (3, .agg #[.int .i64 x1, .int .i64 x2]), (5, .int .i64 x3), (6, .int .i64 x4)] [.int .i64 x0, .int .i64 (0), .int .i64 (0), .int .i64 x1, .int .i64 x2, .int .i64 (0), .int .i64 x3, .int .i64 x4, .int .i64 (0)] := fun w => by kernel_rfl
theorem bld53_0i641i642i643ai64i645i646i64 (x0 : Int) (x1 : Int) (x2 : Int) (x3 : Int) (x4 : Int) (x5 : Int) (x6 : Int) : BuildOf Try.prog 53 [(0, .int .i64 x0), (1, .int .i64 x1), (2, .int .i64 x2), (3, .agg #[.int .i64 x3, .int .i64 x4]), (5, .int .i64 x5), (6, .int .i64 x6)] [.int .i64 x0, .int .i64 x1, .int .i64 x2, .int .i64 x3, .int .i64 x4, .int .i64 (0), .int .i64 x5, .int .i64 x6, .int .i64 (0)] := fun w => by kernel_rfl
theorem bld53_0i641i643ai64i645i646i64 (x0 : Int) (x1 : Int) (x2 : Int) (x3 : Int) (x4 : Int) (x5 : Int) : BuildOf Try.prog 53 [(0, .int .i64 x0), (1, .int .i64 x1), (3, .agg #[.int .i64 x2, .int .i64 x3]), (5, .int .i64 x4), (6, .int .i64 x5)] [.int .i64 x0, .int .i64 x1, .int .i64 (0), .int .i64 x2, .int .i64 x3, .int .i64 (0), .int .i64 x4, .int .i64 x5, .int .i64 (0)] := fun w => by kernel_rfl
theorem bls31_3_0ai64i64i64i64i64i64i64i64i641ai64i64i64i64i64i64i64i64i642ai64i64i64i64i64i64i64i64i64 (x0 : Int) (x1 : Int) (x2 : Int) (x3 : Int) (x4 : Int) (x5 : Int) (x6 : Int) (x7 : Int) (x8 : Int) (x9 : Int) (x10 : Int) (x11 : Int) (x12 : Int) (x13 : Int) (x14 : Int) (x15 : Int) (x16 : Int) (x17 : Int) (x18 : Int) (x19 : Int) (x20 : Int) (x21 : Int) (x22 : Int) (x23 : Int) (x24 : Int) (x25 : Int) (x26 : Int) : BuildSliceOf Try.prog 31 3 [(0, .agg #[.int .i64 x0, .int .i64 x1, .int .i64 x2, .int .i64 x3, .int .i64 x4, .int .i64 x5, .int .i64 x6, .int .i64 x7, .int .i64 x8]), (1, .agg #[.int .i64 x9, .int .i64 x10, .int .i64 x11, .int .i64 x12, .int .i64 x13, .int .i64 x14, .int .i64 x15, .int .i64 x16, .int .i64 x17]), (2, .agg #[.int .i64 x18, .int .i64 x19, .int .i64 x20, .int .i64 x21, .int .i64 x22, .int .i64 x23, .int .i64 x24, .int .i64 x25, .int .i64 x26])] 53 [.int .i64 x0, .int .i64 x1, .int .i64 x2, .int .i64 x3, .int .i64 x4, .int .i64 x5, .int .i64 x6, .int .i64 x7, .int .i64 x8, .int .i64 x9, .int .i64 x10, .int .i64 x11, .int .i64 x12, .int .i64 x13, .int .i64 x14, .int .i64 x15, .int .i64 x16, .int .i64 x17, .int .i64 x18, .int .i64 x19, .int .i64 x20, .int .i64 x21, .int .i64 x22, .int .i64 x23, .int .i64 x24, .int .i64 x25, .int .i64 x26] := fun w => by kernel_rfl
theorem bld33_0i643i649i64 (x0 : Int) (x1 : Int) (x2 : Int) : BuildOf Try.prog 33 [(0, .int .i64 x0), (3, .int .i64 x1), (9, .int .i64 x2)] [.int .i64 x0, .int .i64 (0), .int .i64 (0), .int .i64 x1, .int .i64 (0), .int .i64 (0), .int .i64 (0), .int .i64 (0), .int .i64 (0), .int .i64 x2] := fun w => by kernel_rfl
noncomputable def lidarref07_Seeds_l11 (r8 : List S_api_Point) (s237 : (List S_api_Point) × Int) (p1 : S_api_Terrain) : (Bool × Int) → Option (Sum (Bool × Int) Bool) := fun s340 =>
 if s340.2 < ((((r8).length : Nat) : Int)) then (jn (fun (s37 : Bool) =>
 some (.inl (s37, w64 (s340.2 + 1))))
 (fun j37 => jn (fun (s38 : Bool) =>
 if s340.1 = true then (if s38 = true then (bnd (idx r8 s340.2) fun x410 =>
 bnd (idx r8 s237.2) fun x421 =>
 bnd (lidarref07_lower x410 x421) fun r432 =>
 j37 (!(r432)))
 else (j37 true))
 else (j37 false))
 (fun j38 => bnd (idx r8 s340.2) fun x344 =>
 bnd (idx r8 s237.2) fun x355 =>
 bnd (lidarref07_cell x344.X p1.Cell) fun r366 =>
 bnd (lidarref07_cell x355.X p1.Cell) fun r369 =>
 if r366 = r369 then (bnd (idx r8 s340.2) fun x374 =>
 bnd (idx r8 s237.2) fun x385 =>
 bnd (lidarref07_cell x374.Y p1.Cell) fun r396 =>
 bnd (lidarref07_cell x385.Y p1.Cell) fun r399 =>
 j38 (decide (r396 = r399)))
 else (j38 false))))
 else (some (.inr s340.1))
noncomputable def lidarref07_Seeds_l7 (r8 : List S_api_Point) (p1 : S_api_Terrain) : ((List S_api_Point) × Int) → Option (Sum ((List S_api_Point) × Int) (List S_api_Point)) := fun s237 =>
 if s237.2 < ((((r8).length : Nat) : Int)) then (jn (fun (s27 : List S_api_Point) =>
 some (.inl (s27, w64 (s237.2 + 1))))
 (fun j27 => jn (fun (s29 : Bool) =>
 if s29 = true then (bnd (idx r8 s237.2) fun x442 =>
 gd (((s237.1).length + 1) * 72 ≤ 140737488355328) <|
 j27 (s237.1 ++ [x442]))
 else (j27 s237.1))
 (fun j29 => bnd (lfix (lidarref07_Seeds_l11 r8 s237 p1) (true, 0)) fun t340 =>
 j29 t340)))
 else (some (.inr s237.1))
noncomputable def lidarref07_Seeds (p0 : List S_api_Point) (p1 : S_api_Terrain) : Option ((List Int) × Int) :=
 bnd (lidarref07_checked p0 p1) fun r2 =>
 if r2 = 0 then (bnd (lidarref07_candidates p0 p1) fun r8 =>
 jn (fun (s8 : List S_api_Point) =>
 bnd (lidarref07_ids s8) fun r465 =>
 some (r465, 0))
 (fun j8 => bnd (lfix (lidarref07_Seeds_l7 r8 p1) (([] : List S_api_Point), 0)) fun t237 =>
 j8 t237))
 else (some (([] : List Int), r2))
noncomputable def lidarref01_Turn (p0 : S_api_XY) (p1 : S_api_XY) (p2 : S_api_XY) : Option Int :=
 if (w64 ((w64 ((w64 (p1.X - p0.X)) * (w64 (p2.Y - p0.Y)))) - (w64 ((w64 (p1.Y - p0.Y)) * (w64 (p2.X - p0.X)))))) < 0 then (some (-1))
 else (if 0 < (w64 ((w64 ((w64 (p1.X - p0.X)) * (w64 (p2.Y - p0.Y)))) - (w64 ((w64 (p1.Y - p0.Y)) * (w64 (p2.X - p0.X)))))) then (some 1)
 else (some 0))
noncomputable def lidarref07_Ring_l2 (p0 : List S_api_XY) : Int → Option (Sum Int (Sum Unit Bool)) := fun s22 =>
 if s22 < ((((p0).length : Nat) : Int)) then (bnd (idx p0 s22) fun x26 =>
 bnd (lidarref01_Place x26) fun r37 =>
 if r37 = true then (some (.inl (w64 (s22 + 1))))
 else (some (.inr (.inr (false)))))
 else (some (.inr (.inl ())))
noncomputable def lidarref07_Ring (p0 : List S_api_XY) : Option Bool :=
 jn (fun (s2 : Unit) =>
 jn (fun (s14 : Bool) =>
 some s14)
 (fun j14 => if 3 ≤ ((((p0).length : Nat) : Int)) then (j14 (decide (((((p0).length : Nat) : Int)) ≤ 64)))
 else (j14 false)))
 (fun j2 => bnd (lfix (lidarref07_Ring_l2 p0) 0) fun t22 =>
 (match t22 with
 | (.inl z22) => j2 z22
 | (.inr (z22)) => some z22
 ))
noncomputable def lidarref07_Within_l7 (p0 : List S_api_XY) (p1 : S_api_XY) : (Bool × Int) → Option (Sum (Bool × Int) (Sum Bool (Bool × Int))) := fun s124 =>
 if s124.2 < ((((p0).length : Nat) : Int)) then (jn (fun (s24 : Bool) =>
 some (.inl (s24, w64 (s124.2 + 1))))
 (fun j24 => jn (fun (s25 : Int × Int × Int × Int) =>
 bnd (lidarref01_Turn (⟨s25.1, s25.2.1⟩ : S_api_XY) (⟨s25.2.2.1, s25.2.2.2⟩ : S_api_XY) p1) fun r185 =>
 jn (fun (s28 : Bool) =>
 if s28 = true then (some (.inr (.inr (true, 0))))
 else (jn (fun (s30 : Bool) =>
 jn (fun (s31 : Bool) =>
 jn (fun (s32 : Bool) =>
 if s32 = true then (j24 (!(s124.1)))
 else (j24 s124.1))
 (fun j32 => if s30 = true then (if 0 < r185 then (j32 true)
 else (if s31 = true then (j32 (decide (r185 < 0)))
 else (j32 false)))
 else (if s31 = true then (j32 (decide (r185 < 0)))
 else (j32 false))))
 (fun j31 => if p1.Y < s25.2.1 then (j31 (decide (s25.2.2.2 ≤ p1.Y)))
 else (j31 false)))
 (fun j30 => if s25.2.1 ≤ p1.Y then (j30 (decide (p1.Y < s25.2.2.2)))
 else (j30 false))))
 (fun j28 => if r185 = 0 then (bnd (lidarref07_within p1.X (min s25.1 s25.2.2.1) (max s25.1 s25.2.2.1)) fun r190 =>
 if r190 = true then (bnd (lidarref07_within p1.Y (min s25.2.1 s25.2.2.2) (max s25.2.1 s25.2.2.2)) fun r195 =>
 j28 r195)
 else (j28 false))
 else (j28 false)))
 (fun j25 => bnd (idx p0 s124.2) fun x128 =>
 gd (((((p0).length : Nat) : Int)) ≠ 0) <|
 bnd (idx p0 (Int.tmod (w64 (s124.2 + 1)) ((((p0).length : Nat) : Int)))) fun x141 =>
 j25 (x128.X, x128.Y, x141.X, x141.Y))))
 else (some (.inr (.inl s124.1)))
noncomputable def lidarref07_Within (p0 : List S_api_XY) (p1 : S_api_XY) : Option (Bool × Int) :=
 bnd (lidarref07_Ring p0) fun r2 =>
 if r2 = true then (bnd (lidarref01_Place p1) fun r8 =>
 if r8 = true then (jn (fun (s9 : Bool) =>
 some (s9, 0))
 (fun j9 => bnd (lfix (lidarref07_Within_l7 p0 p1) (false, 0)) fun t124 =>
 (match t124 with
 | (.inl z124) => j9 z124
 | (.inr (z124)) => some z124
 )))
 else (some (false, 11)))
 else (some (false, 72))
noncomputable def lidarref07_class (p0 : Int) : Option Bool :=
 jn (fun (s2 : Bool) =>
 some s2)
 (fun j2 => if p0 = 0 then (j2 true)
 else (if p0 = 1 then (j2 true)
 else (if p0 = 2 then (j2 true)
 else (if p0 = 5 then (j2 true)
 else (if p0 = 6 then (j2 true)
 else (j2 (decide (p0 = 7))))))))
noncomputable def lidarref07_Correct_l6 (p2 : List S_api_Edit) : Int → Option (Sum Int (Sum Unit ((List Int) × Int))) := fun s62 =>
 if s62 < ((((p2).length : Nat) : Int)) then (bnd (idx p2 s62) fun x66 =>
 jn (fun (s19 : Bool) =>
 if s19 = true then (some (.inr (.inr (([] : List Int), 73))))
 else (some (.inl (w64 (s62 + 1)))))
 (fun j19 => bnd (lidarref07_class x66.To) fun r83 =>
 if r83 = true then (if 0 < ((((x66.Ring).length : Nat) : Int)) then (bnd (lidarref07_Ring x66.Ring) fun r91 =>
 if r91 = true then (if x66.From = (-1) then (j19 false)
 else (bnd (lidarref07_class x66.From) fun r99 =>
 j19 (!(r99))))
 else (j19 true))
 else (j19 false))
 else (j19 true)))
 else (some (.inr (.inl ())))
noncomputable def lidarref07_Correct_l17 (p2 : List S_api_Edit) (p0 : List S_api_Point) (s290 : (List Int) × Int) : (Int × Int) → Option (Sum (Int × Int) Int) := fun s384 =>
 if s384.2 < ((((p2).length : Nat) : Int)) then (jn (fun (s68 : Int) =>
 some (.inl (s68, w64 (s384.2 + 1))))
 (fun j68 => bnd (idx p2 s384.2) fun x388 =>
 if ((((x388.Ring).length : Nat) : Int)) = 0 then (jn (fun (s72 : Int) =>
 j68 s72)
 (fun j72 => bnd (idx p0 s290.2) fun x407 =>
 if x388.Id = x407.Id then (j72 x388.To)
 else (j72 s384.1)))
 else (bnd (idx p0 s290.2) fun x424 =>
 bnd (idx p0 s290.2) fun x435 =>
 bnd (lidarref07_Within x388.Ring (⟨x424.X, x435.Y⟩ : S_api_XY)) fun r446 =>
 jn (fun (s75 : Bool) =>
 if s75 = true then (j68 x388.To)
 else (j68 s384.1))
 (fun j75 => if r446.1 = true then (if x388.From = (-1) then (j75 true)
 else (j75 (decide (x388.From = s384.1))))
 else (j75 false)))))
 else (some (.inr s384.1))
noncomputable def lidarref07_Correct_l13 (p0 : List S_api_Point) (p1 : List Int) (p2 : List S_api_Edit) : ((List Int) × Int) → Option (Sum ((List Int) × Int) (List Int)) := fun s290 =>
 if s290.2 < ((((p0).length : Nat) : Int)) then (bnd (idx p1 s290.2) fun x295 =>
 jn (fun (s54 : Int) =>
 gd (((s290.1).length + 1) * 8 ≤ 140737488355328) <|
 some (.inl (s290.1 ++ [s54], w64 (s290.2 + 1))))
 (fun j54 => bnd (lfix (lidarref07_Correct_l17 p2 p0 s290) (x295, 0)) fun t384 =>
 j54 t384))
 else (some (.inr s290.1))
noncomputable def lidarref07_Correct (p0 : List S_api_Point) (p1 : List Int) (p2 : List S_api_Edit) : Option ((List Int) × Int) :=
 bnd (lidarref07_Valid p0) fun r1 =>
 if r1 = true then (jn (fun (s5 : Bool) =>
 if s5 = true then (some (([] : List Int), 2))
 else (jn (fun (s7 : Unit) =>
 jn (fun (s22 : List Int) =>
 some (s22, 0))
 (fun j22 => bnd (lfix (lidarref07_Correct_l13 p0 p1 p2) (([] : List Int), 0)) fun t290 =>
 j22 t290))
 (fun j7 => bnd (lfix (lidarref07_Correct_l6 p2) 0) fun t62 =>
 (match t62 with
 | (.inl z62) => j7 z62
 | (.inr (z62)) => some z62
 ))))
 (fun j5 => if ((((p1).length : Nat) : Int)) = ((((p0).length : Nat) : Int)) then (j5 (decide (64 < ((((p2).length : Nat) : Int)))))
 else (j5 true)))
 else (some (([] : List Int), 70))
noncomputable def lidarlaw07_sameInts_l4 (p0 : List Int) (p1 : List Int) : Int → Option (Sum Int (Sum Unit Bool)) := fun s33 =>
 if s33 < ((((p0).length : Nat) : Int)) then (bnd (idx p0 s33) fun x37 =>
 bnd (idx p1 s33) fun x48 =>
 if x37 = x48 then (some (.inl (w64 (s33 + 1))))
 else (some (.inr (.inr (false)))))
 else (some (.inr (.inl ())))
noncomputable def lidarlaw07_sameInts (p0 : List Int) (p1 : List Int) : Option Bool :=
 if ((((p0).length : Nat) : Int)) = ((((p1).length : Nat) : Int)) then (jn (fun (s5 : Unit) =>
 some true)
 (fun j5 => bnd (lfix (lidarlaw07_sameInts_l4 p0 p1) 0) fun t33 =>
 (match t33 with
 | (.inl z33) => j5 z33
 | (.inr (z33)) => some z33
 )))
 else (some false)
noncomputable def lidarlaw07_many (p0 : List S_api_Point) (p1 : Int) : Option Bool :=
 jn (fun (s2 : Bool) =>
 some s2)
 (fun j2 => if 300 < ((((p0).length : Nat) : Int)) then (j2 true)
 else (if p1 < ((((p0).length : Nat) : Int)) then (bnd (lidarref07_Valid p0) fun r6 =>
 j2 r6)
 else (j2 false)))
noncomputable def lidarlaw07_large_l4 (p0 : List S_api_Edit) : Int → Option (Sum Int (Sum Unit Bool)) := fun s27 =>
 if s27 < ((((p0).length : Nat) : Int)) then (bnd (idx p0 s27) fun x31 =>
 if 200 < ((((x31.Ring).length : Nat) : Int)) then (some (.inr (.inr (true))))
 else (some (.inl (w64 (s27 + 1)))))
 else (some (.inr (.inl ())))
noncomputable def lidarlaw07_large (p0 : List S_api_Edit) : Option Bool :=
 if 100 < ((((p0).length : Nat) : Int)) then (some true)
 else (jn (fun (s5 : Unit) =>
 some false)
 (fun j5 => bnd (lfix (lidarlaw07_large_l4 p0) 0) fun t27 =>
 (match t27 with
 | (.inl z27) => j5 z27
 | (.inr (z27)) => some z27
 )))
noncomputable def lidarlaw07_first  : Option Bool :=
 bnd (label_Within ([(⟨0, 0⟩ : S_api_XY), (⟨4, 0⟩ : S_api_XY), (⟨4, 4⟩ : S_api_XY), (⟨0, 4⟩ : S_api_XY)]) (⟨4, 2⟩ : S_api_XY)) fun r3 =>
 bnd (label_Within ([(⟨0, 0⟩ : S_api_XY), (⟨4, 0⟩ : S_api_XY), (⟨4, 4⟩ : S_api_XY), (⟨0, 4⟩ : S_api_XY)]) (⟨5, 2⟩ : S_api_XY)) fun r7 =>
 bnd (label_Seeds ([(⟨1, 0, 0, (⟨3, 3⟩ : S_api_Span), 0, 1, 1, 0⟩ : S_api_Point), (⟨2, 5, 5, (⟨1, 1⟩ : S_api_Span), 0, 1, 1, 0⟩ : S_api_Point), (⟨3, 12, 0, (⟨2, 2⟩ : S_api_Span), 0, 1, 1, 0⟩ : S_api_Point)]) (⟨10, 0, 0, 1, 0, 0, 0, 0, 0, 1⟩ : S_api_Terrain)) fun r12 =>
 jn (fun (s6 : Bool) =>
 some s6)
 (fun j6 => if r3.2 = 0 then (if r7.2 = 0 then (if r3.1 = true then (if r7.1 = true then (j6 false)
 else (if r12.2 = 0 then (if ((((r12.1).length : Nat) : Int)) = 2 then (bnd (idx r12.1 0) fun x29 =>
 if x29 = 2 then (bnd (idx r12.1 1) fun x42 =>
 j6 (decide (x42 = 3)))
 else (j6 false))
 else (j6 false))
 else (j6 false)))
 else (j6 false))
 else (j6 false))
 else (j6 false))
set_option maxRecDepth 100000 in
theorem lidarref07_Seeds_ok (p0 : List S_api_Point) (p1 : S_api_Terrain) {K : List Ent} {A0_0 : Option Addr} {c0_0 : Nat} (ha0 : Has K A0_0 (p0).length c0_0 9 e_api_Point (p0)) {r : (List Int) × Int} (hx : lidarref07_Seeds p0 p1 = some r) (w : World) (hK : ∀ e ∈ K, Ent.ok w e) : CtL Try.prog 22 [.slice (A0_0) ((p0).length) (c0_0), .agg #[.int .i64 (p1.Cell), .int .i64 (p1.Reach), .int .i64 (p1.Slope), .int .i64 (p1.Link), .int .i64 (p1.Flat), .int .i64 (p1.Tall), .int .i64 (p1.High), .int .i64 (p1.Low), .int .i64 (p1.Brush), .int .i64 (p1.Few)]] w fun v Ln => ∃ (A0 : Option Addr) (c0 : Nat), v = .tuple #[.slice (A0) ((r.1).length) (c0), .int .i64 (r.2)] ∧ Ln = [.r A0 (r.1).length c0 3 1 ((r.1).flatMap e_i64)] ∧ True := by
  have ha0' := Has.up0 ha0
  refine CtL.mk 97 Try.func22 rfl Try.ntmps22 (by kernel_rfl) rfl ?_
  show T 97 _ [(0, .slice (A0_0) ((p0).length) (c0_0)), (1, .agg #[.int .i64 (p1.Cell), .int .i64 (p1.Reach), .int .i64 (p1.Slope), .int .i64 (p1.Link), .int .i64 (p1.Flat), .int .i64 (p1.Tall), .int .i64 (p1.High), .int .i64 (p1.Low), .int .i64 (p1.Brush), .int .i64 (p1.Few)])] _
  unfold lidarref07_Seeds at hx
  refine T_seq ?_
  refine T_reg ?_
  refine T_x (Wx_box rfl rfl rfl (fun g1 => ?_))
  refine T_val (Ev_assign rfl) rfl ?_
  refine T_val (Ev_assign rfl) rfl ?_
  refine T_nil ?_
  refine T_next ?_
  refine T_seq ?_
  refine T_seq ?_
  refine T_reg ?_
  refine T_val (Ev_move rfl) rfl ?_
  refine T_val (Ev_loadK rfl (i := 0) rfl rfl agg33) rfl ?_
  obtain ⟨r2, h3, hx4⟩ := bnd_some hx
  refine T_x (Wx_callL rfl (fun w1 hw1 => lidarref07_checked_ok p0 p1 (Has.len' ha0') h3 w1 (okApp (K := K) (K2 := []) hK (by exact (SubE.cons2 (i := 1) rfl (SubE.nil))) (by exact (SubE.nil)) hw1)) rfl ?_)
  rintro _ _ hlo ⟨rfl, rfl, -⟩
  refine T_app0 ?_
  refine T_val (Ev_assign rfl) rfl ?_
  refine T_nil ?_
  refine T_next ?_
  refine T_seq ?_
  refine T_reg ?_
  refine T_val (Ev_move rfl) rfl ?_
  refine T_val (Ev_neq rfl rfl) rfl ?_
  refine T_nil ?_
  refine T_next ?_
  refine T_caseNP (s := 17) rfl (fun h5 => ?_) (fun h5 => ?_)
  · have hx6 := ite_f h5 hx4
    refine T_condT rfl ?_
    refine T_seq ?_
    refine T_reg ?_
    refine T_val (Ev_move rfl) rfl ?_
    refine T_val (Ev_assign rfl) rfl ?_
    refine T_val (Ev_assign rfl) rfl ?_
    refine T_nil ?_
    refine T_next ?_
    refine T_retc ?_
    refine T_outR ?_
    refine T_none 3 1 ?_
    obtain rfl := Option.some.inj hx6
    exact T_retP (rs := [.tmp 4, .tmp 5]) Try.results22 (.tmp rfl (.tmp rfl (.nil))) (Ln := [.r (none) (0) (0) 3 1 ((([] : List Int)).flatMap e_i64)]) ⟨none, 0, rfl, rfl, trivial⟩ (loCons rfl (loNil)) (by exact .pick 0 rfl (.drop 0 rfl (.refl)))
  · have hx7 := ite_t h5 hx4
    refine T_condF rfl ?_
    refine T_skip ?_
    refine T_next ?_
    refine T_seq ?_
    refine T_reg ?_
    refine T_val (Ev_move rfl) rfl ?_
    refine T_val (Ev_loadK rfl (i := 0) rfl rfl agg33) rfl ?_
    obtain ⟨r8, h9, hx10⟩ := bnd_some hx7
    refine T_x (Wx_callL rfl (fun w1 hw1 => lidarref07_candidates_ok p0 p1 (Has.len' ha0') h9 w1 (okApp (K := K) (K2 := []) hK (by exact (SubE.cons2 (i := 1) rfl (SubE.nil))) (by exact (SubE.nil)) hw1)) rfl ?_)
    rintro _ _ hlo ⟨A11, c12, rfl, rfl, -⟩
    refine T_app1 ?_
    refine T_val (Ev_assign rfl) rfl ?_
    refine T_nil ?_
    refine T_next ?_
    refine T_seq ?_
    refine T_reg ?_
    refine T_val (Ev_assign rfl) rfl ?_
    refine T_nil ?_
    refine T_next ?_
    obtain ⟨j8, hj8, hx10⟩ := jn_some hx10
    refine T_cutP (τ := List S_api_Point) (γ := (Option Addr) × Nat) (J := j8) (out := r) (fun s8 y8 => [(8, .slice (y8.1) ((s8).length) (y8.2))]) (fun s8 y8 => [.r (y8.1) ((s8).length) (y8.2) 53 9 ((s8).flatMap e_api_Point)] ++ [.old w]) (fun s8 y8 => True) ?_ ?_
    · intro s8 y8 hx461 hG462
      subst hj8
      refine T_seq ?_
      refine T_reg ?_
      refine T_val (Ev_move rfl) rfl ?_
      refine T_rowP (k := 0) rfl (by decide) (fun _ => rfl) (fun hn463 hs464 => ?_)
      obtain ⟨r465, h466, hx467⟩ := bnd_some hx461
      refine T_x (Wx_callL rfl (fun w1 hw1 => lidarref07_ids_ok s8 (Has.len' hs464) h466 w1 (okAll (K := ([.r (y8.1) ((s8).length) (y8.2) 53 9 ((s8).flatMap e_api_Point)] : List Ent)) (by exact (SubE.cons2 (i := 0) rfl (SubE.nil))) hw1)) rfl ?_)
      rintro _ _ hlo ⟨A468, c469, rfl, rfl, -⟩
      refine T_app1 ?_
      refine T_val (Ev_assign rfl) rfl ?_
      refine T_val (Ev_assign rfl) rfl ?_
      refine T_nil ?_
      refine T_next ?_
      refine T_retc ?_
      obtain rfl := Option.some.inj hx467
      exact T_retP (rs := [.tmp 4, .tmp 5]) Try.results22 (.tmp rfl (.tmp rfl (.nil))) (Ln := [.r (A468) ((r465).length) (c469) 3 1 ((r465).flatMap e_i64)]) ⟨A468, c469, rfl, rfl, trivial⟩ (loCons rfl (loNil)) (by exact .pick 0 rfl (.drop 0 rfl (.refl)))
    · skip
      refine T_seq ?_
      refine T_reg ?_
      refine T_val (Ev_assign rfl) rfl ?_
      refine T_nil ?_
      refine T_next ?_
      refine T_block ?_
      obtain ⟨t237, hl237, ho237⟩ := bnd_some hx10
      refine T_none 53 9 ?_
      have hn238 : 0 = (([] : List S_api_Point)).length := by simp [setI_len, cpy_len, List.length_append] <;> omega
      refine T_ent (.here) (e' := .r (none) ((([] : List S_api_Point)).length) (0) 53 9 ((([] : List S_api_Point)).flatMap e_api_Point)) (by first | (rw [← hn238]; done) | rfl) ?_
      refine T_loopP (σ := (List S_api_Point) × Int) (γ := (Option Addr) × Nat) hl237 (fun s237 y237 => [(3, .pointer (some ⟨g1, 0, none⟩)), (7, .slice (A11) ((r8).length) (c12)), (8, .slice (y237.1) ((s237.1).length) (y237.2)), (9, .int .i64 (s237.2))]) (fun s237 y237 => [.r (y237.1) ((s237.1).length) (y237.2) 53 9 ((s237.1).flatMap e_api_Point), .r (A11) ((r8).length) (c12) 53 9 ((r8).flatMap e_api_Point), .m g1 33 [.int .i64 (p1.Cell), .int .i64 (p1.Reach), .int .i64 (p1.Slope), .int .i64 (p1.Link), .int .i64 (p1.Flat), .int .i64 (p1.Tall), .int .i64 (p1.High), .int .i64 (p1.Low), .int .i64 (p1.Brush), .int .i64 (p1.Few)]] ++ [.old w]) (fun s237 y237 => True) (none, 0) trivial (by exact .cons rfl (.cons rfl (.cons rfl (.cons rfl (.nil))))) (by exact .pick 0 rfl (.pick 0 rfl (.pick 0 rfl (.refl)))) ?_
      intro s237 y237 hG237 x237 hx237 ht237
      unfold lidarref07_Seeds_l7 at hx237
      refine T_seq ?_
      refine T_seq ?_
      refine T_reg ?_
      refine T_val (Ev_move rfl) rfl ?_
      refine T_val (Ev_move rfl) rfl ?_
      refine T_val (Ev_len rfl 53 Try.underlying31) rfl ?_
      refine T_val (Ev_lss rfl rfl) rfl ?_
      refine T_nil ?_
      refine T_next ?_
      refine T_caseP (s := 25) rfl (fun h239 => ?_) (fun h239 => ?_)
      · have hx240 := ite_t h239 hx237
        refine T_condT rfl ?_
        refine T_skip ?_
        refine T_next ?_
        obtain ⟨j27, hj27, hx240⟩ := jn_some hx240
        refine T_cutP (τ := List S_api_Point) (γ := (Option Addr) × Nat) (J := j27) (out := x237) (fun s27 y27 => [(3, .pointer (some ⟨g1, 0, none⟩)), (7, .slice (A11) ((r8).length) (c12)), (8, .slice (y27.1) ((s27).length) (y27.2)), (9, .int .i64 (s237.2))]) (fun s27 y27 => [.r (y27.1) ((s27).length) (y27.2) 53 9 ((s27).flatMap e_api_Point), .r (A11) ((r8).length) (c12) 53 9 ((r8).flatMap e_api_Point), .m g1 33 [.int .i64 (p1.Cell), .int .i64 (p1.Reach), .int .i64 (p1.Slope), .int .i64 (p1.Link), .int .i64 (p1.Flat), .int .i64 (p1.Tall), .int .i64 (p1.High), .int .i64 (p1.Low), .int .i64 (p1.Brush), .int .i64 (p1.Few)]] ++ [.old w]) (fun s27 y27 => True) ?_ ?_
        · intro s27 y27 hx459 hG460
          subst hj27
          refine T_reg ?_
          refine T_val (Ev_move rfl) rfl ?_
          refine T_val (Ev_add_w64 rfl rfl) rfl ?_
          refine T_val (Ev_assign rfl) rfl ?_
          refine T_nil ?_
          exact T_roundP (s27, w64 (s237.2 + 1)) (y27.1, y27.2) hx459 trivial (by exact .cons rfl (.cons rfl (.cons rfl (.cons rfl (.nil))))) (by exact .pick 0 rfl (.pick 0 rfl (.pick 0 rfl (.refl))))
        · skip
          refine T_block ?_
          refine T_seq ?_
          refine T_reg ?_
          refine T_val (Ev_assign rfl) rfl ?_
          refine T_nil ?_
          refine T_next ?_
          obtain ⟨j29, hj29, hx240⟩ := jn_some hx240
          refine T_cutP (τ := Bool) (γ := Unit) (J := j29) (out := x237) (fun s29 y29 => [(3, .pointer (some ⟨g1, 0, none⟩)), (7, .slice (A11) ((r8).length) (c12)), (8, .slice (y237.1) ((s237.1).length) (y237.2)), (9, .int .i64 (s237.2)), (10, .bool (s29))]) (fun s29 y29 => [.r (y237.1) ((s237.1).length) (y237.2) 53 9 ((s237.1).flatMap e_api_Point), .r (A11) ((r8).length) (c12) 53 9 ((r8).flatMap e_api_Point), .m g1 33 [.int .i64 (p1.Cell), .int .i64 (p1.Reach), .int .i64 (p1.Slope), .int .i64 (p1.Link), .int .i64 (p1.Flat), .int .i64 (p1.Tall), .int .i64 (p1.High), .int .i64 (p1.Low), .int .i64 (p1.Brush), .int .i64 (p1.Few)]] ++ [.old w]) (fun s29 y29 => True) ?_ ?_
          · intro s29 y29 hx438 hG439
            subst hj29
            refine T_seq ?_
            refine T_reg ?_
            refine T_val (Ev_move rfl) rfl ?_
            refine T_nil ?_
            refine T_next ?_
            refine T_caseB (s := 87) rfl (fun h440 => ?_) (fun h440 => ?_)
            · have hx441 := ite_t h440 hx438
              refine T_condT rfl ?_
              refine T_reg ?_
              refine T_val (Ev_move rfl) rfl ?_
              refine T_val (Ev_move rfl) rfl ?_
              refine T_val (Ev_move rfl) rfl ?_
              obtain ⟨x442, h443, hx444⟩ := bnd_some hx441
              refine T_idxR (k := 1) rfl (by decide) (fun _ => rfl) h443 (fun b445 j447 hA448 hj449 hl450 hm452 hp451 => ?_)
              refine T_val (Ev_index rfl rfl hA448 (j := j447) hj449 hl450 slc31) rfl ?_
              refine T_val (Ev_loadPK0 rfl hp451 (SubE.cons2 (i := 1) rfl (SubE.nil)) rfl agg53) rfl ?_
              refine T_x (Wx_buildSlice rfl (bls31_1_0ai64i64i64i64i64i64i64i64i64 _ _ _ _ _ _ _ _ _) rfl (fun g453 => ?_))
              obtain ⟨h454, hx455⟩ := gd_some hx444
              refine T_h (Wh_appendP e_api_Point (s237.1) [x442] rfl rfl rfl elm31 (fun _ => rfl) (i' := 0) rfl rfl rfl rfl h454 rfl (fun _ _ => .there (.here)) (fun _ _ => .drop .refl) (by decide) (fun A456 c457 => ?_))
              refine T_val (Ev_assign rfl) rfl ?_
              refine T_nil ?_
              refine T_inN ?_
              exact T_metP (s237.1 ++ [x442]) (A456, c457) hx455 trivial (by exact .cons rfl (.cons rfl (.cons rfl (.cons rfl (.nil))))) (by exact .pick 0 rfl (.pick 0 rfl (.pick 0 rfl (.refl))))
            · have hx458 := ite_bf h440 hx438
              refine T_condF rfl ?_
              refine T_skip ?_
              refine T_inN ?_
              exact T_metP s237.1 (y237.1, y237.2) hx458 trivial (by exact .cons rfl (.cons rfl (.cons rfl (.cons rfl (.nil))))) (by exact .pick 0 rfl (.pick 0 rfl (.pick 0 rfl (.refl))))
          · skip
            refine T_seq ?_
            refine T_reg ?_
            refine T_val (Ev_assign rfl) rfl ?_
            refine T_nil ?_
            refine T_next ?_
            refine T_block ?_
            obtain ⟨t340, hl340, ho340⟩ := bnd_some hx240
            refine T_loopP (σ := Bool × Int) (γ := Unit) hl340 (fun s340 y340 => [(3, .pointer (some ⟨g1, 0, none⟩)), (7, .slice (A11) ((r8).length) (c12)), (8, .slice (y237.1) ((s237.1).length) (y237.2)), (9, .int .i64 (s237.2)), (10, .bool (s340.1)), (11, .int .i64 (s340.2))]) (fun s340 y340 => [.r (y237.1) ((s237.1).length) (y237.2) 53 9 ((s237.1).flatMap e_api_Point), .r (A11) ((r8).length) (c12) 53 9 ((r8).flatMap e_api_Point), .m g1 33 [.int .i64 (p1.Cell), .int .i64 (p1.Reach), .int .i64 (p1.Slope), .int .i64 (p1.Link), .int .i64 (p1.Flat), .int .i64 (p1.Tall), .int .i64 (p1.High), .int .i64 (p1.Low), .int .i64 (p1.Brush), .int .i64 (p1.Few)]] ++ [.old w]) (fun s340 y340 => True) () trivial (by exact .cons rfl (.cons rfl (.cons rfl (.cons rfl (.cons rfl (.cons rfl (.nil))))))) (by exact .pick 0 rfl (.pick 0 rfl (.pick 0 rfl (.refl)))) ?_
            intro s340 y340 hG340 x340 hx340 ht340
            unfold lidarref07_Seeds_l11 at hx340
            refine T_seq ?_
            refine T_seq ?_
            refine T_reg ?_
            refine T_val (Ev_move rfl) rfl ?_
            refine T_val (Ev_move rfl) rfl ?_
            refine T_val (Ev_len rfl 53 Try.underlying31) rfl ?_
            refine T_val (Ev_lss rfl rfl) rfl ?_
            refine T_nil ?_
            refine T_next ?_
            refine T_caseP (s := 31) rfl (fun h341 => ?_) (fun h341 => ?_)
            · have hx342 := ite_t h341 hx340
              refine T_condT rfl ?_
              refine T_skip ?_
              refine T_next ?_
              obtain ⟨j37, hj37, hx342⟩ := jn_some hx342
              refine T_cutP (τ := Bool) (γ := Unit) (J := j37) (out := x340) (fun s37 y37 => [(3, .pointer (some ⟨g1, 0, none⟩)), (7, .slice (A11) ((r8).length) (c12)), (8, .slice (y237.1) ((s237.1).length) (y237.2)), (9, .int .i64 (s237.2)), (10, .bool (s37)), (11, .int .i64 (s340.2))]) (fun s37 y37 => [.r (y237.1) ((s237.1).length) (y237.2) 53 9 ((s237.1).flatMap e_api_Point), .r (A11) ((r8).length) (c12) 53 9 ((r8).flatMap e_api_Point), .m g1 33 [.int .i64 (p1.Cell), .int .i64 (p1.Reach), .int .i64 (p1.Slope), .int .i64 (p1.Link), .int .i64 (p1.Flat), .int .i64 (p1.Tall), .int .i64 (p1.High), .int .i64 (p1.Low), .int .i64 (p1.Brush), .int .i64 (p1.Few)]] ++ [.old w]) (fun s37 y37 => True) ?_ ?_
              · intro s37 y37 hx436 hG437
                subst hj37
                refine T_reg ?_
                refine T_val (Ev_move rfl) rfl ?_
                refine T_val (Ev_add_w64 rfl rfl) rfl ?_
                refine T_val (Ev_assign rfl) rfl ?_
                refine T_nil ?_
                exact T_roundP (s37, w64 (s340.2 + 1)) () hx436 trivial (by exact .cons rfl (.cons rfl (.cons rfl (.cons rfl (.cons rfl (.cons rfl (.nil))))))) (by exact .pick 0 rfl (.pick 0 rfl (.pick 0 rfl (.refl))))
              · skip
                refine T_block ?_
                obtain ⟨j38, hj38, hx342⟩ := jn_some hx342
                refine T_cutP (τ := Bool) (γ := Unit) (J := j38) (out := x340) (fun s38 y38 => [(3, .pointer (some ⟨g1, 0, none⟩)), (7, .slice (A11) ((r8).length) (c12)), (8, .slice (y237.1) ((s237.1).length) (y237.2)), (9, .int .i64 (s237.2)), (10, .bool (s340.1)), (11, .int .i64 (s340.2)), (12, .bool (s38))]) (fun s38 y38 => [.r (y237.1) ((s237.1).length) (y237.2) 53 9 ((s237.1).flatMap e_api_Point), .r (A11) ((r8).length) (c12) 53 9 ((r8).flatMap e_api_Point), .m g1 33 [.int .i64 (p1.Cell), .int .i64 (p1.Reach), .int .i64 (p1.Slope), .int .i64 (p1.Link), .int .i64 (p1.Flat), .int .i64 (p1.Tall), .int .i64 (p1.High), .int .i64 (p1.Low), .int .i64 (p1.Brush), .int .i64 (p1.Few)]] ++ [.old w]) (fun s38 y38 => True) ?_ ?_
                · intro s38 y38 hx403 hG404
                  subst hj38
                  refine T_draw [0, 0, 0, 0, 0, 0, 0, 0, 1, 0, 0, 0, 1, 2, 0, 0, 0, 2] [[], [0], [0, 1], [0, 1, 2], [0, 1, 2, 3], [0, 1, 2, 3, 4], [0, 1, 2, 3, 4], [0, 1, 2, 3, 4, 5, 6], [0, 1, 2, 3, 4, 5, 6, 7], [0, 1, 2, 3, 4], [0, 1, 2, 3, 4], [0, 1, 2, 3, 4, 9, 10], [0, 1, 2, 3, 4, 9, 10, 11], [0, 1, 2, 3, 4, 5, 6, 7, 8, 9, 10, 11, 12], [0, 1, 2, 3, 4, 5, 6, 7, 8, 9, 10, 11, 12, 13], [0, 1, 2, 3, 4, 5, 6, 7, 8, 9, 10, 11, 12, 13, 14], [0, 1, 2, 3, 4, 5, 6, 7, 8, 9, 10, 11, 12, 13, 14, 15], [0, 1, 2, 3, 4, 5, 6, 7, 8, 9, 10, 11, 12, 13, 14, 15, 16]] (.q 0 (.q 1 (.q 2 (.q 3 (.q 4 (.q 5 (.q 6 (.q 7 (.q 8 (.q 9 (.q 10 (.q 11 (.q 12 (.e 13 (.q 14 (.q 15 (.q 16 (.e 17 (.done) (.stop))))) (.stop))))))))))))))) mixed (by kernel_rfl) (by kernel_rfl) ?_
                  refine P_p rfl rfl (Ev_move rfl) rfl ?_
                  refine P_p rfl rfl (Ev_move rfl) rfl ?_
                  refine T_caseB (s := 71) rfl (fun h405 => ?_) (fun h405 => ?_)
                  · have hx406 := ite_t h405 hx403
                    refine P_pG rfl rfl rfl rfl rfl (Ev_move rfl) rfl ?_
                    refine P_pG rfl rfl rfl rfl rfl (Ev_not rfl) rfl ?_
                    refine P_pG rfl rfl rfl rfl rfl (Ev_move rfl) rfl ?_
                    refine T_caseNB (s := 74) rfl (fun h407 => ?_) (fun h407 => ?_)
                    · have hx408 := ite_bf h407 hx406
                      refine P_skip rfl rfl rfl rfl rfl rfl ?_
                      refine P_skip rfl rfl rfl rfl rfl rfl ?_
                      refine P_skip rfl rfl rfl rfl rfl rfl ?_
                      refine P_skip rfl rfl rfl rfl rfl rfl ?_
                      refine P_skip rfl rfl rfl rfl rfl rfl ?_
                      refine P_skip rfl rfl rfl rfl rfl rfl ?_
                      refine P_skip rfl rfl rfl rfl rfl rfl ?_
                      refine P_skip rfl rfl rfl rfl rfl rfl ?_
                      refine P_skipE rfl rfl rfl rfl rfl rfl ?_ ?_
                      rotate_left; exact P_stop
                      refine P_skip rfl rfl rfl rfl rfl rfl ?_
                      refine P_pG rfl rfl rfl rfl rfl (Ev_pickT rfl rfl) rfl ?_
                      refine P_p rfl rfl (Ev_pickT rfl rfl) rfl ?_
                      refine P_x rfl (Wx_val (Ev_assign rfl) rfl ?_) ?_
                      rotate_left; exact P_stop
                      refine P_done ?_
                      refine T_inN ?_
                      exact T_metP true () hx408 trivial (by exact .cons rfl (.cons rfl (.cons rfl (.cons rfl (.cons rfl (.cons rfl (.nil))))))) (by exact .pick 0 rfl (.pick 0 rfl (.pick 0 rfl (.refl))))
                    · have hx409 := ite_t h407 hx406
                      refine P_pG rfl rfl rfl rfl rfl (Ev_move rfl) rfl ?_
                      refine P_pG rfl rfl rfl rfl rfl (Ev_move rfl) rfl ?_
                      obtain ⟨x410, h411, hx412⟩ := bnd_some hx409
                      refine T_idxR (k := 1) rfl (by decide) (fun _ => rfl) h411 (fun b413 j415 hA416 hj417 hl418 hm420 hp419 => ?_)
                      refine P_pG rfl rfl rfl rfl rfl (Ev_index rfl rfl hA416 (j := j415) hj417 hl418 slc31) rfl ?_
                      refine P_qG rfl rfl rfl rfl rfl (Ev_loadPK0 rfl hp419 (SubE.cons2 (i := 1) rfl (SubE.nil)) rfl agg53) rfl ?_
                      refine P_pG rfl rfl rfl rfl rfl (Ev_move rfl) rfl ?_
                      refine P_pG rfl rfl rfl rfl rfl (Ev_move rfl) rfl ?_
                      obtain ⟨x421, h422, hx423⟩ := bnd_some hx412
                      refine T_idxR (k := 1) rfl (by decide) (fun _ => rfl) h422 (fun b424 j426 hA427 hj428 hl429 hm431 hp430 => ?_)
                      refine P_pG rfl rfl rfl rfl rfl (Ev_index rfl rfl hA427 (j := j426) hj428 hl429 slc31) rfl ?_
                      refine P_qG rfl rfl rfl rfl rfl (Ev_loadPK0 rfl hp430 (SubE.cons2 (i := 1) rfl (SubE.nil)) rfl agg53) rfl ?_
                      obtain ⟨r432, h433, hx434⟩ := bnd_some hx423
                      refine P_xG rfl rfl rfl rfl (Wx_callL rfl (fun w1 hw1 => lidarref07_lower_ok x410 x421  h433 w1) rfl ?_) ?_
                      rotate_left; exact P_stop
                      rintro _ _ hlo ⟨rfl, rfl, -⟩
                      refine T_app0 ?_
                      refine P_pG rfl rfl rfl rfl rfl (Ev_not rfl) rfl ?_
                      refine P_pG rfl rfl rfl rfl rfl (Ev_pickF rfl rfl) rfl ?_
                      refine P_p rfl rfl (Ev_pickT rfl rfl) rfl ?_
                      refine P_x rfl (Wx_val (Ev_assign rfl) rfl ?_) ?_
                      rotate_left; exact P_stop
                      refine P_done ?_
                      refine T_inN ?_
                      exact T_metP (!(r432)) () hx434 trivial (by exact .cons rfl (.cons rfl (.cons rfl (.cons rfl (.cons rfl (.cons rfl (.nil))))))) (by exact .pick 0 rfl (.pick 0 rfl (.pick 0 rfl (.refl))))
                  · have hx435 := ite_bf h405 hx403
                    refine P_skip rfl rfl rfl rfl rfl rfl ?_
                    refine P_skip rfl rfl rfl rfl rfl rfl ?_
                    refine P_skip rfl rfl rfl rfl rfl rfl ?_
                    refine P_skipU rfl rfl rfl rfl rfl ?_
                    refine P_skipU rfl rfl rfl rfl rfl ?_
                    refine P_skipU rfl rfl rfl rfl rfl ?_
                    refine P_skipU rfl rfl rfl rfl rfl ?_
                    refine P_skipU rfl rfl rfl rfl rfl ?_
                    refine P_skipU rfl rfl rfl rfl rfl ?_
                    refine P_skipU rfl rfl rfl rfl rfl ?_
                    refine P_skipU rfl rfl rfl rfl rfl ?_
                    refine P_skipEU rfl rfl rfl rfl rfl ?_ ?_
                    rotate_left; exact P_stop
                    refine P_skipU rfl rfl rfl rfl rfl ?_
                    refine P_skip rfl rfl rfl rfl rfl rfl ?_
                    refine P_p rfl rfl (Ev_pickF rfl rfl) rfl ?_
                    refine P_x rfl (Wx_val (Ev_assign rfl) rfl ?_) ?_
                    rotate_left; exact P_stop
                    refine P_done ?_
                    refine T_inN ?_
                    exact T_metP false () hx435 trivial (by exact .cons rfl (.cons rfl (.cons rfl (.cons rfl (.cons rfl (.cons rfl (.nil))))))) (by exact .pick 0 rfl (.pick 0 rfl (.pick 0 rfl (.refl))))
                · skip
                  refine T_draw [0, 0, 0, 0, 1, 0, 1, 2, 0, 0, 0, 0, 1, 0, 1, 2, 0, 0, 0, 0, 0, 0, 1, 0, 1, 2, 0, 0, 0, 0, 1, 0, 1, 2, 0, 0, 2] [[], [], [0, 1], [0, 1, 2], [0, 1, 2, 3], [], [5], [0, 1, 2, 3, 4, 5, 6], [], [], [8, 9], [8, 9, 10], [8, 9, 10, 11], [], [13], [0, 1, 2, 3, 4, 5, 6, 7, 8, 9, 10, 11, 12, 13, 14], [0, 1, 2, 3, 4, 5, 6, 7, 8, 9, 10, 11, 12, 13, 14, 15], [0, 1, 2, 3, 4, 5, 6, 7, 8, 9, 10, 11, 12, 13, 14, 15, 16], [0, 1, 2, 3, 4, 5, 6, 7, 8, 9, 10, 11, 12, 13, 14, 15, 16, 17], [0, 1, 2, 3, 4, 5, 6, 7, 8, 9, 10, 11, 12, 13, 14, 15, 16, 17], [0, 1, 2, 3, 4, 5, 6, 7, 8, 9, 10, 11, 12, 13, 14, 15, 16, 17, 18, 19], [0, 1, 2, 3, 4, 5, 6, 7, 8, 9, 10, 11, 12, 13, 14, 15, 16, 17, 18, 19, 20], [0, 1, 2, 3, 4, 5, 6, 7, 8, 9, 10, 11, 12, 13, 14, 15, 16, 17, 18, 19, 20, 21], [0, 1, 2, 3, 4, 5, 6, 7, 8, 9, 10, 11, 12, 13, 14, 15, 16, 17], [0, 1, 2, 3, 4, 5, 6, 7, 8, 9, 10, 11, 12, 13, 14, 15, 16, 17, 23], [0, 1, 2, 3, 4, 5, 6, 7, 8, 9, 10, 11, 12, 13, 14, 15, 16, 17, 18, 19, 20, 21, 22, 23, 24], [0, 1, 2, 3, 4, 5, 6, 7, 8, 9, 10, 11, 12, 13, 14, 15, 16, 17], [0, 1, 2, 3, 4, 5, 6, 7, 8, 9, 10, 11, 12, 13, 14, 15, 16, 17], [0, 1, 2, 3, 4, 5, 6, 7, 8, 9, 10, 11, 12, 13, 14, 15, 16, 17, 26, 27], [0, 1, 2, 3, 4, 5, 6, 7, 8, 9, 10, 11, 12, 13, 14, 15, 16, 17, 26, 27, 28], [0, 1, 2, 3, 4, 5, 6, 7, 8, 9, 10, 11, 12, 13, 14, 15, 16, 17, 26, 27, 28, 29], [0, 1, 2, 3, 4, 5, 6, 7, 8, 9, 10, 11, 12, 13, 14, 15, 16, 17], [0, 1, 2, 3, 4, 5, 6, 7, 8, 9, 10, 11, 12, 13, 14, 15, 16, 17, 31], [0, 1, 2, 3, 4, 5, 6, 7, 8, 9, 10, 11, 12, 13, 14, 15, 16, 17, 18, 19, 20, 21, 22, 23, 24, 25, 26, 27, 28, 29, 30, 31, 32], [0, 1, 2, 3, 4, 5, 6, 7, 8, 9, 10, 11, 12, 13, 14, 15, 16, 17, 18, 19, 20, 21, 22, 23, 24, 25, 26, 27, 28, 29, 30, 31, 32, 33], [0, 1, 2, 3, 4, 5, 6, 7, 8, 9, 10, 11, 12, 13, 14, 15, 16, 17, 18, 19, 20, 21, 22, 23, 24, 25, 26, 27, 28, 29, 30, 31, 32, 33, 34], [0, 1, 2, 3, 4, 5, 6, 7, 8, 9, 10, 11, 12, 13, 14, 15, 16, 17, 18, 19, 20, 21, 22, 23, 24, 25, 26, 27, 28, 29, 30, 31, 32, 33, 34, 35]] (.q 0 (.q 1 (.q 2 (.q 3 (.q 4 (.q 5 (.q 6 (.q 8 (.q 9 (.q 10 (.q 11 (.q 12 (.q 13 (.q 14 (.e 7 (.e 15 (.q 16 (.q 17 (.q 18 (.q 19 (.q 20 (.q 21 (.q 22 (.q 23 (.q 24 (.q 26 (.q 27 (.q 28 (.q 29 (.q 30 (.q 31 (.q 32 (.e 25 (.e 33 (.q 34 (.q 35 (.e 36 (.done) (.stop)))) (.stop)) (.stop)))))))))))))))))) (.stop)) (.stop)))))))))))))))) mixed (by kernel_rfl) (by kernel_rfl) ?_
                  refine P_p rfl rfl (Ev_move rfl) rfl ?_
                  refine P_p rfl rfl (Ev_move rfl) rfl ?_
                  obtain ⟨x344, h345, hx346⟩ := bnd_some hx342
                  refine T_idxR (k := 1) rfl (by decide) (fun _ => rfl) h345 (fun b347 j349 hA350 hj351 hl352 hm354 hp353 => ?_)
                  refine P_p rfl rfl (Ev_index rfl rfl hA350 (j := j349) hj351 hl352 slc31) rfl ?_
                  refine P_p rfl rfl (Ev_field rfl fld53_1 rfl) rfl ?_
                  refine P_q rfl rfl (Ev_loadP1 (d := 1) rfl hp353 (SubE.cons2 (i := 1) rfl (SubE.nil)) rfl one3) rfl ?_
                  refine P_p rfl rfl (Ev_field rfl fld33_0 rfl) rfl ?_
                  refine P_q rfl rfl (Ev_load1 rfl (i := 2) rfl rfl one3) rfl ?_
                  refine P_p rfl rfl (Ev_move rfl) rfl ?_
                  refine P_p rfl rfl (Ev_move rfl) rfl ?_
                  obtain ⟨x355, h356, hx357⟩ := bnd_some hx346
                  refine T_idxR (k := 1) rfl (by decide) (fun _ => rfl) h356 (fun b358 j360 hA361 hj362 hl363 hm365 hp364 => ?_)
                  refine P_p rfl rfl (Ev_index rfl rfl hA361 (j := j360) hj362 hl363 slc31) rfl ?_
                  refine P_p rfl rfl (Ev_field rfl fld53_1 rfl) rfl ?_
                  refine P_q rfl rfl (Ev_loadP1 (d := 1) rfl hp364 (SubE.cons2 (i := 1) rfl (SubE.nil)) rfl one3) rfl ?_
                  refine P_p rfl rfl (Ev_field rfl fld33_0 rfl) rfl ?_
                  refine P_q rfl rfl (Ev_load1 rfl (i := 2) rfl rfl one3) rfl ?_
                  obtain ⟨r366, h367, hx368⟩ := bnd_some hx357
                  refine P_x rfl (Wx_callL rfl (fun w1 hw1 => lidarref07_cell_ok x344.X p1.Cell  h367 w1) rfl ?_) ?_
                  rotate_left; exact P_stop
                  rintro _ _ hlo ⟨rfl, rfl, -⟩
                  refine T_app0 ?_
                  obtain ⟨r369, h370, hx371⟩ := bnd_some hx368
                  refine P_x rfl (Wx_callL rfl (fun w1 hw1 => lidarref07_cell_ok x355.X p1.Cell  h370 w1) rfl ?_) ?_
                  rotate_left; exact P_stop
                  rintro _ _ hlo ⟨rfl, rfl, -⟩
                  refine T_app0 ?_
                  refine P_p rfl rfl (Ev_eql rfl rfl) rfl ?_
                  refine P_p rfl rfl (Ev_move rfl) rfl ?_
                  refine T_caseP (s := 51) rfl (fun h372 => ?_) (fun h372 => ?_)
                  · have hx373 := ite_t h372 hx371
                    refine P_pG rfl rfl rfl rfl rfl (Ev_move rfl) rfl ?_
                    refine P_pG rfl rfl rfl rfl rfl (Ev_move rfl) rfl ?_
                    obtain ⟨x374, h375, hx376⟩ := bnd_some hx373
                    refine T_idxR (k := 1) rfl (by decide) (fun _ => rfl) h375 (fun b377 j379 hA380 hj381 hl382 hm384 hp383 => ?_)
                    refine P_pG rfl rfl rfl rfl rfl (Ev_index rfl rfl hA380 (j := j379) hj381 hl382 slc31) rfl ?_
                    refine P_pG rfl rfl rfl rfl rfl (Ev_field rfl fld53_2 rfl) rfl ?_
                    refine P_qG rfl rfl rfl rfl rfl (Ev_loadP1 (d := 2) rfl hp383 (SubE.cons2 (i := 1) rfl (SubE.nil)) rfl one3) rfl ?_
                    refine P_pG rfl rfl rfl rfl rfl (Ev_field rfl fld33_0 rfl) rfl ?_
                    refine P_qG rfl rfl rfl rfl rfl (Ev_load1 rfl (i := 2) rfl rfl one3) rfl ?_
                    refine P_pG rfl rfl rfl rfl rfl (Ev_move rfl) rfl ?_
                    refine P_pG rfl rfl rfl rfl rfl (Ev_move rfl) rfl ?_
                    obtain ⟨x385, h386, hx387⟩ := bnd_some hx376
                    refine T_idxR (k := 1) rfl (by decide) (fun _ => rfl) h386 (fun b388 j390 hA391 hj392 hl393 hm395 hp394 => ?_)
                    refine P_pG rfl rfl rfl rfl rfl (Ev_index rfl rfl hA391 (j := j390) hj392 hl393 slc31) rfl ?_
                    refine P_pG rfl rfl rfl rfl rfl (Ev_field rfl fld53_2 rfl) rfl ?_
                    refine P_qG rfl rfl rfl rfl rfl (Ev_loadP1 (d := 2) rfl hp394 (SubE.cons2 (i := 1) rfl (SubE.nil)) rfl one3) rfl ?_
                    refine P_pG rfl rfl rfl rfl rfl (Ev_field rfl fld33_0 rfl) rfl ?_
                    refine P_qG rfl rfl rfl rfl rfl (Ev_load1 rfl (i := 2) rfl rfl one3) rfl ?_
                    obtain ⟨r396, h397, hx398⟩ := bnd_some hx387
                    refine P_xG rfl rfl rfl rfl (Wx_callL rfl (fun w1 hw1 => lidarref07_cell_ok x374.Y p1.Cell  h397 w1) rfl ?_) ?_
                    rotate_left; exact P_stop
                    rintro _ _ hlo ⟨rfl, rfl, -⟩
                    refine T_app0 ?_
                    obtain ⟨r399, h400, hx401⟩ := bnd_some hx398
                    refine P_xG rfl rfl rfl rfl (Wx_callL rfl (fun w1 hw1 => lidarref07_cell_ok x385.Y p1.Cell  h400 w1) rfl ?_) ?_
                    rotate_left; exact P_stop
                    rintro _ _ hlo ⟨rfl, rfl, -⟩
                    refine T_app0 ?_
                    refine P_pG rfl rfl rfl rfl rfl (Ev_eql rfl rfl) rfl ?_
                    refine P_p rfl rfl (Ev_pickT rfl rfl) rfl ?_
                    refine P_x rfl (Wx_val (Ev_assign rfl) rfl ?_) ?_
                    rotate_left; exact P_stop
                    refine P_done ?_
                    exact T_metP (decide (r396 = r399)) () hx401 trivial (by exact .cons rfl (.cons rfl (.cons rfl (.cons rfl (.cons rfl (.cons rfl (.cons rfl (.nil)))))))) (by exact .pick 0 rfl (.pick 0 rfl (.pick 0 rfl (.refl))))
                  · have hx402 := ite_f h372 hx371
                    refine P_skip rfl rfl rfl rfl rfl rfl ?_
                    refine P_skip rfl rfl rfl rfl rfl rfl ?_
                    refine P_skip rfl rfl rfl rfl rfl rfl ?_
                    refine P_skip rfl rfl rfl rfl rfl rfl ?_
                    refine P_skip rfl rfl rfl rfl rfl rfl ?_
                    refine P_skip rfl rfl rfl rfl rfl rfl ?_
                    refine P_skip rfl rfl rfl rfl rfl rfl ?_
                    refine P_skip rfl rfl rfl rfl rfl rfl ?_
                    refine P_skip rfl rfl rfl rfl rfl rfl ?_
                    refine P_skip rfl rfl rfl rfl rfl rfl ?_
                    refine P_skip rfl rfl rfl rfl rfl rfl ?_
                    refine P_skip rfl rfl rfl rfl rfl rfl ?_
                    refine P_skip rfl rfl rfl rfl rfl rfl ?_
                    refine P_skip rfl rfl rfl rfl rfl rfl ?_
                    refine P_skipE rfl rfl rfl rfl rfl rfl ?_ ?_
                    rotate_left; exact P_stop
                    refine P_skipE rfl rfl rfl rfl rfl rfl ?_ ?_
                    rotate_left; exact P_stop
                    refine P_skip rfl rfl rfl rfl rfl rfl ?_
                    refine P_p rfl rfl (Ev_pickF rfl rfl) rfl ?_
                    refine P_x rfl (Wx_val (Ev_assign rfl) rfl ?_) ?_
                    rotate_left; exact P_stop
                    refine P_done ?_
                    exact T_metP false () hx402 trivial (by exact .cons rfl (.cons rfl (.cons rfl (.cons rfl (.cons rfl (.cons rfl (.cons rfl (.nil)))))))) (by exact .pick 0 rfl (.pick 0 rfl (.pick 0 rfl (.refl))))
            · have hx343 := ite_f h341 hx340
              refine T_condF rfl ?_
              refine T_exit ?_
              refine T_outX ?_
              obtain rfl := exit_eq ht340 hx343
              refine T_outX ?_
              refine T_here ?_
              exact T_metP s340.1 () ho340 trivial (by exact .cons rfl (.cons rfl (.cons rfl (.cons rfl (.cons rfl (.nil)))))) (by exact .pick 0 rfl (.pick 0 rfl (.pick 0 rfl (.refl))))
      · have hx241 := ite_f h239 hx237
        refine T_condF rfl ?_
        refine T_exit ?_
        refine T_outX ?_
        obtain rfl := exit_eq ht237 hx241
        refine T_outX ?_
        refine T_here ?_
        exact T_metP s237.1 (y237.1, y237.2) ho237 trivial (by exact .cons rfl (.nil)) (by exact .pick 0 rfl (.drop 0 rfl (.drop 0 rfl (.refl))))
set_option maxRecDepth 100000 in
theorem lidarref01_Turn_ok (p0 : S_api_XY) (p1 : S_api_XY) (p2 : S_api_XY)  {r : Int} (hx : lidarref01_Turn p0 p1 p2 = some r) (w : World) : CtL Try.prog 31 [.agg #[.int .i64 (p0.X), .int .i64 (p0.Y)], .agg #[.int .i64 (p1.X), .int .i64 (p1.Y)], .agg #[.int .i64 (p2.X), .int .i64 (p2.Y)]] w fun v Ln => v = .int .i64 (r) ∧ Ln = [] ∧ True := by
  refine CtL.mk 35 Try.func31 rfl Try.ntmps31 (by kernel_rfl) rfl ?_
  show T 35 _ [(0, .agg #[.int .i64 (p0.X), .int .i64 (p0.Y)]), (1, .agg #[.int .i64 (p1.X), .int .i64 (p1.Y)]), (2, .agg #[.int .i64 (p2.X), .int .i64 (p2.Y)])] _
  unfold lidarref01_Turn at hx
  refine T_seq ?_
  refine T_reg ?_
  refine T_x (Wx_box rfl rfl rfl (fun g1 => ?_))
  refine T_x (Wx_box rfl rfl rfl (fun g2 => ?_))
  refine T_x (Wx_box rfl rfl rfl (fun g3 => ?_))
  refine T_val (Ev_assign rfl) rfl ?_
  refine T_nil ?_
  refine T_next ?_
  refine T_seq ?_
  refine T_reg ?_
  refine T_val (Ev_field rfl fld24_0 rfl) rfl ?_
  refine T_val (Ev_load1 rfl (i := 1) rfl rfl one3) rfl ?_
  refine T_val (Ev_field rfl fld24_0 rfl) rfl ?_
  refine T_val (Ev_load1 rfl (i := 2) rfl rfl one3) rfl ?_
  refine T_val (Ev_sub_w64 rfl rfl) rfl ?_
  refine T_val (Ev_field rfl fld24_1 rfl) rfl ?_
  refine T_val (Ev_load1 rfl (i := 0) rfl rfl one3) rfl ?_
  refine T_val (Ev_field rfl fld24_1 rfl) rfl ?_
  refine T_val (Ev_load1 rfl (i := 2) rfl rfl one3) rfl ?_
  refine T_val (Ev_sub_w64 rfl rfl) rfl ?_
  refine T_val (Ev_mul_w64 rfl rfl) rfl ?_
  refine T_val (Ev_field rfl fld24_1 rfl) rfl ?_
  refine T_val (Ev_load1 rfl (i := 1) rfl rfl one3) rfl ?_
  refine T_val (Ev_field rfl fld24_1 rfl) rfl ?_
  refine T_val (Ev_load1 rfl (i := 2) rfl rfl one3) rfl ?_
  refine T_val (Ev_sub_w64 rfl rfl) rfl ?_
  refine T_val (Ev_field rfl fld24_0 rfl) rfl ?_
  refine T_val (Ev_load1 rfl (i := 0) rfl rfl one3) rfl ?_
  refine T_val (Ev_field rfl fld24_0 rfl) rfl ?_
  refine T_val (Ev_load1 rfl (i := 2) rfl rfl one3) rfl ?_
  refine T_val (Ev_sub_w64 rfl rfl) rfl ?_
  refine T_val (Ev_mul_w64 rfl rfl) rfl ?_
  refine T_val (Ev_sub_w64 rfl rfl) rfl ?_
  refine T_val (Ev_assign rfl) rfl ?_
  refine T_nil ?_
  refine T_next ?_
  refine T_seq ?_
  refine T_seq ?_
  refine T_reg ?_
  refine T_val (Ev_move rfl) rfl ?_
  refine T_val (Ev_lss rfl rfl) rfl ?_
  refine T_nil ?_
  refine T_next ?_
  refine T_caseP (s := 32) rfl (fun h4 => ?_) (fun h4 => ?_)
  · have hx5 := ite_t h4 hx
    refine T_condT rfl ?_
    refine T_seq ?_
    refine T_reg ?_
    refine T_val (Ev_assign rfl) rfl ?_
    refine T_nil ?_
    refine T_next ?_
    refine T_retc ?_
    refine T_outR ?_
    obtain rfl := Option.some.inj hx5
    exact T_retP (rs := [.tmp 6]) Try.results31 (.tmp rfl (.nil)) (Ln := []) ⟨rfl, rfl, trivial⟩ (loNil) (by exact .drop 0 rfl (.drop 0 rfl (.drop 0 rfl (.refl))))
  · have hx6 := ite_f h4 hx
    refine T_condF rfl ?_
    refine T_skip ?_
    refine T_next ?_
    refine T_seq ?_
    refine T_seq ?_
    refine T_reg ?_
    refine T_val (Ev_move rfl) rfl ?_
    refine T_val (Ev_gtr rfl rfl) rfl ?_
    refine T_nil ?_
    refine T_next ?_
    refine T_caseP (s := 34) rfl (fun h7 => ?_) (fun h7 => ?_)
    · have hx8 := ite_t h7 hx6
      refine T_condT rfl ?_
      refine T_seq ?_
      refine T_reg ?_
      refine T_val (Ev_assign rfl) rfl ?_
      refine T_nil ?_
      refine T_next ?_
      refine T_retc ?_
      refine T_outR ?_
      obtain rfl := Option.some.inj hx8
      exact T_retP (rs := [.tmp 6]) Try.results31 (.tmp rfl (.nil)) (Ln := []) ⟨rfl, rfl, trivial⟩ (loNil) (by exact .drop 0 rfl (.drop 0 rfl (.drop 0 rfl (.refl))))
    · have hx9 := ite_f h7 hx6
      refine T_condF rfl ?_
      refine T_skip ?_
      refine T_next ?_
      refine T_seq ?_
      refine T_reg ?_
      refine T_val (Ev_assign rfl) rfl ?_
      refine T_nil ?_
      refine T_next ?_
      refine T_retc ?_
      obtain rfl := Option.some.inj hx9
      exact T_retP (rs := [.tmp 6]) Try.results31 (.tmp rfl (.nil)) (Ln := []) ⟨rfl, rfl, trivial⟩ (loNil) (by exact .drop 0 rfl (.drop 0 rfl (.drop 0 rfl (.refl))))
set_option maxRecDepth 100000 in
theorem lidarref07_Ring_ok (p0 : List S_api_XY) {K : List Ent} {A0_0 : Option Addr} {c0_0 : Nat} (ha0 : Has K A0_0 (p0).length c0_0 2 e_api_XY (p0)) {r : Bool} (hx : lidarref07_Ring p0 = some r) (w : World) (hK : ∀ e ∈ K, Ent.ok w e) : CtL Try.prog 29 [.slice (A0_0) ((p0).length) (c0_0)] w fun v Ln => v = .bool (r) ∧ Ln = [] ∧ True := by
  have ha0' := Has.up0 ha0
  refine CtL.mk 24 Try.func29 rfl Try.ntmps29 (by kernel_rfl) rfl ?_
  show T 24 _ [(0, .slice (A0_0) ((p0).length) (c0_0))] _
  unfold lidarref07_Ring at hx
  refine T_seq ?_
  refine T_reg ?_
  refine T_val (Ev_assign rfl) rfl ?_
  refine T_nil ?_
  refine T_next ?_
  obtain ⟨j2, hj2, hx⟩ := jn_some hx
  refine T_cutP (τ := Unit) (γ := Unit) (J := j2) (out := r) (fun s2 y2 => [(0, .slice (A0_0) ((p0).length) (c0_0))]) (fun s2 y2 => [] ++ [.old w]) (fun s2 y2 => True) ?_ ?_
  · intro s2 y2 hx43 hG44
    subst hj2
    obtain ⟨j14, hj14, hx43⟩ := jn_some hx43
    refine T_cutP (τ := Bool) (γ := Unit) (J := j14) (out := r) (fun s14 y14 => [(2, .bool (s14))]) (fun s14 y14 => [] ++ [.old w]) (fun s14 y14 => True) ?_ ?_
    · intro s14 y14 hx48 hG49
      subst hj14
      refine T_retc ?_
      obtain rfl := Option.some.inj hx48
      exact T_retP (rs := [.tmp 2]) Try.results29 (.tmp rfl (.nil)) (Ln := []) ⟨rfl, rfl, trivial⟩ (loNil) (by exact .refl)
    · skip
      refine T_reg ?_
      refine T_val (Ev_move rfl) rfl ?_
      refine T_val (Ev_len rfl 24 Try.underlying22) rfl ?_
      refine T_val (Ev_geq rfl rfl) rfl ?_
      refine T_val (Ev_move rfl) rfl ?_
      refine T_caseP (s := 19) rfl (fun h45 => ?_) (fun h45 => ?_)
      · have hx46 := ite_t h45 hx43
        refine T_valG rfl rfl rfl (Ev_move rfl) rfl ?_
        refine T_valG rfl rfl rfl (Ev_len rfl 24 Try.underlying22) rfl ?_
        refine T_valG rfl rfl rfl (Ev_leq rfl rfl) rfl ?_
        refine T_val (Ev_pickT rfl rfl) rfl ?_
        refine T_val (Ev_assign rfl) rfl ?_
        refine T_nil ?_
        exact T_metP (decide (((((p0).length : Nat) : Int)) ≤ 64)) () hx46 trivial (by exact .cons rfl (.nil)) (by exact .refl)
      · have hx47 := ite_f h45 hx43
        refine T_skipG rfl rfl rfl rfl rfl ?_
        refine T_skipG rfl rfl rfl rfl rfl ?_
        refine T_skipG rfl rfl rfl rfl rfl ?_
        refine T_val (Ev_pickF rfl rfl) rfl ?_
        refine T_val (Ev_assign rfl) rfl ?_
        refine T_nil ?_
        exact T_metP false () hx47 trivial (by exact .cons rfl (.nil)) (by exact .refl)
  · skip
    refine T_seq ?_
    refine T_reg ?_
    refine T_val (Ev_assign rfl) rfl ?_
    refine T_nil ?_
    refine T_next ?_
    refine T_block ?_
    obtain ⟨t22, hl22, ho22⟩ := bnd_some hx
    refine T_loopP (σ := Int) (γ := Unit) hl22 (fun s22 y22 => [(0, .slice (A0_0) ((p0).length) (c0_0)), (3, .int .i64 (s22))]) (fun s22 y22 => [] ++ [.old w]) (fun s22 y22 => True) () trivial (by exact .cons rfl (.cons rfl (.nil))) (by exact .refl) ?_
    intro s22 y22 hG22 x22 hx22 ht22
    unfold lidarref07_Ring_l2 at hx22
    refine T_seq ?_
    refine T_seq ?_
    refine T_reg ?_
    refine T_val (Ev_move rfl) rfl ?_
    refine T_val (Ev_move rfl) rfl ?_
    refine T_val (Ev_len rfl 24 Try.underlying22) rfl ?_
    refine T_val (Ev_lss rfl rfl) rfl ?_
    refine T_nil ?_
    refine T_next ?_
    refine T_caseP (s := 7) rfl (fun h23 => ?_) (fun h23 => ?_)
    · have hx24 := ite_t h23 hx22
      refine T_condT rfl ?_
      refine T_skip ?_
      refine T_next ?_
      refine T_seq ?_
      refine T_block ?_
      refine T_seq ?_
      refine T_reg ?_
      refine T_val (Ev_move rfl) rfl ?_
      refine T_val (Ev_move rfl) rfl ?_
      obtain ⟨x26, h27, hx28⟩ := bnd_some hx24
      have hw36 := Has.low (E := []) ha0' hK
      obtain ⟨b29, o30, j31, hA32, hj33, hl34, hp35⟩ := Has.at_idx hw36 h27
      refine T_val (Ev_index rfl rfl hA32 (j := j31) hj33 hl34 slc22) rfl ?_
      refine T_val (Ev_loadPK0 rfl hp35 (SubE.cons2 (i := 0) rfl (SubE.nil)) rfl agg24) rfl ?_
      obtain ⟨r37, h38, hx39⟩ := bnd_some hx28
      refine T_x (Wx_callL rfl (fun w1 hw1 => lidarref01_Place_ok x26  h38 w1) rfl ?_)
      rintro _ _ hlo ⟨rfl, rfl, -⟩
      refine T_app0 ?_
      refine T_val (Ev_not rfl) rfl ?_
      refine T_nil ?_
      refine T_next ?_
      refine T_caseNB (s := 15) rfl (fun h40 => ?_) (fun h40 => ?_)
      · have hx41 := ite_bf h40 hx39
        refine T_condT rfl ?_
        refine T_seq ?_
        refine T_reg ?_
        refine T_val (Ev_assign rfl) rfl ?_
        refine T_nil ?_
        refine T_next ?_
        refine T_retc ?_
        refine T_inR ?_
        refine T_outR ?_
        obtain rfl := exit_eq ht22 hx41
        refine T_outR ?_
        refine T_inR ?_
        refine T_outR ?_
        obtain rfl := Option.some.inj ho22
        exact T_retP (rs := [.tmp 2]) Try.results29 (.tmp rfl (.nil)) (Ln := []) ⟨rfl, rfl, trivial⟩ (loNil) (by exact .refl)
      · have hx42 := ite_t h40 hx39
        refine T_condF rfl ?_
        refine T_skip ?_
        refine T_inN ?_
        refine T_next ?_
        refine T_reg ?_
        refine T_val (Ev_move rfl) rfl ?_
        refine T_val (Ev_add_w64 rfl rfl) rfl ?_
        refine T_val (Ev_assign rfl) rfl ?_
        refine T_nil ?_
        exact T_roundP (w64 (s22 + 1)) () hx42 trivial (by exact .cons rfl (.cons rfl (.nil))) (by exact .refl)
    · have hx25 := ite_f h23 hx22
      refine T_condF rfl ?_
      refine T_exit ?_
      refine T_outX ?_
      obtain rfl := exit_eq ht22 hx25
      refine T_outX ?_
      refine T_here ?_
      exact T_metP () () ho22 trivial (by exact .cons rfl (.nil)) (by exact .refl)
set_option maxRecDepth 100000 in
theorem lidarref07_Within_ok (p0 : List S_api_XY) (p1 : S_api_XY) {K : List Ent} {A0_0 : Option Addr} {c0_0 : Nat} (ha0 : Has K A0_0 (p0).length c0_0 2 e_api_XY (p0)) {r : Bool × Int} (hx : lidarref07_Within p0 p1 = some r) (w : World) (hK : ∀ e ∈ K, Ent.ok w e) : CtL Try.prog 10 [.slice (A0_0) ((p0).length) (c0_0), .agg #[.int .i64 (p1.X), .int .i64 (p1.Y)]] w fun v Ln => v = .tuple #[.bool (r.1), .int .i64 (r.2)] ∧ Ln = [] ∧ True := by
  have ha0' := Has.up0 ha0
  refine CtL.mk 112 Try.func10 rfl Try.ntmps10 (by kernel_rfl) rfl ?_
  show T 112 _ [(0, .slice (A0_0) ((p0).length) (c0_0)), (1, .agg #[.int .i64 (p1.X), .int .i64 (p1.Y)])] _
  unfold lidarref07_Within at hx
  refine T_seq ?_
  refine T_reg ?_
  refine T_x (Wx_box rfl rfl rfl (fun g1 => ?_))
  refine T_val (Ev_assign rfl) rfl ?_
  refine T_val (Ev_assign rfl) rfl ?_
  refine T_nil ?_
  refine T_next ?_
  refine T_seq ?_
  refine T_seq ?_
  refine T_reg ?_
  refine T_val (Ev_move rfl) rfl ?_
  obtain ⟨r2, h3, hx4⟩ := bnd_some hx
  refine T_x (Wx_callL rfl (fun w1 hw1 => lidarref07_Ring_ok p0 (Has.len' ha0') h3 w1 (okApp (K := K) (K2 := []) hK (by exact (SubE.cons2 (i := 1) rfl (SubE.nil))) (by exact (SubE.nil)) hw1)) rfl ?_)
  rintro _ _ hlo ⟨rfl, rfl, -⟩
  refine T_app0 ?_
  refine T_val (Ev_not rfl) rfl ?_
  refine T_nil ?_
  refine T_next ?_
  refine T_caseNB (s := 15) rfl (fun h5 => ?_) (fun h5 => ?_)
  · have hx6 := ite_bf h5 hx4
    refine T_condT rfl ?_
    refine T_seq ?_
    refine T_reg ?_
    refine T_val (Ev_assign rfl) rfl ?_
    refine T_val (Ev_assign rfl) rfl ?_
    refine T_nil ?_
    refine T_next ?_
    refine T_retc ?_
    refine T_outR ?_
    obtain rfl := Option.some.inj hx6
    exact T_retP (rs := [.tmp 4, .tmp 5]) Try.results10 (.tmp rfl (.tmp rfl (.nil))) (Ln := []) ⟨rfl, rfl, trivial⟩ (loNil) (by exact .drop 0 rfl (.refl))
  · have hx7 := ite_t h5 hx4
    refine T_condF rfl ?_
    refine T_skip ?_
    refine T_next ?_
    refine T_seq ?_
    refine T_seq ?_
    refine T_reg ?_
    refine T_val (Ev_loadK rfl (i := 0) rfl rfl agg24) rfl ?_
    obtain ⟨r8, h9, hx10⟩ := bnd_some hx7
    refine T_x (Wx_callL rfl (fun w1 hw1 => lidarref01_Place_ok p1  h9 w1) rfl ?_)
    rintro _ _ hlo ⟨rfl, rfl, -⟩
    refine T_app0 ?_
    refine T_val (Ev_not rfl) rfl ?_
    refine T_nil ?_
    refine T_next ?_
    refine T_caseNB (s := 18) rfl (fun h11 => ?_) (fun h11 => ?_)
    · have hx12 := ite_bf h11 hx10
      refine T_condT rfl ?_
      refine T_seq ?_
      refine T_reg ?_
      refine T_val (Ev_assign rfl) rfl ?_
      refine T_val (Ev_assign rfl) rfl ?_
      refine T_nil ?_
      refine T_next ?_
      refine T_retc ?_
      refine T_outR ?_
      obtain rfl := Option.some.inj hx12
      exact T_retP (rs := [.tmp 4, .tmp 5]) Try.results10 (.tmp rfl (.tmp rfl (.nil))) (Ln := []) ⟨rfl, rfl, trivial⟩ (loNil) (by exact .drop 0 rfl (.refl))
    · have hx13 := ite_t h11 hx10
      refine T_condF rfl ?_
      refine T_skip ?_
      refine T_next ?_
      refine T_seq ?_
      refine T_reg ?_
      refine T_val (Ev_assign rfl) rfl ?_
      refine T_nil ?_
      refine T_next ?_
      obtain ⟨j9, hj9, hx13⟩ := jn_some hx13
      refine T_cutP (τ := Bool) (γ := Unit) (J := j9) (out := r) (fun s9 y9 => [(6, .bool (s9))]) (fun s9 y9 => [] ++ [.old w]) (fun s9 y9 => True) ?_ ?_
      · intro s9 y9 hx234 hG235
        subst hj9
        refine T_seq ?_
        refine T_reg ?_
        refine T_val (Ev_move rfl) rfl ?_
        refine T_val (Ev_assign rfl) rfl ?_
        refine T_val (Ev_assign rfl) rfl ?_
        refine T_nil ?_
        refine T_next ?_
        refine T_retc ?_
        obtain rfl := Option.some.inj hx234
        exact T_retP (rs := [.tmp 4, .tmp 5]) Try.results10 (.tmp rfl (.tmp rfl (.nil))) (Ln := []) ⟨rfl, rfl, trivial⟩ (loNil) (by exact .refl)
      · skip
        refine T_seq ?_
        refine T_reg ?_
        refine T_val (Ev_assign rfl) rfl ?_
        refine T_nil ?_
        refine T_next ?_
        refine T_block ?_
        obtain ⟨t124, hl124, ho124⟩ := bnd_some hx13
        refine T_loopP (σ := Bool × Int) (γ := Unit) hl124 (fun s124 y124 => [(0, .slice (A0_0) ((p0).length) (c0_0)), (3, .pointer (some ⟨g1, 0, none⟩)), (6, .bool (s124.1)), (7, .int .i64 (s124.2))]) (fun s124 y124 => [.m g1 24 [.int .i64 (p1.X), .int .i64 (p1.Y)]] ++ [.old w]) (fun s124 y124 => True) () trivial (by exact .cons rfl (.cons rfl (.cons rfl (.cons rfl (.nil))))) (by exact .pick 0 rfl (.refl)) ?_
        intro s124 y124 hG124 x124 hx124 ht124
        unfold lidarref07_Within_l7 at hx124
        refine T_seq ?_
        refine T_seq ?_
        refine T_reg ?_
        refine T_val (Ev_move rfl) rfl ?_
        refine T_val (Ev_move rfl) rfl ?_
        refine T_val (Ev_len rfl 24 Try.underlying22) rfl ?_
        refine T_val (Ev_lss rfl rfl) rfl ?_
        refine T_nil ?_
        refine T_next ?_
        refine T_caseP (s := 22) rfl (fun h125 => ?_) (fun h125 => ?_)
        · have hx126 := ite_t h125 hx124
          refine T_condT rfl ?_
          refine T_skip ?_
          refine T_next ?_
          obtain ⟨j24, hj24, hx126⟩ := jn_some hx126
          refine T_cutP (τ := Bool) (γ := Unit) (J := j24) (out := x124) (fun s24 y24 => [(0, .slice (A0_0) ((p0).length) (c0_0)), (3, .pointer (some ⟨g1, 0, none⟩)), (6, .bool (s24)), (7, .int .i64 (s124.2))]) (fun s24 y24 => [.m g1 24 [.int .i64 (p1.X), .int .i64 (p1.Y)]] ++ [.old w]) (fun s24 y24 => True) ?_ ?_
          · intro s24 y24 hx232 hG233
            subst hj24
            refine T_reg ?_
            refine T_val (Ev_move rfl) rfl ?_
            refine T_val (Ev_add_w64 rfl rfl) rfl ?_
            refine T_val (Ev_assign rfl) rfl ?_
            refine T_nil ?_
            exact T_roundP (s24, w64 (s124.2 + 1)) () hx232 trivial (by exact .cons rfl (.cons rfl (.cons rfl (.cons rfl (.nil))))) (by exact .pick 0 rfl (.refl))
          · skip
            refine T_block ?_
            obtain ⟨j25, hj25, hx126⟩ := jn_some hx126
            refine T_cutP (τ := Int × Int × Int × Int) (γ := Nat × Nat) (J := j25) (out := x124) (fun s25 y25 => [(0, .slice (A0_0) ((p0).length) (c0_0)), (3, .pointer (some ⟨g1, 0, none⟩)), (6, .bool (s124.1)), (7, .int .i64 (s124.2)), (8, .pointer (some ⟨y25.1, 0, none⟩)), (9, .pointer (some ⟨y25.2, 0, none⟩))]) (fun s25 y25 => [.m y25.2 24 [.int .i64 (s25.2.2.1), .int .i64 (s25.2.2.2)], .m y25.1 24 [.int .i64 (s25.1), .int .i64 (s25.2.1)], .m g1 24 [.int .i64 (p1.X), .int .i64 (p1.Y)]] ++ [.old w]) (fun s25 y25 => True) ?_ ?_
            · intro s25 y25 hx183 hG184
              subst hj25
              refine T_seq ?_
              refine T_reg ?_
              refine T_val (Ev_loadK rfl (i := 1) rfl rfl agg24) rfl ?_
              refine T_val (Ev_loadK rfl (i := 0) rfl rfl agg24) rfl ?_
              refine T_val (Ev_loadK rfl (i := 2) rfl rfl agg24) rfl ?_
              obtain ⟨r185, h186, hx187⟩ := bnd_some hx183
              refine T_x (Wx_callL rfl (fun w1 hw1 => lidarref01_Turn_ok (⟨s25.1, s25.2.1⟩ : S_api_XY) (⟨s25.2.2.1, s25.2.2.2⟩ : S_api_XY) p1  h186 w1) rfl ?_)
              rintro _ _ hlo ⟨rfl, rfl, -⟩
              refine T_app0 ?_
              refine T_val (Ev_assign rfl) rfl ?_
              refine T_nil ?_
              refine T_next ?_
              refine T_seq ?_
              obtain ⟨j28, hj28, hx187⟩ := jn_some hx187
              refine T_cutP (τ := Bool) (γ := Unit) (J := j28) (out := x124) (fun s28 y28 => [(0, .slice (A0_0) ((p0).length) (c0_0)), (3, .pointer (some ⟨g1, 0, none⟩)), (6, .bool (s124.1)), (7, .int .i64 (s124.2)), (8, .pointer (some ⟨y25.1, 0, none⟩)), (9, .pointer (some ⟨y25.2, 0, none⟩)), (10, .int .i64 (r185)), (72, .bool (s28))]) (fun s28 y28 => [.m y25.2 24 [.int .i64 (s25.2.2.1), .int .i64 (s25.2.2.2)], .m y25.1 24 [.int .i64 (s25.1), .int .i64 (s25.2.1)], .m g1 24 [.int .i64 (p1.X), .int .i64 (p1.Y)]] ++ [.old w]) (fun s28 y28 => True) ?_ ?_
              · intro s28 y28 hx200 hG201
                subst hj28
                refine T_caseB (s := 72) rfl (fun h202 => ?_) (fun h202 => ?_)
                · have hx203 := ite_t h202 hx200
                  refine T_condT rfl ?_
                  refine T_seq ?_
                  refine T_reg ?_
                  refine T_val (Ev_assign rfl) rfl ?_
                  refine T_val (Ev_assign rfl) rfl ?_
                  refine T_nil ?_
                  refine T_next ?_
                  refine T_retc ?_
                  refine T_outR ?_
                  refine T_inR ?_
                  refine T_outR ?_
                  obtain rfl := exit_eq ht124 hx203
                  refine T_outR ?_
                  refine T_inR ?_
                  refine T_outR ?_
                  obtain rfl := Option.some.inj ho124
                  exact T_retP (rs := [.tmp 4, .tmp 5]) Try.results10 (.tmp rfl (.tmp rfl (.nil))) (Ln := []) ⟨rfl, rfl, trivial⟩ (loNil) (by exact .drop 0 rfl (.drop 0 rfl (.drop 0 rfl (.refl))))
                · have hx204 := ite_bf h202 hx200
                  refine T_condF rfl ?_
                  refine T_skip ?_
                  refine T_next ?_
                  obtain ⟨j30, hj30, hx204⟩ := jn_some hx204
                  refine T_cutP (τ := Bool) (γ := Unit) (J := j30) (out := x124) (fun s30 y30 => [(0, .slice (A0_0) ((p0).length) (c0_0)), (3, .pointer (some ⟨g1, 0, none⟩)), (6, .bool (s124.1)), (7, .int .i64 (s124.2)), (8, .pointer (some ⟨y25.1, 0, none⟩)), (9, .pointer (some ⟨y25.2, 0, none⟩)), (10, .int .i64 (r185)), (11, .bool (s30))]) (fun s30 y30 => [.m y25.2 24 [.int .i64 (s25.2.2.1), .int .i64 (s25.2.2.2)], .m y25.1 24 [.int .i64 (s25.1), .int .i64 (s25.2.1)], .m g1 24 [.int .i64 (p1.X), .int .i64 (p1.Y)]] ++ [.old w]) (fun s30 y30 => True) ?_ ?_
                  · intro s30 y30 hx208 hG209
                    subst hj30
                    obtain ⟨j31, hj31, hx208⟩ := jn_some hx208
                    refine T_cutP (τ := Bool) (γ := Unit) (J := j31) (out := x124) (fun s31 y31 => [(0, .slice (A0_0) ((p0).length) (c0_0)), (3, .pointer (some ⟨g1, 0, none⟩)), (6, .bool (s124.1)), (7, .int .i64 (s124.2)), (10, .int .i64 (r185)), (11, .bool (s30)), (12, .bool (s31))]) (fun s31 y31 => [.m g1 24 [.int .i64 (p1.X), .int .i64 (p1.Y)]] ++ [.old w]) (fun s31 y31 => True) ?_ ?_
                    · intro s31 y31 hx213 hG214
                      subst hj31
                      obtain ⟨j32, hj32, hx213⟩ := jn_some hx213
                      refine T_cutP (τ := Bool) (γ := Unit) (J := j32) (out := x124) (fun s32 y32 => [(0, .slice (A0_0) ((p0).length) (c0_0)), (3, .pointer (some ⟨g1, 0, none⟩)), (6, .bool (s124.1)), (7, .int .i64 (s124.2)), (108, .bool (s32))]) (fun s32 y32 => [.m g1 24 [.int .i64 (p1.X), .int .i64 (p1.Y)]] ++ [.old w]) (fun s32 y32 => True) ?_ ?_
                      · intro s32 y32 hx227 hG228
                        subst hj32
                        refine T_caseB (s := 108) rfl (fun h229 => ?_) (fun h229 => ?_)
                        · have hx230 := ite_t h229 hx227
                          refine T_condT rfl ?_
                          refine T_reg ?_
                          refine T_val (Ev_move rfl) rfl ?_
                          refine T_val (Ev_not rfl) rfl ?_
                          refine T_val (Ev_assign rfl) rfl ?_
                          refine T_nil ?_
                          refine T_inN ?_
                          exact T_metP (!(s124.1)) () hx230 trivial (by exact .cons rfl (.cons rfl (.cons rfl (.cons rfl (.nil))))) (by exact .pick 0 rfl (.refl))
                        · have hx231 := ite_bf h229 hx227
                          refine T_condF rfl ?_
                          refine T_skip ?_
                          refine T_inN ?_
                          exact T_metP s124.1 () hx231 trivial (by exact .cons rfl (.cons rfl (.cons rfl (.cons rfl (.nil))))) (by exact .pick 0 rfl (.refl))
                      · skip
                        refine T_reg ?_
                        refine T_val (Ev_move rfl) rfl ?_
                        refine T_val (Ev_move rfl) rfl ?_
                        refine T_caseB (s := 98) rfl (fun h215 => ?_) (fun h215 => ?_)
                        · have hx216 := ite_t h215 hx213
                          refine T_valG rfl rfl rfl (Ev_move rfl) rfl ?_
                          refine T_valG rfl rfl rfl (Ev_gtr rfl rfl) rfl ?_
                          refine T_val (Ev_pickT rfl rfl) rfl ?_
                          refine T_val (Ev_move rfl) rfl ?_
                          refine T_caseP (s := 102) rfl (fun h217 => ?_) (fun h217 => ?_)
                          · have hx218 := ite_t h217 hx216
                            refine T_skipG rfl rfl rfl rfl rfl ?_
                            refine T_skipG rfl rfl rfl rfl rfl ?_
                            refine T_skipU rfl rfl rfl rfl ?_
                            refine T_skipU rfl rfl rfl rfl ?_
                            refine T_skipG rfl rfl rfl rfl rfl ?_
                            refine T_val (Ev_pickT rfl rfl) rfl ?_
                            refine T_nil ?_
                            exact T_metP true () hx218 trivial (by exact .cons rfl (.cons rfl (.cons rfl (.cons rfl (.cons rfl (.nil)))))) (by exact .pick 0 rfl (.refl))
                          · have hx219 := ite_f h217 hx216
                            refine T_valG rfl rfl rfl (Ev_move rfl) rfl ?_
                            refine T_valG rfl rfl rfl (Ev_move rfl) rfl ?_
                            refine T_caseB (s := 104) rfl (fun h220 => ?_) (fun h220 => ?_)
                            · have hx221 := ite_t h220 hx219
                              refine T_valG rfl rfl rfl (Ev_move rfl) rfl ?_
                              refine T_valG rfl rfl rfl (Ev_lss rfl rfl) rfl ?_
                              refine T_valG rfl rfl rfl (Ev_pickT rfl rfl) rfl ?_
                              refine T_val (Ev_pickF rfl rfl) rfl ?_
                              refine T_nil ?_
                              exact T_metP (decide (r185 < 0)) () hx221 trivial (by exact .cons rfl (.cons rfl (.cons rfl (.cons rfl (.cons rfl (.nil)))))) (by exact .pick 0 rfl (.refl))
                            · have hx222 := ite_bf h220 hx219
                              refine T_skipG rfl rfl rfl rfl rfl ?_
                              refine T_skipG rfl rfl rfl rfl rfl ?_
                              refine T_valG rfl rfl rfl (Ev_pickF rfl rfl) rfl ?_
                              refine T_val (Ev_pickF rfl rfl) rfl ?_
                              refine T_nil ?_
                              exact T_metP false () hx222 trivial (by exact .cons rfl (.cons rfl (.cons rfl (.cons rfl (.cons rfl (.nil)))))) (by exact .pick 0 rfl (.refl))
                        · have hx223 := ite_bf h215 hx213
                          refine T_skipG rfl rfl rfl rfl rfl ?_
                          refine T_skipG rfl rfl rfl rfl rfl ?_
                          refine T_val (Ev_pickF rfl rfl) rfl ?_
                          refine T_val (Ev_move rfl) rfl ?_
                          refine T_valG rfl rfl rfl (Ev_move rfl) rfl ?_
                          refine T_valG rfl rfl rfl (Ev_move rfl) rfl ?_
                          refine T_caseB (s := 104) rfl (fun h224 => ?_) (fun h224 => ?_)
                          · have hx225 := ite_t h224 hx223
                            refine T_valG rfl rfl rfl (Ev_move rfl) rfl ?_
                            refine T_valG rfl rfl rfl (Ev_lss rfl rfl) rfl ?_
                            refine T_valG rfl rfl rfl (Ev_pickT rfl rfl) rfl ?_
                            refine T_val (Ev_pickF rfl rfl) rfl ?_
                            refine T_nil ?_
                            exact T_metP (decide (r185 < 0)) () hx225 trivial (by exact .cons rfl (.cons rfl (.cons rfl (.cons rfl (.cons rfl (.nil)))))) (by exact .pick 0 rfl (.refl))
                          · have hx226 := ite_bf h224 hx223
                            refine T_skipG rfl rfl rfl rfl rfl ?_
                            refine T_skipG rfl rfl rfl rfl rfl ?_
                            refine T_valG rfl rfl rfl (Ev_pickF rfl rfl) rfl ?_
                            refine T_val (Ev_pickF rfl rfl) rfl ?_
                            refine T_nil ?_
                            exact T_metP false () hx226 trivial (by exact .cons rfl (.cons rfl (.cons rfl (.cons rfl (.cons rfl (.nil)))))) (by exact .pick 0 rfl (.refl))
                    · skip
                      refine T_reg ?_
                      refine T_val (Ev_field rfl fld24_1 rfl) rfl ?_
                      refine T_val (Ev_load1 rfl (i := 1) rfl rfl one3) rfl ?_
                      refine T_val (Ev_field rfl fld24_1 rfl) rfl ?_
                      refine T_val (Ev_load1 rfl (i := 2) rfl rfl one3) rfl ?_
                      refine T_val (Ev_gtr rfl rfl) rfl ?_
                      refine T_val (Ev_move rfl) rfl ?_
                      refine T_caseP (s := 90) rfl (fun h210 => ?_) (fun h210 => ?_)
                      · have hx211 := ite_t h210 hx208
                        refine T_valG rfl rfl rfl (Ev_field rfl fld24_1 rfl) rfl ?_
                        refine T_valG rfl rfl rfl (Ev_load1 rfl (i := 0) rfl rfl one3) rfl ?_
                        refine T_valG rfl rfl rfl (Ev_field rfl fld24_1 rfl) rfl ?_
                        refine T_valG rfl rfl rfl (Ev_load1 rfl (i := 2) rfl rfl one3) rfl ?_
                        refine T_valG rfl rfl rfl (Ev_leq rfl rfl) rfl ?_
                        refine T_val (Ev_pickT rfl rfl) rfl ?_
                        refine T_val (Ev_assign rfl) rfl ?_
                        refine T_nil ?_
                        exact T_metP (decide (s25.2.2.2 ≤ p1.Y)) () hx211 trivial (by exact .cons rfl (.cons rfl (.cons rfl (.cons rfl (.cons rfl (.cons rfl (.cons rfl (.nil)))))))) (by exact .pick 2 rfl (.drop 0 rfl (.drop 0 rfl (.refl))))
                      · have hx212 := ite_f h210 hx208
                        refine T_skipG rfl rfl rfl rfl rfl ?_
                        refine T_skipG rfl rfl rfl rfl rfl ?_
                        refine T_skipG rfl rfl rfl rfl rfl ?_
                        refine T_skipG rfl rfl rfl rfl rfl ?_
                        refine T_skipG rfl rfl rfl rfl rfl ?_
                        refine T_val (Ev_pickF rfl rfl) rfl ?_
                        refine T_val (Ev_assign rfl) rfl ?_
                        refine T_nil ?_
                        exact T_metP false () hx212 trivial (by exact .cons rfl (.cons rfl (.cons rfl (.cons rfl (.cons rfl (.cons rfl (.cons rfl (.nil)))))))) (by exact .pick 2 rfl (.drop 0 rfl (.drop 0 rfl (.refl))))
                  · skip
                    refine T_reg ?_
                    refine T_val (Ev_field rfl fld24_1 rfl) rfl ?_
                    refine T_val (Ev_load1 rfl (i := 1) rfl rfl one3) rfl ?_
                    refine T_val (Ev_field rfl fld24_1 rfl) rfl ?_
                    refine T_val (Ev_load1 rfl (i := 2) rfl rfl one3) rfl ?_
                    refine T_val (Ev_leq rfl rfl) rfl ?_
                    refine T_val (Ev_move rfl) rfl ?_
                    refine T_caseP (s := 78) rfl (fun h205 => ?_) (fun h205 => ?_)
                    · have hx206 := ite_t h205 hx204
                      refine T_valG rfl rfl rfl (Ev_field rfl fld24_1 rfl) rfl ?_
                      refine T_valG rfl rfl rfl (Ev_load1 rfl (i := 0) rfl rfl one3) rfl ?_
                      refine T_valG rfl rfl rfl (Ev_field rfl fld24_1 rfl) rfl ?_
                      refine T_valG rfl rfl rfl (Ev_load1 rfl (i := 2) rfl rfl one3) rfl ?_
                      refine T_valG rfl rfl rfl (Ev_gtr rfl rfl) rfl ?_
                      refine T_val (Ev_pickT rfl rfl) rfl ?_
                      refine T_val (Ev_assign rfl) rfl ?_
                      refine T_nil ?_
                      exact T_metP (decide (p1.Y < s25.2.2.2)) () hx206 trivial (by exact .cons rfl (.cons rfl (.cons rfl (.cons rfl (.cons rfl (.cons rfl (.cons rfl (.cons rfl (.nil))))))))) (by exact .pick 0 rfl (.pick 0 rfl (.pick 0 rfl (.refl))))
                    · have hx207 := ite_f h205 hx204
                      refine T_skipG rfl rfl rfl rfl rfl ?_
                      refine T_skipG rfl rfl rfl rfl rfl ?_
                      refine T_skipG rfl rfl rfl rfl rfl ?_
                      refine T_skipG rfl rfl rfl rfl rfl ?_
                      refine T_skipG rfl rfl rfl rfl rfl ?_
                      refine T_val (Ev_pickF rfl rfl) rfl ?_
                      refine T_val (Ev_assign rfl) rfl ?_
                      refine T_nil ?_
                      exact T_metP false () hx207 trivial (by exact .cons rfl (.cons rfl (.cons rfl (.cons rfl (.cons rfl (.cons rfl (.cons rfl (.cons rfl (.nil))))))))) (by exact .pick 0 rfl (.pick 0 rfl (.pick 0 rfl (.refl))))
              · skip
                refine T_reg ?_
                refine T_val (Ev_move rfl) rfl ?_
                refine T_val (Ev_eql rfl rfl) rfl ?_
                refine T_val (Ev_move rfl) rfl ?_
                refine T_caseP (s := 43) rfl (fun h188 => ?_) (fun h188 => ?_)
                · have hx189 := ite_t h188 hx187
                  refine T_valG rfl rfl rfl (Ev_field rfl fld24_0 rfl) rfl ?_
                  refine T_valG rfl rfl rfl (Ev_load1 rfl (i := 2) rfl rfl one3) rfl ?_
                  refine T_valG rfl rfl rfl (Ev_field rfl fld24_0 rfl) rfl ?_
                  refine T_valG rfl rfl rfl (Ev_load1 rfl (i := 1) rfl rfl one3) rfl ?_
                  refine T_valG rfl rfl rfl (Ev_field rfl fld24_0 rfl) rfl ?_
                  refine T_valG rfl rfl rfl (Ev_load1 rfl (i := 0) rfl rfl one3) rfl ?_
                  refine T_valG rfl rfl rfl (Ev_min2 rfl rfl) rfl ?_
                  refine T_valG rfl rfl rfl (Ev_field rfl fld24_0 rfl) rfl ?_
                  refine T_valG rfl rfl rfl (Ev_load1 rfl (i := 1) rfl rfl one3) rfl ?_
                  refine T_valG rfl rfl rfl (Ev_field rfl fld24_0 rfl) rfl ?_
                  refine T_valG rfl rfl rfl (Ev_load1 rfl (i := 0) rfl rfl one3) rfl ?_
                  refine T_valG rfl rfl rfl (Ev_max2 rfl rfl) rfl ?_
                  obtain ⟨r190, h191, hx192⟩ := bnd_some hx189
                  refine T_xG rfl rfl rfl (Wx_callL rfl (fun w1 hw1 => lidarref07_within_ok p1.X (min s25.1 s25.2.2.1) (max s25.1 s25.2.2.1)  h191 w1) rfl ?_)
                  rintro _ _ hlo ⟨rfl, rfl, -⟩
                  refine T_app0 ?_
                  refine T_val (Ev_pickT rfl rfl) rfl ?_
                  refine T_val (Ev_move rfl) rfl ?_
                  refine T_caseB (s := 58) rfl (fun h193 => ?_) (fun h193 => ?_)
                  · have hx194 := ite_t h193 hx192
                    refine T_valG rfl rfl rfl (Ev_field rfl fld24_1 rfl) rfl ?_
                    refine T_valG rfl rfl rfl (Ev_load1 rfl (i := 2) rfl rfl one3) rfl ?_
                    refine T_valG rfl rfl rfl (Ev_field rfl fld24_1 rfl) rfl ?_
                    refine T_valG rfl rfl rfl (Ev_load1 rfl (i := 1) rfl rfl one3) rfl ?_
                    refine T_valG rfl rfl rfl (Ev_field rfl fld24_1 rfl) rfl ?_
                    refine T_valG rfl rfl rfl (Ev_load1 rfl (i := 0) rfl rfl one3) rfl ?_
                    refine T_valG rfl rfl rfl (Ev_min2 rfl rfl) rfl ?_
                    refine T_valG rfl rfl rfl (Ev_field rfl fld24_1 rfl) rfl ?_
                    refine T_valG rfl rfl rfl (Ev_load1 rfl (i := 1) rfl rfl one3) rfl ?_
                    refine T_valG rfl rfl rfl (Ev_field rfl fld24_1 rfl) rfl ?_
                    refine T_valG rfl rfl rfl (Ev_load1 rfl (i := 0) rfl rfl one3) rfl ?_
                    refine T_valG rfl rfl rfl (Ev_max2 rfl rfl) rfl ?_
                    obtain ⟨r195, h196, hx197⟩ := bnd_some hx194
                    refine T_xG rfl rfl rfl (Wx_callL rfl (fun w1 hw1 => lidarref07_within_ok p1.Y (min s25.2.1 s25.2.2.2) (max s25.2.1 s25.2.2.2)  h196 w1) rfl ?_)
                    rintro _ _ hlo ⟨rfl, rfl, -⟩
                    refine T_app0 ?_
                    refine T_val (Ev_pickT rfl rfl) rfl ?_
                    refine T_nil ?_
                    exact T_metP r195 () hx197 trivial (by exact .cons rfl (.cons rfl (.cons rfl (.cons rfl (.cons rfl (.cons rfl (.cons rfl (.cons rfl (.nil))))))))) (by exact .pick 0 rfl (.pick 0 rfl (.pick 0 rfl (.refl))))
                  · have hx198 := ite_bf h193 hx192
                    refine T_skipG rfl rfl rfl rfl rfl ?_
                    refine T_skipG rfl rfl rfl rfl rfl ?_
                    refine T_skipG rfl rfl rfl rfl rfl ?_
                    refine T_skipG rfl rfl rfl rfl rfl ?_
                    refine T_skipG rfl rfl rfl rfl rfl ?_
                    refine T_skipG rfl rfl rfl rfl rfl ?_
                    refine T_skipG rfl rfl rfl rfl rfl ?_
                    refine T_skipG rfl rfl rfl rfl rfl ?_
                    refine T_skipG rfl rfl rfl rfl rfl ?_
                    refine T_skipG rfl rfl rfl rfl rfl ?_
                    refine T_skipG rfl rfl rfl rfl rfl ?_
                    refine T_skipG rfl rfl rfl rfl rfl ?_
                    refine T_skipG rfl rfl rfl rfl rfl ?_
                    refine T_val (Ev_pickF rfl rfl) rfl ?_
                    refine T_nil ?_
                    exact T_metP false () hx198 trivial (by exact .cons rfl (.cons rfl (.cons rfl (.cons rfl (.cons rfl (.cons rfl (.cons rfl (.cons rfl (.nil))))))))) (by exact .pick 0 rfl (.pick 0 rfl (.pick 0 rfl (.refl))))
                · have hx199 := ite_f h188 hx187
                  refine T_skipG rfl rfl rfl rfl rfl ?_
                  refine T_skipG rfl rfl rfl rfl rfl ?_
                  refine T_skipG rfl rfl rfl rfl rfl ?_
                  refine T_skipG rfl rfl rfl rfl rfl ?_
                  refine T_skipG rfl rfl rfl rfl rfl ?_
                  refine T_skipG rfl rfl rfl rfl rfl ?_
                  refine T_skipG rfl rfl rfl rfl rfl ?_
                  refine T_skipG rfl rfl rfl rfl rfl ?_
                  refine T_skipG rfl rfl rfl rfl rfl ?_
                  refine T_skipG rfl rfl rfl rfl rfl ?_
                  refine T_skipG rfl rfl rfl rfl rfl ?_
                  refine T_skipG rfl rfl rfl rfl rfl ?_
                  refine T_skipG rfl rfl rfl rfl rfl ?_
                  refine T_val (Ev_pickF rfl rfl) rfl ?_
                  refine T_val (Ev_move rfl) rfl ?_
                  refine T_skipG rfl rfl rfl rfl rfl ?_
                  refine T_skipG rfl rfl rfl rfl rfl ?_
                  refine T_skipG rfl rfl rfl rfl rfl ?_
                  refine T_skipG rfl rfl rfl rfl rfl ?_
                  refine T_skipG rfl rfl rfl rfl rfl ?_
                  refine T_skipG rfl rfl rfl rfl rfl ?_
                  refine T_skipG rfl rfl rfl rfl rfl ?_
                  refine T_skipG rfl rfl rfl rfl rfl ?_
                  refine T_skipG rfl rfl rfl rfl rfl ?_
                  refine T_skipG rfl rfl rfl rfl rfl ?_
                  refine T_skipG rfl rfl rfl rfl rfl ?_
                  refine T_skipG rfl rfl rfl rfl rfl ?_
                  refine T_skipG rfl rfl rfl rfl rfl ?_
                  refine T_val (Ev_pickF rfl rfl) rfl ?_
                  refine T_nil ?_
                  exact T_metP false () hx199 trivial (by exact .cons rfl (.cons rfl (.cons rfl (.cons rfl (.cons rfl (.cons rfl (.cons rfl (.cons rfl (.nil))))))))) (by exact .pick 0 rfl (.pick 0 rfl (.pick 0 rfl (.refl))))
            · skip
              obtain ⟨x128, h129, hx154⟩ := bnd_some hx126
              obtain ⟨h139, hx155⟩ := gd_some hx154
              obtain ⟨x141, h142, hx156⟩ := bnd_some hx155
              refine T_draw [0, 0, 0, 1, 0, 0, 0, 0, 0, 0, 0, 2, 2, 2, 3, 3] [[], [], [0, 1], [0, 1, 2], [], [], [5], [], [7], [5, 6, 7, 8], [4, 5, 6, 7, 8, 9], [4, 5, 6, 7, 8, 9, 10], [], [], [0, 1, 2, 3, 12, 13], [0, 1, 2, 3, 4, 5, 6, 7, 8, 9, 10, 11, 12, 13, 14]] (.q 0 (.q 1 (.q 2 (.q 3 (.q 4 (.q 5 (.q 6 (.q 7 (.q 8 (.q 9 (.q 10 (.e 11 (.e 12 (.e 13 (.e 14 (.e 15 (.done) (.stop)) (.stop)) (.stop)) (.e 13 (.e 12 (.e 14 (.e 15 (.done) (.stop)) (.stop)) (.stop)) (.stop))) (.e 12 (.e 11 (.e 13 (.e 14 (.e 15 (.done) (.stop)) (.stop)) (.stop)) (.e 13 (.e 11 (.e 14 (.e 15 (.done) (.stop)) (.stop)) (.e 14 (.e 11 (.e 15 (.done) (.stop)) (.stop)) (.stop))) (.stop))) (.e 13 (.e 11 (.e 12 (.e 14 (.e 15 (.done) (.stop)) (.stop)) (.stop)) (.e 12 (.e 11 (.e 14 (.e 15 (.done) (.stop)) (.stop)) (.e 14 (.e 11 (.e 15 (.done) (.stop)) (.stop)) (.stop))) (.stop))) (.stop))))))))))))))) mixed (by kernel_rfl) (by kernel_rfl) ?_
              refine P_p rfl rfl (Ev_move rfl) rfl ?_
              refine P_p rfl rfl (Ev_move rfl) rfl ?_
              have hw164 := Has.low (E := []) ha0' hK
              obtain ⟨b157, o158, j159, hA160, hj161, hl162, hp163⟩ := Has.at_idx hw164 h129
              refine P_p rfl rfl (Ev_index rfl rfl hA160 (j := j159) hj161 hl162 slc22) rfl ?_
              refine P_q rfl rfl (Ev_loadPK0 rfl hp163 (SubE.cons2 (i := 1) rfl (SubE.nil)) rfl agg24) rfl ?_
              refine P_p rfl rfl (Ev_move rfl) rfl ?_
              refine P_p rfl rfl (Ev_move rfl) rfl ?_
              refine P_p rfl rfl (Ev_add_w64 rfl rfl) rfl ?_
              refine P_p rfl rfl (Ev_move rfl) rfl ?_
              refine P_p rfl rfl (Ev_len rfl 24 Try.underlying22) rfl ?_
              refine P_p rfl rfl (Ev_rem rfl rfl h139) rfl ?_
              have hw172 := Has.low (E := []) ha0' hK
              obtain ⟨b165, o166, j167, hA168, hj169, hl170, hp171⟩ := Has.at_idx hw172 h142
              refine P_p rfl rfl (Ev_index rfl rfl hA168 (j := j167) hj169 hl170 slc22) rfl ?_
              refine P_x rfl (Wx_val (Ev_loadPK0 rfl hp171 (SubE.cons2 (i := 1) rfl (SubE.nil)) rfl agg24) rfl ?_) ?_
              · skip
                refine P_x rfl (Wx_alloc zer24 rfl (fun g173 => ?_)) ?_
                · skip
                  refine P_x rfl (Wx_alloc zer24 rfl (fun g174 => ?_)) ?_
                  rotate_left; exact P_stop
                  refine P_h rfl rfl (Wh_store rfl rfl rfl (.there (.here)) (.put (.put (.done))) rfl (List.cons_ne_nil _ _) agg24.2 ?_) ?_
                  rotate_left; exact P_stop
                  refine P_h rfl rfl (Wh_store rfl rfl rfl (.here) (.put (.put (.done))) rfl (List.cons_ne_nil _ _) agg24.2 ?_) ?_
                  rotate_left; exact P_stop
                  refine P_done ?_
                  exact T_metP (x128.X, x128.Y, x141.X, x141.Y) (g173, g174) hx156 trivial (by exact .cons rfl (.cons rfl (.cons rfl (.cons rfl (.cons rfl (.cons rfl (.nil))))))) (by exact .pick 0 rfl (.pick 0 rfl (.pick 0 rfl (.refl))))
                · skip
                  refine P_x rfl (Wx_alloc zer24 rfl (fun g175 => ?_)) ?_
                  rotate_left; exact P_stop
                  refine P_x rfl (Wx_alloc zer24 rfl (fun g176 => ?_)) ?_
                  rotate_left; exact P_stop
                  refine P_h rfl rfl (Wh_store rfl rfl rfl (.here) (.put (.put (.done))) rfl (List.cons_ne_nil _ _) agg24.2 ?_) ?_
                  rotate_left; exact P_stop
                  refine P_h rfl rfl (Wh_store rfl rfl rfl (.there (.here)) (.put (.put (.done))) rfl (List.cons_ne_nil _ _) agg24.2 ?_) ?_
                  rotate_left; exact P_stop
                  refine P_done ?_
                  exact T_metP (x128.X, x128.Y, x141.X, x141.Y) (g176, g175) hx156 trivial (by exact .cons rfl (.cons rfl (.cons rfl (.cons rfl (.cons rfl (.cons rfl (.nil))))))) (by exact .pick 1 rfl (.pick 0 rfl (.pick 0 rfl (.refl))))
              · skip
                refine P_x rfl (Wx_alloc zer24 rfl (fun g177 => ?_)) ?_
                · skip
                  refine P_x rfl (Wx_val (Ev_loadPK0 rfl hp171 (SubE.cons2 (i := 2) rfl (SubE.nil)) rfl agg24) rfl ?_) ?_
                  · skip
                    refine P_x rfl (Wx_alloc zer24 rfl (fun g178 => ?_)) ?_
                    rotate_left; exact P_stop
                    refine P_h rfl rfl (Wh_store rfl rfl rfl (.there (.here)) (.put (.put (.done))) rfl (List.cons_ne_nil _ _) agg24.2 ?_) ?_
                    rotate_left; exact P_stop
                    refine P_h rfl rfl (Wh_store rfl rfl rfl (.here) (.put (.put (.done))) rfl (List.cons_ne_nil _ _) agg24.2 ?_) ?_
                    rotate_left; exact P_stop
                    refine P_done ?_
                    exact T_metP (x128.X, x128.Y, x141.X, x141.Y) (g177, g178) hx156 trivial (by exact .cons rfl (.cons rfl (.cons rfl (.cons rfl (.cons rfl (.cons rfl (.nil))))))) (by exact .pick 0 rfl (.pick 0 rfl (.pick 0 rfl (.refl))))
                  · skip
                    refine P_x rfl (Wx_alloc zer24 rfl (fun g179 => ?_)) ?_
                    rotate_left; exact P_stop
                    refine P_x rfl (Wx_val (Ev_loadPK0 rfl hp171 (SubE.cons2 (i := 3) rfl (SubE.nil)) rfl agg24) rfl ?_) ?_
                    · skip
                      refine P_h rfl rfl (Wh_store rfl rfl rfl (.there (.here)) (.put (.put (.done))) rfl (List.cons_ne_nil _ _) agg24.2 ?_) ?_
                      rotate_left; exact P_stop
                      refine P_h rfl rfl (Wh_store rfl rfl rfl (.here) (.put (.put (.done))) rfl (List.cons_ne_nil _ _) agg24.2 ?_) ?_
                      rotate_left; exact P_stop
                      refine P_done ?_
                      exact T_metP (x128.X, x128.Y, x141.X, x141.Y) (g177, g179) hx156 trivial (by exact .cons rfl (.cons rfl (.cons rfl (.cons rfl (.cons rfl (.cons rfl (.nil))))))) (by exact .pick 0 rfl (.pick 0 rfl (.pick 0 rfl (.refl))))
                    · skip
                      refine P_h rfl rfl (Wh_store rfl rfl rfl (.there (.here)) (.put (.put (.done))) rfl (List.cons_ne_nil _ _) agg24.2 ?_) ?_
                      rotate_left; exact P_stop
                      refine P_x rfl (Wx_val (Ev_loadPK0 rfl hp171 (SubE.cons2 (i := 3) rfl (SubE.nil)) rfl agg24) rfl ?_) ?_
                      rotate_left; exact P_stop
                      refine P_h rfl rfl (Wh_store rfl rfl rfl (.here) (.put (.put (.done))) rfl (List.cons_ne_nil _ _) agg24.2 ?_) ?_
                      rotate_left; exact P_stop
                      refine P_done ?_
                      exact T_metP (x128.X, x128.Y, x141.X, x141.Y) (g177, g179) hx156 trivial (by exact .cons rfl (.cons rfl (.cons rfl (.cons rfl (.cons rfl (.cons rfl (.nil))))))) (by exact .pick 0 rfl (.pick 0 rfl (.pick 0 rfl (.refl))))
                · skip
                  refine P_x rfl (Wx_alloc zer24 rfl (fun g180 => ?_)) ?_
                  rotate_left; exact P_stop
                  refine P_x rfl (Wx_val (Ev_loadPK0 rfl hp171 (SubE.cons2 (i := 2) rfl (SubE.nil)) rfl agg24) rfl ?_) ?_
                  · skip
                    refine P_x rfl (Wx_alloc zer24 rfl (fun g181 => ?_)) ?_
                    rotate_left; exact P_stop
                    refine P_h rfl rfl (Wh_store rfl rfl rfl (.here) (.put (.put (.done))) rfl (List.cons_ne_nil _ _) agg24.2 ?_) ?_
                    rotate_left; exact P_stop
                    refine P_h rfl rfl (Wh_store rfl rfl rfl (.there (.here)) (.put (.put (.done))) rfl (List.cons_ne_nil _ _) agg24.2 ?_) ?_
                    rotate_left; exact P_stop
                    refine P_done ?_
                    exact T_metP (x128.X, x128.Y, x141.X, x141.Y) (g181, g180) hx156 trivial (by exact .cons rfl (.cons rfl (.cons rfl (.cons rfl (.cons rfl (.cons rfl (.nil))))))) (by exact .pick 1 rfl (.pick 0 rfl (.pick 0 rfl (.refl))))
                  · skip
                    refine P_x rfl (Wx_alloc zer24 rfl (fun g182 => ?_)) ?_
                    rotate_left; exact P_stop
                    refine P_x rfl (Wx_val (Ev_loadPK0 rfl hp171 (SubE.cons2 (i := 3) rfl (SubE.nil)) rfl agg24) rfl ?_) ?_
                    · skip
                      refine P_h rfl rfl (Wh_store rfl rfl rfl (.here) (.put (.put (.done))) rfl (List.cons_ne_nil _ _) agg24.2 ?_) ?_
                      rotate_left; exact P_stop
                      refine P_h rfl rfl (Wh_store rfl rfl rfl (.there (.here)) (.put (.put (.done))) rfl (List.cons_ne_nil _ _) agg24.2 ?_) ?_
                      rotate_left; exact P_stop
                      refine P_done ?_
                      exact T_metP (x128.X, x128.Y, x141.X, x141.Y) (g182, g180) hx156 trivial (by exact .cons rfl (.cons rfl (.cons rfl (.cons rfl (.cons rfl (.cons rfl (.nil))))))) (by exact .pick 1 rfl (.pick 0 rfl (.pick 0 rfl (.refl))))
                    · skip
                      refine P_h rfl rfl (Wh_store rfl rfl rfl (.here) (.put (.put (.done))) rfl (List.cons_ne_nil _ _) agg24.2 ?_) ?_
                      rotate_left; exact P_stop
                      refine P_x rfl (Wx_val (Ev_loadPK0 rfl hp171 (SubE.cons2 (i := 3) rfl (SubE.nil)) rfl agg24) rfl ?_) ?_
                      rotate_left; exact P_stop
                      refine P_h rfl rfl (Wh_store rfl rfl rfl (.there (.here)) (.put (.put (.done))) rfl (List.cons_ne_nil _ _) agg24.2 ?_) ?_
                      rotate_left; exact P_stop
                      refine P_done ?_
                      exact T_metP (x128.X, x128.Y, x141.X, x141.Y) (g182, g180) hx156 trivial (by exact .cons rfl (.cons rfl (.cons rfl (.cons rfl (.cons rfl (.cons rfl (.nil))))))) (by exact .pick 1 rfl (.pick 0 rfl (.pick 0 rfl (.refl))))
        · have hx127 := ite_f h125 hx124
          refine T_condF rfl ?_
          refine T_exit ?_
          refine T_outX ?_
          obtain rfl := exit_eq ht124 hx127
          refine T_outX ?_
          refine T_here ?_
          exact T_metP s124.1 () ho124 trivial (by exact .cons rfl (.nil)) (by exact .drop 0 rfl (.refl))
set_option maxRecDepth 100000 in
theorem lidarref07_class_ok (p0 : Int)  {r : Bool} (hx : lidarref07_class p0 = some r) (w : World) : CtL Try.prog 52 [.int .i64 (p0)] w fun v Ln => v = .bool (r) ∧ Ln = [] ∧ True := by
  refine CtL.mk 25 Try.func52 rfl Try.ntmps52 (by kernel_rfl) rfl ?_
  show T 25 _ [(0, .int .i64 (p0))] _
  unfold lidarref07_class at hx
  refine T_seq ?_
  refine T_reg ?_
  refine T_val (Ev_assign rfl) rfl ?_
  refine T_nil ?_
  refine T_next ?_
  obtain ⟨j2, hj2, hx⟩ := jn_some hx
  refine T_cutP (τ := Bool) (γ := Unit) (J := j2) (out := r) (fun s2 y2 => [(2, .bool (s2))]) (fun s2 y2 => [] ++ [.old w]) (fun s2 y2 => True) ?_ ?_
  · intro s2 y2 hx16 hG17
    subst hj2
    refine T_retc ?_
    obtain rfl := Option.some.inj hx16
    exact T_retP (rs := [.tmp 2]) Try.results52 (.tmp rfl (.nil)) (Ln := []) ⟨rfl, rfl, trivial⟩ (loNil) (by exact .refl)
  · skip
    refine T_reg ?_
    refine T_val (Ev_move rfl) rfl ?_
    refine T_val (Ev_eql rfl rfl) rfl ?_
    refine T_val (Ev_move rfl) rfl ?_
    refine T_caseP (s := 5) rfl (fun h1 => ?_) (fun h1 => ?_)
    · have hx2 := ite_t h1 hx
      refine T_skipG rfl rfl rfl rfl rfl ?_
      refine T_skipG rfl rfl rfl rfl rfl ?_
      refine T_val (Ev_pickT rfl rfl) rfl ?_
      refine T_val (Ev_move rfl) rfl ?_
      refine T_skipG rfl rfl rfl rfl rfl ?_
      refine T_skipG rfl rfl rfl rfl rfl ?_
      refine T_val (Ev_pickT rfl rfl) rfl ?_
      refine T_val (Ev_move rfl) rfl ?_
      refine T_skipG rfl rfl rfl rfl rfl ?_
      refine T_skipG rfl rfl rfl rfl rfl ?_
      refine T_val (Ev_pickT rfl rfl) rfl ?_
      refine T_val (Ev_move rfl) rfl ?_
      refine T_skipG rfl rfl rfl rfl rfl ?_
      refine T_skipG rfl rfl rfl rfl rfl ?_
      refine T_val (Ev_pickT rfl rfl) rfl ?_
      refine T_val (Ev_move rfl) rfl ?_
      refine T_skipG rfl rfl rfl rfl rfl ?_
      refine T_skipG rfl rfl rfl rfl rfl ?_
      refine T_val (Ev_pickT rfl rfl) rfl ?_
      refine T_val (Ev_assign rfl) rfl ?_
      refine T_nil ?_
      exact T_metP true () hx2 trivial (by exact .cons rfl (.nil)) (by exact .refl)
    · have hx3 := ite_f h1 hx
      refine T_valG rfl rfl rfl (Ev_move rfl) rfl ?_
      refine T_valG rfl rfl rfl (Ev_eql rfl rfl) rfl ?_
      refine T_val (Ev_pickF rfl rfl) rfl ?_
      refine T_val (Ev_move rfl) rfl ?_
      refine T_caseP (s := 9) rfl (fun h4 => ?_) (fun h4 => ?_)
      · have hx5 := ite_t h4 hx3
        refine T_skipG rfl rfl rfl rfl rfl ?_
        refine T_skipG rfl rfl rfl rfl rfl ?_
        refine T_val (Ev_pickT rfl rfl) rfl ?_
        refine T_val (Ev_move rfl) rfl ?_
        refine T_skipG rfl rfl rfl rfl rfl ?_
        refine T_skipG rfl rfl rfl rfl rfl ?_
        refine T_val (Ev_pickT rfl rfl) rfl ?_
        refine T_val (Ev_move rfl) rfl ?_
        refine T_skipG rfl rfl rfl rfl rfl ?_
        refine T_skipG rfl rfl rfl rfl rfl ?_
        refine T_val (Ev_pickT rfl rfl) rfl ?_
        refine T_val (Ev_move rfl) rfl ?_
        refine T_skipG rfl rfl rfl rfl rfl ?_
        refine T_skipG rfl rfl rfl rfl rfl ?_
        refine T_val (Ev_pickT rfl rfl) rfl ?_
        refine T_val (Ev_assign rfl) rfl ?_
        refine T_nil ?_
        exact T_metP true () hx5 trivial (by exact .cons rfl (.nil)) (by exact .refl)
      · have hx6 := ite_f h4 hx3
        refine T_valG rfl rfl rfl (Ev_move rfl) rfl ?_
        refine T_valG rfl rfl rfl (Ev_eql rfl rfl) rfl ?_
        refine T_val (Ev_pickF rfl rfl) rfl ?_
        refine T_val (Ev_move rfl) rfl ?_
        refine T_caseP (s := 13) rfl (fun h7 => ?_) (fun h7 => ?_)
        · have hx8 := ite_t h7 hx6
          refine T_skipG rfl rfl rfl rfl rfl ?_
          refine T_skipG rfl rfl rfl rfl rfl ?_
          refine T_val (Ev_pickT rfl rfl) rfl ?_
          refine T_val (Ev_move rfl) rfl ?_
          refine T_skipG rfl rfl rfl rfl rfl ?_
          refine T_skipG rfl rfl rfl rfl rfl ?_
          refine T_val (Ev_pickT rfl rfl) rfl ?_
          refine T_val (Ev_move rfl) rfl ?_
          refine T_skipG rfl rfl rfl rfl rfl ?_
          refine T_skipG rfl rfl rfl rfl rfl ?_
          refine T_val (Ev_pickT rfl rfl) rfl ?_
          refine T_val (Ev_assign rfl) rfl ?_
          refine T_nil ?_
          exact T_metP true () hx8 trivial (by exact .cons rfl (.nil)) (by exact .refl)
        · have hx9 := ite_f h7 hx6
          refine T_valG rfl rfl rfl (Ev_move rfl) rfl ?_
          refine T_valG rfl rfl rfl (Ev_eql rfl rfl) rfl ?_
          refine T_val (Ev_pickF rfl rfl) rfl ?_
          refine T_val (Ev_move rfl) rfl ?_
          refine T_caseP (s := 17) rfl (fun h10 => ?_) (fun h10 => ?_)
          · have hx11 := ite_t h10 hx9
            refine T_skipG rfl rfl rfl rfl rfl ?_
            refine T_skipG rfl rfl rfl rfl rfl ?_
            refine T_val (Ev_pickT rfl rfl) rfl ?_
            refine T_val (Ev_move rfl) rfl ?_
            refine T_skipG rfl rfl rfl rfl rfl ?_
            refine T_skipG rfl rfl rfl rfl rfl ?_
            refine T_val (Ev_pickT rfl rfl) rfl ?_
            refine T_val (Ev_assign rfl) rfl ?_
            refine T_nil ?_
            exact T_metP true () hx11 trivial (by exact .cons rfl (.nil)) (by exact .refl)
          · have hx12 := ite_f h10 hx9
            refine T_valG rfl rfl rfl (Ev_move rfl) rfl ?_
            refine T_valG rfl rfl rfl (Ev_eql rfl rfl) rfl ?_
            refine T_val (Ev_pickF rfl rfl) rfl ?_
            refine T_val (Ev_move rfl) rfl ?_
            refine T_caseP (s := 21) rfl (fun h13 => ?_) (fun h13 => ?_)
            · have hx14 := ite_t h13 hx12
              refine T_skipG rfl rfl rfl rfl rfl ?_
              refine T_skipG rfl rfl rfl rfl rfl ?_
              refine T_val (Ev_pickT rfl rfl) rfl ?_
              refine T_val (Ev_assign rfl) rfl ?_
              refine T_nil ?_
              exact T_metP true () hx14 trivial (by exact .cons rfl (.nil)) (by exact .refl)
            · have hx15 := ite_f h13 hx12
              refine T_valG rfl rfl rfl (Ev_move rfl) rfl ?_
              refine T_valG rfl rfl rfl (Ev_eql rfl rfl) rfl ?_
              refine T_val (Ev_pickF rfl rfl) rfl ?_
              refine T_val (Ev_assign rfl) rfl ?_
              refine T_nil ?_
              exact T_metP (decide (p0 = 7)) () hx15 trivial (by exact .cons rfl (.nil)) (by exact .refl)
set_option maxRecDepth 100000 in
theorem lidarref07_Correct_ok (p0 : List S_api_Point) (p1 : List Int) (p2 : List S_api_Edit) {K : List Ent} {A0_0 : Option Addr} {c0_0 : Nat} {A0_1 : Option Addr} {c0_1 : Nat} {A0_2 : Option Addr} {c0_2 : Nat} (ha0 : Has K A0_0 (p0).length c0_0 9 e_api_Point (p0)) (ha1 : Has K A0_1 (p1).length c0_1 1 e_i64 (p1)) (ha2 : HasN K A0_2 (p2).length c0_2 4 n_api_Edit (p2)) {r : (List Int) × Int} (hx : lidarref07_Correct p0 p1 p2 = some r) (w : World) (hK : ∀ e ∈ K, Ent.ok w e) : CtL Try.prog 25 [.slice (A0_0) ((p0).length) (c0_0), .slice (A0_1) ((p1).length) (c0_1), .slice (A0_2) ((p2).length) (c0_2)] w fun v Ln => ∃ (A0 : Option Addr) (c0 : Nat), v = .tuple #[.slice (A0) ((r.1).length) (c0), .int .i64 (r.2)] ∧ Ln = [.r A0 (r.1).length c0 3 1 ((r.1).flatMap e_i64)] ∧ True := by
  have ha0' := Has.up0 ha0
  have ha1' := Has.up0 ha1
  have ha2' := HasN.up0 ha2
  refine CtL.mk 139 Try.func25 rfl Try.ntmps25 (by kernel_rfl) rfl ?_
  show T 139 _ [(0, .slice (A0_0) ((p0).length) (c0_0)), (1, .slice (A0_1) ((p1).length) (c0_1)), (2, .slice (A0_2) ((p2).length) (c0_2))] _
  unfold lidarref07_Correct at hx
  refine T_seq ?_
  refine T_reg ?_
  refine T_val (Ev_assign rfl) rfl ?_
  refine T_val (Ev_assign rfl) rfl ?_
  refine T_nil ?_
  refine T_next ?_
  refine T_seq ?_
  refine T_block ?_
  refine T_seq ?_
  refine T_reg ?_
  refine T_val (Ev_move rfl) rfl ?_
  obtain ⟨r1, h2, hx3⟩ := bnd_some hx
  refine T_x (Wx_callL rfl (fun w1 hw1 => lidarref07_Valid_ok p0 (Has.len' ha0') h2 w1 (okApp (K := K) (K2 := []) hK (by exact (SubE.cons2 (i := 0) rfl (SubE.nil))) (by exact (SubE.nil)) hw1)) rfl ?_)
  rintro _ _ hlo ⟨rfl, rfl, -⟩
  refine T_app0 ?_
  refine T_val (Ev_not rfl) rfl ?_
  refine T_val (Ev_assign rfl) rfl ?_
  refine T_nil ?_
  refine T_next ?_
  refine T_caseNB (s := 17) rfl (fun h4 => ?_) (fun h4 => ?_)
  · have hx5 := ite_bf h4 hx3
    refine T_condT rfl ?_
    refine T_seq ?_
    refine T_reg ?_
    refine T_val (Ev_assign rfl) rfl ?_
    refine T_val (Ev_assign rfl) rfl ?_
    refine T_nil ?_
    refine T_next ?_
    refine T_retc ?_
    refine T_inR ?_
    refine T_outR ?_
    refine T_none 3 1 ?_
    obtain rfl := Option.some.inj hx5
    exact T_retP (rs := [.tmp 6, .tmp 7]) Try.results25 (.tmp rfl (.tmp rfl (.nil))) (Ln := [.r (none) (0) (0) 3 1 ((([] : List Int)).flatMap e_i64)]) ⟨none, 0, rfl, rfl, trivial⟩ (loCons rfl (loNil)) (by exact .pick 0 rfl (.refl))
  · have hx6 := ite_t h4 hx3
    refine T_condF rfl ?_
    obtain ⟨j5, hj5, hx6⟩ := jn_some hx6
    refine T_cutP (τ := Bool) (γ := Unit) (J := j5) (out := r) (fun s5 y5 => [(0, .slice (A0_0) ((p0).length) (c0_0)), (1, .slice (A0_1) ((p1).length) (c0_1)), (2, .slice (A0_2) ((p2).length) (c0_2)), (21, .bool (s5))]) (fun s5 y5 => [] ++ [.old w]) (fun s5 y5 => True) ?_ ?_
    · intro s5 y5 hx10 hG11
      subst hj5
      refine T_caseB (s := 21) rfl (fun h12 => ?_) (fun h12 => ?_)
      · have hx13 := ite_t h12 hx10
        refine T_condT rfl ?_
        refine T_seq ?_
        refine T_reg ?_
        refine T_val (Ev_assign rfl) rfl ?_
        refine T_val (Ev_assign rfl) rfl ?_
        refine T_nil ?_
        refine T_next ?_
        refine T_retc ?_
        refine T_inR ?_
        refine T_outR ?_
        refine T_none 3 1 ?_
        obtain rfl := Option.some.inj hx13
        exact T_retP (rs := [.tmp 6, .tmp 7]) Try.results25 (.tmp rfl (.tmp rfl (.nil))) (Ln := [.r (none) (0) (0) 3 1 ((([] : List Int)).flatMap e_i64)]) ⟨none, 0, rfl, rfl, trivial⟩ (loCons rfl (loNil)) (by exact .pick 0 rfl (.refl))
      · have hx14 := ite_bf h12 hx10
        refine T_condF rfl ?_
        refine T_skip ?_
        refine T_inN ?_
        refine T_next ?_
        obtain ⟨j7, hj7, hx14⟩ := jn_some hx14
        refine T_cutP (τ := Unit) (γ := Unit) (J := j7) (out := r) (fun s7 y7 => [(0, .slice (A0_0) ((p0).length) (c0_0)), (1, .slice (A0_1) ((p1).length) (c0_1)), (2, .slice (A0_2) ((p2).length) (c0_2))]) (fun s7 y7 => [] ++ [.old w]) (fun s7 y7 => True) ?_ ?_
        · intro s7 y7 hx109 hG110
          subst hj7
          refine T_seq ?_
          refine T_reg ?_
          refine T_val (Ev_assign rfl) rfl ?_
          refine T_nil ?_
          refine T_next ?_
          obtain ⟨j22, hj22, hx109⟩ := jn_some hx109
          refine T_cutP (τ := List Int) (γ := (Option Addr) × Nat) (J := j22) (out := r) (fun s22 y22 => [(10, .slice (y22.1) ((s22).length) (y22.2))]) (fun s22 y22 => [.r (y22.1) ((s22).length) (y22.2) 3 1 ((s22).flatMap e_i64)] ++ [.old w]) (fun s22 y22 => True) ?_ ?_
          · intro s22 y22 hx469 hG470
            subst hj22
            refine T_seq ?_
            refine T_reg ?_
            refine T_val (Ev_move rfl) rfl ?_
            refine T_val (Ev_assign rfl) rfl ?_
            refine T_val (Ev_assign rfl) rfl ?_
            refine T_nil ?_
            refine T_next ?_
            refine T_retc ?_
            obtain rfl := Option.some.inj hx469
            exact T_retP (rs := [.tmp 6, .tmp 7]) Try.results25 (.tmp rfl (.tmp rfl (.nil))) (Ln := [.r (y22.1) ((s22).length) (y22.2) 3 1 ((s22).flatMap e_i64)]) ⟨y22.1, y22.2, rfl, rfl, trivial⟩ (loCons rfl (loNil)) (by exact .pick 0 rfl (.refl))
          · skip
            refine T_seq ?_
            refine T_reg ?_
            refine T_val (Ev_assign rfl) rfl ?_
            refine T_nil ?_
            refine T_next ?_
            refine T_block ?_
            obtain ⟨t290, hl290, ho290⟩ := bnd_some hx109
            refine T_none 3 1 ?_
            have hn291 : 0 = (([] : List Int)).length := by simp [setI_len, cpy_len, List.length_append] <;> omega
            refine T_ent (.here) (e' := .r (none) ((([] : List Int)).length) (0) 3 1 ((([] : List Int)).flatMap e_i64)) (by first | (rw [← hn291]; done) | rfl) ?_
            refine T_loopP (σ := (List Int) × Int) (γ := (Option Addr) × Nat) hl290 (fun s290 y290 => [(0, .slice (A0_0) ((p0).length) (c0_0)), (1, .slice (A0_1) ((p1).length) (c0_1)), (2, .slice (A0_2) ((p2).length) (c0_2)), (10, .slice (y290.1) ((s290.1).length) (y290.2)), (11, .int .i64 (s290.2))]) (fun s290 y290 => [.r (y290.1) ((s290.1).length) (y290.2) 3 1 ((s290.1).flatMap e_i64)] ++ [.old w]) (fun s290 y290 => True) (none, 0) trivial (by exact .cons rfl (.cons rfl (.cons rfl (.cons rfl (.cons rfl (.nil)))))) (by exact .pick 0 rfl (.refl)) ?_
            intro s290 y290 hG290 x290 hx290 ht290
            unfold lidarref07_Correct_l13 at hx290
            refine T_seq ?_
            refine T_seq ?_
            refine T_reg ?_
            refine T_val (Ev_move rfl) rfl ?_
            refine T_val (Ev_move rfl) rfl ?_
            refine T_val (Ev_len rfl 53 Try.underlying31) rfl ?_
            refine T_val (Ev_lss rfl rfl) rfl ?_
            refine T_nil ?_
            refine T_next ?_
            refine T_caseP (s := 72) rfl (fun h292 => ?_) (fun h292 => ?_)
            · have hx293 := ite_t h292 hx290
              refine T_condT rfl ?_
              refine T_skip ?_
              refine T_next ?_
              refine T_seq ?_
              refine T_block ?_
              refine T_seq ?_
              refine T_reg ?_
              refine T_val (Ev_move rfl) rfl ?_
              refine T_val (Ev_move rfl) rfl ?_
              obtain ⟨x295, h296, hx297⟩ := bnd_some hx293
              have hw305 := Has.low (E := []) ha1' hK
              obtain ⟨b298, o299, j300, hA301, hj302, hl303, hp304⟩ := Has.at_idx hw305 h296
              refine T_val (Ev_index rfl rfl hA301 (j := j300) hj302 hl303 slc35) rfl ?_
              refine T_val (Ev_loadP0 rfl hp304 (SubE.cons2 (i := 1) rfl (SubE.nil)) rfl one3) rfl ?_
              refine T_val (Ev_assign rfl) rfl ?_
              refine T_nil ?_
              refine T_next ?_
              obtain ⟨j54, hj54, hx297⟩ := jn_some hx297
              refine T_cutP (τ := Int) (γ := Unit) (J := j54) (out := x290) (fun s54 y54 => [(0, .slice (A0_0) ((p0).length) (c0_0)), (1, .slice (A0_1) ((p1).length) (c0_1)), (2, .slice (A0_2) ((p2).length) (c0_2)), (10, .slice (y290.1) ((s290.1).length) (y290.2)), (11, .int .i64 (s290.2)), (12, .int .i64 (s54))]) (fun s54 y54 => [.r (y290.1) ((s290.1).length) (y290.2) 3 1 ((s290.1).flatMap e_i64)] ++ [.old w]) (fun s54 y54 => True) ?_ ?_
              · intro s54 y54 hx462 hG463
                subst hj54
                refine T_reg ?_
                refine T_val (Ev_move rfl) rfl ?_
                refine T_val (Ev_move rfl) rfl ?_
                refine T_x (Wx_buildSlice rfl (bls35_1_0i64 _) rfl (fun g464 => ?_))
                obtain ⟨h465, hx466⟩ := gd_some hx462
                refine T_h (Wh_appendP e_i64 (s290.1) [s54] rfl rfl rfl elm35 (fun _ => rfl) (i' := 0) rfl rfl rfl rfl h465 rfl (fun _ _ => .there (.here)) (fun _ _ => .drop .refl) (by decide) (fun A467 c468 => ?_))
                refine T_val (Ev_assign rfl) rfl ?_
                refine T_nil ?_
                refine T_inN ?_
                refine T_next ?_
                refine T_reg ?_
                refine T_val (Ev_move rfl) rfl ?_
                refine T_val (Ev_add_w64 rfl rfl) rfl ?_
                refine T_val (Ev_assign rfl) rfl ?_
                refine T_nil ?_
                exact T_roundP (s290.1 ++ [s54], w64 (s290.2 + 1)) (A467, c468) hx466 trivial (by exact .cons rfl (.cons rfl (.cons rfl (.cons rfl (.cons rfl (.nil)))))) (by exact .pick 0 rfl (.refl))
              · skip
                refine T_seq ?_
                refine T_reg ?_
                refine T_val (Ev_assign rfl) rfl ?_
                refine T_nil ?_
                refine T_next ?_
                refine T_block ?_
                obtain ⟨t384, hl384, ho384⟩ := bnd_some hx297
                refine T_loopP (σ := Int × Int) (γ := Unit) hl384 (fun s384 y384 => [(0, .slice (A0_0) ((p0).length) (c0_0)), (1, .slice (A0_1) ((p1).length) (c0_1)), (2, .slice (A0_2) ((p2).length) (c0_2)), (10, .slice (y290.1) ((s290.1).length) (y290.2)), (11, .int .i64 (s290.2)), (12, .int .i64 (s384.1)), (13, .int .i64 (s384.2))]) (fun s384 y384 => [.r (y290.1) ((s290.1).length) (y290.2) 3 1 ((s290.1).flatMap e_i64)] ++ [.old w]) (fun s384 y384 => True) () trivial (by exact .cons rfl (.cons rfl (.cons rfl (.cons rfl (.cons rfl (.cons rfl (.cons rfl (.nil)))))))) (by exact .pick 0 rfl (.refl)) ?_
                intro s384 y384 hG384 x384 hx384 ht384
                unfold lidarref07_Correct_l17 at hx384
                refine T_seq ?_
                refine T_seq ?_
                refine T_reg ?_
                refine T_val (Ev_move rfl) rfl ?_
                refine T_val (Ev_move rfl) rfl ?_
                refine T_val (Ev_len rfl 72 Try.underlying43) rfl ?_
                refine T_val (Ev_lss rfl rfl) rfl ?_
                refine T_nil ?_
                refine T_next ?_
                refine T_caseP (s := 82) rfl (fun h385 => ?_) (fun h385 => ?_)
                · have hx386 := ite_t h385 hx384
                  refine T_condT rfl ?_
                  refine T_skip ?_
                  refine T_next ?_
                  obtain ⟨j68, hj68, hx386⟩ := jn_some hx386
                  refine T_cutP (τ := Int) (γ := Unit) (J := j68) (out := x384) (fun s68 y68 => [(0, .slice (A0_0) ((p0).length) (c0_0)), (1, .slice (A0_1) ((p1).length) (c0_1)), (2, .slice (A0_2) ((p2).length) (c0_2)), (10, .slice (y290.1) ((s290.1).length) (y290.2)), (11, .int .i64 (s290.2)), (12, .int .i64 (s68)), (13, .int .i64 (s384.2))]) (fun s68 y68 => [.r (y290.1) ((s290.1).length) (y290.2) 3 1 ((s290.1).flatMap e_i64)] ++ [.old w]) (fun s68 y68 => True) ?_ ?_
                  · intro s68 y68 hx460 hG461
                    subst hj68
                    refine T_reg ?_
                    refine T_val (Ev_move rfl) rfl ?_
                    refine T_val (Ev_add_w64 rfl rfl) rfl ?_
                    refine T_val (Ev_assign rfl) rfl ?_
                    refine T_nil ?_
                    exact T_roundP (s68, w64 (s384.2 + 1)) () hx460 trivial (by exact .cons rfl (.cons rfl (.cons rfl (.cons rfl (.cons rfl (.cons rfl (.cons rfl (.nil)))))))) (by exact .pick 0 rfl (.refl))
                  · skip
                    refine T_block ?_
                    refine T_seq ?_
                    refine T_reg ?_
                    refine T_val (Ev_move rfl) rfl ?_
                    refine T_val (Ev_move rfl) rfl ?_
                    obtain ⟨x388, h389, hx390⟩ := bnd_some hx386
                    obtain ⟨b391, o392, j393, ys401, hA394, hj395, hl396, hp397, hr402⟩ := HasN.at_idx ha2' h389
                    obtain ⟨A398, c399, rfl, hs400⟩ := hr402
                    have hp403 := Pt.low (E := []) hp397 hK
                    refine T_val (Ev_index rfl rfl hA394 (j := j393) hj395 hl396 slc43) rfl ?_
                    refine T_val (Ev_loadPK0 rfl hp403 (SubE.cons2 (i := 1) rfl (SubE.nil)) rfl agg72) rfl ?_
                    refine T_x (Wx_alloc zer72 rfl (fun g404 => ?_))
                    refine T_h (Wh_store rfl rfl rfl (.here) (.put (.put (.put (.put (.done))))) rfl (List.cons_ne_nil _ _) agg72.2 ?_)
                    refine T_nil ?_
                    refine T_next ?_
                    refine T_seq ?_
                    refine T_seq ?_
                    refine T_reg ?_
                    refine T_val (Ev_field rfl fld72_1 rfl) rfl ?_
                    refine T_val (Ev_load1 rfl (i := 0) rfl rfl one22) rfl ?_
                    refine T_val (Ev_len rfl 24 Try.underlying22) rfl ?_
                    refine T_val (Ev_eql rfl rfl) rfl ?_
                    refine T_nil ?_
                    refine T_next ?_
                    refine T_caseP (s := 92) rfl (fun h405 => ?_) (fun h405 => ?_)
                    · have hx406 := ite_t h405 hx390
                      refine T_condT rfl ?_
                      obtain ⟨j72, hj72, hx406⟩ := jn_some hx406
                      refine T_cutP (τ := Int) (γ := Unit) (J := j72) (out := x384) (fun s72 y72 => [(0, .slice (A0_0) ((p0).length) (c0_0)), (1, .slice (A0_1) ((p1).length) (c0_1)), (2, .slice (A0_2) ((p2).length) (c0_2)), (10, .slice (y290.1) ((s290.1).length) (y290.2)), (11, .int .i64 (s290.2)), (12, .int .i64 (s72)), (13, .int .i64 (s384.2))]) (fun s72 y72 => [.r (y290.1) ((s290.1).length) (y290.2) 3 1 ((s290.1).flatMap e_i64)] ++ [.old w]) (fun s72 y72 => True) ?_ ?_
                      · intro s72 y72 hx421 hG422
                        subst hj72
                        refine T_exit ?_
                        refine T_outX ?_
                        refine T_here ?_
                        exact T_metP s72 () hx421 trivial (by exact .cons rfl (.cons rfl (.cons rfl (.cons rfl (.cons rfl (.cons rfl (.cons rfl (.nil)))))))) (by exact .pick 0 rfl (.refl))
                      · skip
                        refine T_seq ?_
                        refine T_draw [0, 1, 0, 0, 0, 0, 1, 0] [[], [0], [], [], [2, 3], [2, 3, 4], [2, 3, 4, 5], [0, 1, 2, 3, 4, 5, 6]] (.q 0 (.q 1 (.q 2 (.q 3 (.q 4 (.q 5 (.q 6 (.q 7 (.done))))))))) mixed (by kernel_rfl) (by kernel_rfl) ?_
                        refine P_p rfl rfl (Ev_field rfl fld72_0 rfl) rfl ?_
                        refine P_q rfl rfl (Ev_load1 rfl (i := 0) rfl rfl one3) rfl ?_
                        refine P_p rfl rfl (Ev_move rfl) rfl ?_
                        refine P_p rfl rfl (Ev_move rfl) rfl ?_
                        obtain ⟨x407, h408, hx409⟩ := bnd_some hx406
                        have hw417 := Has.low (E := []) ha0' hK
                        obtain ⟨b410, o411, j412, hA413, hj414, hl415, hp416⟩ := Has.at_idx hw417 h408
                        refine P_p rfl rfl (Ev_index rfl rfl hA413 (j := j412) hj414 hl415 slc31) rfl ?_
                        refine P_p rfl rfl (Ev_field rfl fld53_0 rfl) rfl ?_
                        refine P_q rfl rfl (Ev_loadP1 (d := 0) rfl hp416 (SubE.cons2 (i := 2) rfl (SubE.nil)) rfl one3) rfl ?_
                        refine P_p rfl rfl (Ev_eql rfl rfl) rfl ?_
                        refine P_done ?_
                        refine T_next ?_
                        refine T_caseP (s := 100) rfl (fun h418 => ?_) (fun h418 => ?_)
                        · have hx419 := ite_t h418 hx409
                          refine T_condT rfl ?_
                          refine T_reg ?_
                          refine T_val (Ev_field rfl fld72_3 rfl) rfl ?_
                          refine T_val (Ev_load1 rfl (i := 0) rfl rfl one3) rfl ?_
                          refine T_val (Ev_assign rfl) rfl ?_
                          refine T_nil ?_
                          exact T_metP x388.To () hx419 trivial (by exact .cons rfl (.cons rfl (.cons rfl (.cons rfl (.cons rfl (.cons rfl (.cons rfl (.nil)))))))) (by exact .pick 1 rfl (.drop 0 rfl (.refl)))
                        · have hx420 := ite_f h418 hx409
                          refine T_condF rfl ?_
                          refine T_skip ?_
                          exact T_metP s384.1 () hx420 trivial (by exact .cons rfl (.cons rfl (.cons rfl (.cons rfl (.cons rfl (.cons rfl (.cons rfl (.nil)))))))) (by exact .pick 1 rfl (.drop 0 rfl (.refl)))
                    · have hx423 := ite_f h405 hx390
                      refine T_condF rfl ?_
                      refine T_skip ?_
                      refine T_next ?_
                      refine T_seq ?_
                      refine T_draw [0, 1, 0, 0, 0, 0, 1, 0, 0, 0, 0, 1, 0, 2, 0, 0, 0, 2, 2] [[], [0], [], [], [2, 3], [2, 3, 4], [2, 3, 4, 5], [], [], [7, 8], [7, 8, 9], [7, 8, 9, 10], [2, 3, 4, 5, 6, 7, 8, 9, 10, 11], [0, 1, 2, 3, 4, 5, 6, 7, 8, 9, 10, 11, 12], [0, 1, 2, 3, 4, 5, 6, 7, 8, 9, 10, 11, 12, 13], [0, 1, 2, 3, 4, 5, 6, 7, 8, 9, 10, 11, 12, 13, 14], [0, 1, 2, 3, 4, 5, 6, 7, 8, 9, 10, 11, 12, 13, 14], [0, 1, 2, 3, 4, 5, 6, 7, 8, 9, 10, 11, 12, 13, 14, 15], [0, 1, 2, 3, 4, 5, 6, 7, 8, 9, 10, 11, 12, 13, 14, 15, 16, 17]] (.q 0 (.q 1 (.q 2 (.q 3 (.q 4 (.q 5 (.q 6 (.q 7 (.q 8 (.q 9 (.q 10 (.q 11 (.q 12 (.e 13 (.q 14 (.q 15 (.q 16 (.e 17 (.e 18 (.done) (.stop)) (.stop))))) (.stop))))))))))))))) mixed (by kernel_rfl) (by kernel_rfl) ?_
                      refine P_p rfl rfl (Ev_field rfl fld72_1 rfl) rfl ?_
                      refine P_q rfl rfl (Ev_load1 rfl (i := 0) rfl rfl one22) rfl ?_
                      refine P_p rfl rfl (Ev_move rfl) rfl ?_
                      refine P_p rfl rfl (Ev_move rfl) rfl ?_
                      obtain ⟨x424, h425, hx426⟩ := bnd_some hx423
                      have hw434 := Has.low (E := []) ha0' hK
                      obtain ⟨b427, o428, j429, hA430, hj431, hl432, hp433⟩ := Has.at_idx hw434 h425
                      refine P_p rfl rfl (Ev_index rfl rfl hA430 (j := j429) hj431 hl432 slc31) rfl ?_
                      refine P_p rfl rfl (Ev_field rfl fld53_1 rfl) rfl ?_
                      refine P_q rfl rfl (Ev_loadP1 (d := 1) rfl hp433 (SubE.cons2 (i := 2) rfl (SubE.nil)) rfl one3) rfl ?_
                      refine P_p rfl rfl (Ev_move rfl) rfl ?_
                      refine P_p rfl rfl (Ev_move rfl) rfl ?_
                      obtain ⟨x435, h436, hx437⟩ := bnd_some hx426
                      have hw445 := Has.low (E := []) ha0' hK
                      obtain ⟨b438, o439, j440, hA441, hj442, hl443, hp444⟩ := Has.at_idx hw445 h436
                      refine P_p rfl rfl (Ev_index rfl rfl hA441 (j := j440) hj442 hl443 slc31) rfl ?_
                      refine P_p rfl rfl (Ev_field rfl fld53_2 rfl) rfl ?_
                      refine P_q rfl rfl (Ev_loadP1 (d := 2) rfl hp444 (SubE.cons2 (i := 2) rfl (SubE.nil)) rfl one3) rfl ?_
                      refine P_p rfl rfl (Ev_build rfl (bld24_0i641i64 _ _)) rfl ?_
                      obtain ⟨r446, h447, hx448⟩ := bnd_some hx437
                      refine P_x rfl (Wx_callL rfl (fun w1 hw1 => lidarref07_Within_ok x388.Ring (⟨x424.X, x435.Y⟩ : S_api_XY) (Has.len' hs400) h447 w1 (okApp (K := K) (K2 := []) hK (by exact (SubE.cons2 (i := 2) rfl (SubE.nil))) (by exact (SubE.nil)) hw1)) rfl ?_) ?_
                      rotate_left; exact P_stop
                      rintro _ _ hlo ⟨rfl, rfl, -⟩
                      refine T_app0 ?_
                      refine P_p rfl rfl (Ev_move rfl) rfl ?_
                      refine P_p rfl rfl (Ev_extract rfl rfl) rfl ?_
                      refine P_p rfl rfl (Ev_extract rfl rfl) rfl ?_
                      refine P_x rfl (Wx_val (Ev_assign rfl) rfl ?_) ?_
                      rotate_left; exact P_stop
                      refine P_x rfl (Wx_val (Ev_assign rfl) rfl ?_) ?_
                      rotate_left; exact P_stop
                      refine P_done ?_
                      refine T_next ?_
                      obtain ⟨j75, hj75, hx448⟩ := jn_some hx448
                      refine T_cutP (τ := Bool) (γ := Unit) (J := j75) (out := x384) (fun s75 y75 => [(0, .slice (A0_0) ((p0).length) (c0_0)), (1, .slice (A0_1) ((p1).length) (c0_1)), (2, .slice (A0_2) ((p2).length) (c0_2)), (10, .slice (y290.1) ((s290.1).length) (y290.2)), (11, .int .i64 (s290.2)), (12, .int .i64 (s384.1)), (13, .int .i64 (s384.2)), (14, .pointer (some ⟨g404, 0, none⟩)), (131, .bool (s75))]) (fun s75 y75 => [.m g404 72 [.int .i64 (x388.Id), .slice (A398) ((x388.Ring).length) (c399), .int .i64 (x388.From), .int .i64 (x388.To)], .r (y290.1) ((s290.1).length) (y290.2) 3 1 ((s290.1).flatMap e_i64)] ++ [.old w]) (fun s75 y75 => True) ?_ ?_
                      · intro s75 y75 hx455 hG456
                        subst hj75
                        refine T_caseB (s := 131) rfl (fun h457 => ?_) (fun h457 => ?_)
                        · have hx458 := ite_t h457 hx455
                          refine T_condT rfl ?_
                          refine T_reg ?_
                          refine T_val (Ev_field rfl fld72_3 rfl) rfl ?_
                          refine T_val (Ev_load1 rfl (i := 0) rfl rfl one3) rfl ?_
                          refine T_val (Ev_assign rfl) rfl ?_
                          refine T_nil ?_
                          refine T_inN ?_
                          exact T_metP x388.To () hx458 trivial (by exact .cons rfl (.cons rfl (.cons rfl (.cons rfl (.cons rfl (.cons rfl (.cons rfl (.nil)))))))) (by exact .pick 1 rfl (.drop 0 rfl (.refl)))
                        · have hx459 := ite_bf h457 hx455
                          refine T_condF rfl ?_
                          refine T_skip ?_
                          refine T_inN ?_
                          exact T_metP s384.1 () hx459 trivial (by exact .cons rfl (.cons rfl (.cons rfl (.cons rfl (.cons rfl (.cons rfl (.cons rfl (.nil)))))))) (by exact .pick 1 rfl (.drop 0 rfl (.refl)))
                      · skip
                        refine T_reg ?_
                        refine T_val (Ev_move rfl) rfl ?_
                        refine T_val (Ev_move rfl) rfl ?_
                        refine T_caseB (s := 121) rfl (fun h449 => ?_) (fun h449 => ?_)
                        · have hx450 := ite_t h449 hx448
                          refine T_valG rfl rfl rfl (Ev_field rfl fld72_2 rfl) rfl ?_
                          refine T_valG rfl rfl rfl (Ev_load1 rfl (i := 0) rfl rfl one3) rfl ?_
                          refine T_valG rfl rfl rfl (Ev_eql rfl rfl) rfl ?_
                          refine T_valG rfl rfl rfl (Ev_move rfl) rfl ?_
                          refine T_caseP (s := 125) rfl (fun h451 => ?_) (fun h451 => ?_)
                          · have hx452 := ite_t h451 hx450
                            refine T_skipG rfl rfl rfl rfl rfl ?_
                            refine T_skipG rfl rfl rfl rfl rfl ?_
                            refine T_skipG rfl rfl rfl rfl rfl ?_
                            refine T_skipG rfl rfl rfl rfl rfl ?_
                            refine T_valG rfl rfl rfl (Ev_pickT rfl rfl) rfl ?_
                            refine T_val (Ev_pickT rfl rfl) rfl ?_
                            refine T_nil ?_
                            exact T_metP true () hx452 trivial (by exact .cons rfl (.cons rfl (.cons rfl (.cons rfl (.cons rfl (.cons rfl (.cons rfl (.cons rfl (.cons rfl (.nil)))))))))) (by exact .pick 0 rfl (.pick 0 rfl (.refl)))
                          · have hx453 := ite_f h451 hx450
                            refine T_valG rfl rfl rfl (Ev_field rfl fld72_2 rfl) rfl ?_
                            refine T_valG rfl rfl rfl (Ev_load1 rfl (i := 0) rfl rfl one3) rfl ?_
                            refine T_valG rfl rfl rfl (Ev_move rfl) rfl ?_
                            refine T_valG rfl rfl rfl (Ev_eql rfl rfl) rfl ?_
                            refine T_valG rfl rfl rfl (Ev_pickF rfl rfl) rfl ?_
                            refine T_val (Ev_pickT rfl rfl) rfl ?_
                            refine T_nil ?_
                            exact T_metP (decide (x388.From = s384.1)) () hx453 trivial (by exact .cons rfl (.cons rfl (.cons rfl (.cons rfl (.cons rfl (.cons rfl (.cons rfl (.cons rfl (.cons rfl (.nil)))))))))) (by exact .pick 0 rfl (.pick 0 rfl (.refl)))
                        · have hx454 := ite_bf h449 hx448
                          refine T_skipG rfl rfl rfl rfl rfl ?_
                          refine T_skipG rfl rfl rfl rfl rfl ?_
                          refine T_skipG rfl rfl rfl rfl rfl ?_
                          refine T_skipG rfl rfl rfl rfl rfl ?_
                          refine T_skipU rfl rfl rfl rfl ?_
                          refine T_skipU rfl rfl rfl rfl ?_
                          refine T_skipU rfl rfl rfl rfl ?_
                          refine T_skipU rfl rfl rfl rfl ?_
                          refine T_skipG rfl rfl rfl rfl rfl ?_
                          refine T_val (Ev_pickF rfl rfl) rfl ?_
                          refine T_nil ?_
                          exact T_metP false () hx454 trivial (by exact .cons rfl (.cons rfl (.cons rfl (.cons rfl (.cons rfl (.cons rfl (.cons rfl (.cons rfl (.cons rfl (.nil)))))))))) (by exact .pick 0 rfl (.pick 0 rfl (.refl)))
                · have hx387 := ite_f h385 hx384
                  refine T_condF rfl ?_
                  refine T_exit ?_
                  refine T_outX ?_
                  obtain rfl := exit_eq ht384 hx387
                  refine T_outX ?_
                  refine T_here ?_
                  exact T_metP s384.1 () ho384 trivial (by exact .cons rfl (.cons rfl (.cons rfl (.cons rfl (.cons rfl (.cons rfl (.nil))))))) (by exact .pick 0 rfl (.refl))
            · have hx294 := ite_f h292 hx290
              refine T_condF rfl ?_
              refine T_exit ?_
              refine T_outX ?_
              obtain rfl := exit_eq ht290 hx294
              refine T_outX ?_
              refine T_here ?_
              exact T_metP s290.1 (y290.1, y290.2) ho290 trivial (by exact .cons rfl (.nil)) (by exact .pick 0 rfl (.refl))
        · skip
          refine T_seq ?_
          refine T_reg ?_
          refine T_val (Ev_assign rfl) rfl ?_
          refine T_nil ?_
          refine T_next ?_
          refine T_block ?_
          obtain ⟨t62, hl62, ho62⟩ := bnd_some hx14
          refine T_loopP (σ := Int) (γ := Unit) hl62 (fun s62 y62 => [(0, .slice (A0_0) ((p0).length) (c0_0)), (1, .slice (A0_1) ((p1).length) (c0_1)), (2, .slice (A0_2) ((p2).length) (c0_2)), (8, .int .i64 (s62))]) (fun s62 y62 => [] ++ [.old w]) (fun s62 y62 => True) () trivial (by exact .cons rfl (.cons rfl (.cons rfl (.cons rfl (.nil))))) (by exact .refl) ?_
          intro s62 y62 hG62 x62 hx62 ht62
          unfold lidarref07_Correct_l6 at hx62
          refine T_seq ?_
          refine T_seq ?_
          refine T_reg ?_
          refine T_val (Ev_move rfl) rfl ?_
          refine T_val (Ev_move rfl) rfl ?_
          refine T_val (Ev_len rfl 72 Try.underlying43) rfl ?_
          refine T_val (Ev_lss rfl rfl) rfl ?_
          refine T_nil ?_
          refine T_next ?_
          refine T_caseP (s := 35) rfl (fun h63 => ?_) (fun h63 => ?_)
          · have hx64 := ite_t h63 hx62
            refine T_condT rfl ?_
            refine T_skip ?_
            refine T_next ?_
            refine T_seq ?_
            refine T_block ?_
            refine T_seq ?_
            refine T_reg ?_
            refine T_val (Ev_move rfl) rfl ?_
            refine T_val (Ev_move rfl) rfl ?_
            obtain ⟨x66, h67, hx68⟩ := bnd_some hx64
            obtain ⟨b69, o70, j71, ys79, hA72, hj73, hl74, hp75, hr80⟩ := HasN.at_idx ha2' h67
            obtain ⟨A76, c77, rfl, hs78⟩ := hr80
            have hp81 := Pt.low (E := []) hp75 hK
            refine T_val (Ev_index rfl rfl hA72 (j := j71) hj73 hl74 slc43) rfl ?_
            refine T_val (Ev_loadPK0 rfl hp81 (SubE.cons2 (i := 0) rfl (SubE.nil)) rfl agg72) rfl ?_
            refine T_x (Wx_alloc zer72 rfl (fun g82 => ?_))
            refine T_h (Wh_store rfl rfl rfl (.here) (.put (.put (.put (.put (.done))))) rfl (List.cons_ne_nil _ _) agg72.2 ?_)
            refine T_nil ?_
            refine T_next ?_
            obtain ⟨j19, hj19, hx68⟩ := jn_some hx68
            refine T_cutP (τ := Bool) (γ := Unit) (J := j19) (out := x62) (fun s19 y19 => [(0, .slice (A0_0) ((p0).length) (c0_0)), (1, .slice (A0_1) ((p1).length) (c0_1)), (2, .slice (A0_2) ((p2).length) (c0_2)), (8, .int .i64 (s62)), (68, .bool (s19))]) (fun s19 y19 => [] ++ [.old w]) (fun s19 y19 => True) ?_ ?_
            · intro s19 y19 hx104 hG105
              subst hj19
              refine T_caseB (s := 68) rfl (fun h106 => ?_) (fun h106 => ?_)
              · have hx107 := ite_t h106 hx104
                refine T_condT rfl ?_
                refine T_seq ?_
                refine T_reg ?_
                refine T_val (Ev_assign rfl) rfl ?_
                refine T_val (Ev_assign rfl) rfl ?_
                refine T_nil ?_
                refine T_next ?_
                refine T_retc ?_
                refine T_inR ?_
                refine T_outR ?_
                obtain rfl := exit_eq ht62 hx107
                refine T_outR ?_
                refine T_inR ?_
                refine T_outR ?_
                refine T_none 3 1 ?_
                obtain rfl := Option.some.inj ho62
                exact T_retP (rs := [.tmp 6, .tmp 7]) Try.results25 (.tmp rfl (.tmp rfl (.nil))) (Ln := [.r (none) (0) (0) 3 1 ((([] : List Int)).flatMap e_i64)]) ⟨none, 0, rfl, rfl, trivial⟩ (loCons rfl (loNil)) (by exact .pick 0 rfl (.refl))
              · have hx108 := ite_bf h106 hx104
                refine T_condF rfl ?_
                refine T_skip ?_
                refine T_inN ?_
                refine T_next ?_
                refine T_reg ?_
                refine T_val (Ev_move rfl) rfl ?_
                refine T_val (Ev_add_w64 rfl rfl) rfl ?_
                refine T_val (Ev_assign rfl) rfl ?_
                refine T_nil ?_
                exact T_roundP (w64 (s62 + 1)) () hx108 trivial (by exact .cons rfl (.cons rfl (.cons rfl (.cons rfl (.nil))))) (by exact .refl)
            · skip
              refine T_reg ?_
              refine T_val (Ev_field rfl fld72_3 rfl) rfl ?_
              refine T_val (Ev_load1 rfl (i := 0) rfl rfl one3) rfl ?_
              obtain ⟨r83, h84, hx85⟩ := bnd_some hx68
              refine T_x (Wx_callL rfl (fun w1 hw1 => lidarref07_class_ok x66.To  h84 w1) rfl ?_)
              rintro _ _ hlo ⟨rfl, rfl, -⟩
              refine T_app0 ?_
              refine T_val (Ev_not rfl) rfl ?_
              refine T_val (Ev_move rfl) rfl ?_
              refine T_caseNB (s := 46) rfl (fun h86 => ?_) (fun h86 => ?_)
              · have hx87 := ite_bf h86 hx85
                refine T_skipG rfl rfl rfl rfl rfl ?_
                refine T_skipG rfl rfl rfl rfl rfl ?_
                refine T_skipG rfl rfl rfl rfl rfl ?_
                refine T_skipG rfl rfl rfl rfl rfl ?_
                refine T_skipG rfl rfl rfl rfl rfl ?_
                refine T_skipU rfl rfl rfl rfl ?_
                refine T_skipU rfl rfl rfl rfl ?_
                refine T_skipU rfl rfl rfl rfl ?_
                refine T_skipU rfl rfl rfl rfl ?_
                refine T_skipU rfl rfl rfl rfl ?_
                refine T_skipU rfl rfl rfl rfl ?_
                refine T_skipU rfl rfl rfl rfl ?_
                refine T_skipU rfl rfl rfl rfl ?_
                refine T_skipU rfl rfl rfl rfl ?_
                refine T_skipU rfl rfl rfl rfl ?_
                refine T_skipU rfl rfl rfl rfl ?_
                refine T_skipU rfl rfl rfl rfl ?_
                refine T_skipU rfl rfl rfl rfl ?_
                refine T_skipU rfl rfl rfl rfl ?_
                refine T_skipU rfl rfl rfl rfl ?_
                refine T_skipG rfl rfl rfl rfl rfl ?_
                refine T_val (Ev_pickT rfl rfl) rfl ?_
                refine T_nil ?_
                exact T_metP true () hx87 trivial (by exact .cons rfl (.cons rfl (.cons rfl (.cons rfl (.cons rfl (.nil)))))) (by exact .drop 0 rfl (.refl))
              · have hx88 := ite_t h86 hx85
                refine T_valG rfl rfl rfl (Ev_field rfl fld72_1 rfl) rfl ?_
                refine T_valG rfl rfl rfl (Ev_load1 rfl (i := 0) rfl rfl one22) rfl ?_
                refine T_valG rfl rfl rfl (Ev_len rfl 24 Try.underlying22) rfl ?_
                refine T_valG rfl rfl rfl (Ev_gtr rfl rfl) rfl ?_
                refine T_valG rfl rfl rfl (Ev_move rfl) rfl ?_
                refine T_caseP (s := 51) rfl (fun h89 => ?_) (fun h89 => ?_)
                · have hx90 := ite_t h89 hx88
                  refine T_valG rfl rfl rfl (Ev_field rfl fld72_1 rfl) rfl ?_
                  refine T_valG rfl rfl rfl (Ev_load1 rfl (i := 0) rfl rfl one22) rfl ?_
                  obtain ⟨r91, h92, hx93⟩ := bnd_some hx90
                  refine T_xG rfl rfl rfl (Wx_callL rfl (fun w1 hw1 => lidarref07_Ring_ok x66.Ring (Has.len' hs78) h92 w1 (okApp (K := K) (K2 := []) hK (by exact (SubE.cons2 (i := 1) rfl (SubE.nil))) (by exact (SubE.nil)) hw1)) rfl ?_)
                  rintro _ _ hlo ⟨rfl, rfl, -⟩
                  refine T_app0 ?_
                  refine T_valG rfl rfl rfl (Ev_not rfl) rfl ?_
                  refine T_valG rfl rfl rfl (Ev_move rfl) rfl ?_
                  refine T_caseNB (s := 56) rfl (fun h94 => ?_) (fun h94 => ?_)
                  · have hx95 := ite_bf h94 hx93
                    refine T_skipG rfl rfl rfl rfl rfl ?_
                    refine T_skipG rfl rfl rfl rfl rfl ?_
                    refine T_skipG rfl rfl rfl rfl rfl ?_
                    refine T_skipG rfl rfl rfl rfl rfl ?_
                    refine T_skipU rfl rfl rfl rfl ?_
                    refine T_skipU rfl rfl rfl rfl ?_
                    refine T_skipU rfl rfl rfl rfl ?_
                    refine T_skipU rfl rfl rfl rfl ?_
                    refine T_skipG rfl rfl rfl rfl rfl ?_
                    refine T_valG rfl rfl rfl (Ev_pickT rfl rfl) rfl ?_
                    refine T_valG rfl rfl rfl (Ev_pickT rfl rfl) rfl ?_
                    refine T_val (Ev_pickF rfl rfl) rfl ?_
                    refine T_nil ?_
                    exact T_metP true () hx95 trivial (by exact .cons rfl (.cons rfl (.cons rfl (.cons rfl (.cons rfl (.nil)))))) (by exact .drop 0 rfl (.refl))
                  · have hx96 := ite_t h94 hx93
                    refine T_valG rfl rfl rfl (Ev_field rfl fld72_2 rfl) rfl ?_
                    refine T_valG rfl rfl rfl (Ev_load1 rfl (i := 0) rfl rfl one3) rfl ?_
                    refine T_valG rfl rfl rfl (Ev_neq rfl rfl) rfl ?_
                    refine T_valG rfl rfl rfl (Ev_move rfl) rfl ?_
                    refine T_caseNP (s := 60) rfl (fun h97 => ?_) (fun h97 => ?_)
                    · have hx98 := ite_f h97 hx96
                      refine T_valG rfl rfl rfl (Ev_field rfl fld72_2 rfl) rfl ?_
                      refine T_valG rfl rfl rfl (Ev_load1 rfl (i := 0) rfl rfl one3) rfl ?_
                      obtain ⟨r99, h100, hx101⟩ := bnd_some hx98
                      refine T_xG rfl rfl rfl (Wx_callL rfl (fun w1 hw1 => lidarref07_class_ok x66.From  h100 w1) rfl ?_)
                      rintro _ _ hlo ⟨rfl, rfl, -⟩
                      refine T_app0 ?_
                      refine T_valG rfl rfl rfl (Ev_not rfl) rfl ?_
                      refine T_valG rfl rfl rfl (Ev_pickT rfl rfl) rfl ?_
                      refine T_valG rfl rfl rfl (Ev_pickF rfl rfl) rfl ?_
                      refine T_valG rfl rfl rfl (Ev_pickT rfl rfl) rfl ?_
                      refine T_val (Ev_pickF rfl rfl) rfl ?_
                      refine T_nil ?_
                      exact T_metP (!(r99)) () hx101 trivial (by exact .cons rfl (.cons rfl (.cons rfl (.cons rfl (.cons rfl (.nil)))))) (by exact .drop 0 rfl (.refl))
                    · have hx102 := ite_t h97 hx96
                      refine T_skipG rfl rfl rfl rfl rfl ?_
                      refine T_skipG rfl rfl rfl rfl rfl ?_
                      refine T_skipG rfl rfl rfl rfl rfl ?_
                      refine T_skipG rfl rfl rfl rfl rfl ?_
                      refine T_valG rfl rfl rfl (Ev_pickF rfl rfl) rfl ?_
                      refine T_valG rfl rfl rfl (Ev_pickF rfl rfl) rfl ?_
                      refine T_valG rfl rfl rfl (Ev_pickT rfl rfl) rfl ?_
                      refine T_val (Ev_pickF rfl rfl) rfl ?_
                      refine T_nil ?_
                      exact T_metP false () hx102 trivial (by exact .cons rfl (.cons rfl (.cons rfl (.cons rfl (.cons rfl (.nil)))))) (by exact .drop 0 rfl (.refl))
                · have hx103 := ite_f h89 hx88
                  refine T_skipG rfl rfl rfl rfl rfl ?_
                  refine T_skipG rfl rfl rfl rfl rfl ?_
                  refine T_skipG rfl rfl rfl rfl rfl ?_
                  refine T_skipG rfl rfl rfl rfl rfl ?_
                  refine T_skipG rfl rfl rfl rfl rfl ?_
                  refine T_skipU rfl rfl rfl rfl ?_
                  refine T_skipU rfl rfl rfl rfl ?_
                  refine T_skipU rfl rfl rfl rfl ?_
                  refine T_skipU rfl rfl rfl rfl ?_
                  refine T_skipU rfl rfl rfl rfl ?_
                  refine T_skipU rfl rfl rfl rfl ?_
                  refine T_skipU rfl rfl rfl rfl ?_
                  refine T_skipU rfl rfl rfl rfl ?_
                  refine T_skipU rfl rfl rfl rfl ?_
                  refine T_skipG rfl rfl rfl rfl rfl ?_
                  refine T_valG rfl rfl rfl (Ev_pickF rfl rfl) rfl ?_
                  refine T_val (Ev_pickF rfl rfl) rfl ?_
                  refine T_nil ?_
                  exact T_metP false () hx103 trivial (by exact .cons rfl (.cons rfl (.cons rfl (.cons rfl (.cons rfl (.nil)))))) (by exact .drop 0 rfl (.refl))
          · have hx65 := ite_f h63 hx62
            refine T_condF rfl ?_
            refine T_exit ?_
            refine T_outX ?_
            obtain rfl := exit_eq ht62 hx65
            refine T_outX ?_
            refine T_here ?_
            exact T_metP () () ho62 trivial (by exact .cons rfl (.cons rfl (.cons rfl (.nil)))) (by exact .refl)
    · skip
      refine T_reg ?_
      refine T_val (Ev_move rfl) rfl ?_
      refine T_val (Ev_len rfl 3 Try.underlying35) rfl ?_
      refine T_val (Ev_move rfl) rfl ?_
      refine T_val (Ev_len rfl 53 Try.underlying31) rfl ?_
      refine T_val (Ev_neq rfl rfl) rfl ?_
      refine T_val (Ev_move rfl) rfl ?_
      refine T_caseNP (s := 27) rfl (fun h7 => ?_) (fun h7 => ?_)
      · have hx8 := ite_f h7 hx6
        refine T_skipG rfl rfl rfl rfl rfl ?_
        refine T_skipG rfl rfl rfl rfl rfl ?_
        refine T_skipG rfl rfl rfl rfl rfl ?_
        refine T_val (Ev_pickT rfl rfl) rfl ?_
        refine T_val (Ev_assign rfl) rfl ?_
        refine T_nil ?_
        exact T_metP true () hx8 trivial (by exact .cons rfl (.cons rfl (.cons rfl (.cons rfl (.nil))))) (by exact .refl)
      · have hx9 := ite_t h7 hx6
        refine T_valG rfl rfl rfl (Ev_move rfl) rfl ?_
        refine T_valG rfl rfl rfl (Ev_len rfl 72 Try.underlying43) rfl ?_
        refine T_valG rfl rfl rfl (Ev_gtr rfl rfl) rfl ?_
        refine T_val (Ev_pickF rfl rfl) rfl ?_
        refine T_val (Ev_assign rfl) rfl ?_
        refine T_nil ?_
        exact T_metP (decide (64 < ((((p2).length : Nat) : Int)))) () hx9 trivial (by exact .cons rfl (.cons rfl (.cons rfl (.cons rfl (.nil))))) (by exact .refl)
set_option maxRecDepth 100000 in
theorem lidarlaw07_sameInts_ok (p0 : List Int) (p1 : List Int) {K : List Ent} {A0_0 : Option Addr} {c0_0 : Nat} {A0_1 : Option Addr} {c0_1 : Nat} (ha0 : Has K A0_0 (p0).length c0_0 1 e_i64 (p0)) (ha1 : Has K A0_1 (p1).length c0_1 1 e_i64 (p1)) {r : Bool} (hx : lidarlaw07_sameInts p0 p1 = some r) (w : World) (hK : ∀ e ∈ K, Ent.ok w e) : CtL Try.prog 20 [.slice (A0_0) ((p0).length) (c0_0), .slice (A0_1) ((p1).length) (c0_1)] w fun v Ln => v = .bool (r) ∧ Ln = [] ∧ True := by
  have ha0' := Has.up0 ha0
  have ha1' := Has.up0 ha1
  refine CtL.mk 26 Try.func20 rfl Try.ntmps20 (by kernel_rfl) rfl ?_
  show T 26 _ [(0, .slice (A0_0) ((p0).length) (c0_0)), (1, .slice (A0_1) ((p1).length) (c0_1))] _
  unfold lidarlaw07_sameInts at hx
  refine T_seq ?_
  refine T_reg ?_
  refine T_val (Ev_assign rfl) rfl ?_
  refine T_nil ?_
  refine T_next ?_
  refine T_seq ?_
  refine T_seq ?_
  refine T_reg ?_
  refine T_val (Ev_move rfl) rfl ?_
  refine T_val (Ev_len rfl 3 Try.underlying35) rfl ?_
  refine T_val (Ev_move rfl) rfl ?_
  refine T_val (Ev_len rfl 3 Try.underlying35) rfl ?_
  refine T_val (Ev_neq rfl rfl) rfl ?_
  refine T_nil ?_
  refine T_next ?_
  refine T_caseNP (s := 10) rfl (fun h1 => ?_) (fun h1 => ?_)
  · have hx2 := ite_f h1 hx
    refine T_condT rfl ?_
    refine T_seq ?_
    refine T_reg ?_
    refine T_val (Ev_assign rfl) rfl ?_
    refine T_nil ?_
    refine T_next ?_
    refine T_retc ?_
    refine T_outR ?_
    obtain rfl := Option.some.inj hx2
    exact T_retP (rs := [.tmp 4]) Try.results20 (.tmp rfl (.nil)) (Ln := []) ⟨rfl, rfl, trivial⟩ (loNil) (by exact .refl)
  · have hx3 := ite_t h1 hx
    refine T_condF rfl ?_
    refine T_skip ?_
    refine T_next ?_
    obtain ⟨j5, hj5, hx3⟩ := jn_some hx3
    refine T_cutP (τ := Unit) (γ := Unit) (J := j5) (out := r) (fun s5 y5 => []) (fun s5 y5 => [] ++ [.old w]) (fun s5 y5 => True) ?_ ?_
    · intro s5 y5 hx62 hG63
      subst hj5
      refine T_seq ?_
      refine T_reg ?_
      refine T_val (Ev_assign rfl) rfl ?_
      refine T_nil ?_
      refine T_next ?_
      refine T_retc ?_
      obtain rfl := Option.some.inj hx62
      exact T_retP (rs := [.tmp 4]) Try.results20 (.tmp rfl (.nil)) (Ln := []) ⟨rfl, rfl, trivial⟩ (loNil) (by exact .refl)
    · skip
      refine T_seq ?_
      refine T_reg ?_
      refine T_val (Ev_assign rfl) rfl ?_
      refine T_nil ?_
      refine T_next ?_
      refine T_block ?_
      obtain ⟨t33, hl33, ho33⟩ := bnd_some hx3
      refine T_loopP (σ := Int) (γ := Unit) hl33 (fun s33 y33 => [(0, .slice (A0_0) ((p0).length) (c0_0)), (1, .slice (A0_1) ((p1).length) (c0_1)), (5, .int .i64 (s33))]) (fun s33 y33 => [] ++ [.old w]) (fun s33 y33 => True) () trivial (by exact .cons rfl (.cons rfl (.cons rfl (.nil)))) (by exact .refl) ?_
      intro s33 y33 hG33 x33 hx33 ht33
      unfold lidarlaw07_sameInts_l4 at hx33
      refine T_seq ?_
      refine T_seq ?_
      refine T_reg ?_
      refine T_val (Ev_move rfl) rfl ?_
      refine T_val (Ev_move rfl) rfl ?_
      refine T_val (Ev_len rfl 3 Try.underlying35) rfl ?_
      refine T_val (Ev_lss rfl rfl) rfl ?_
      refine T_nil ?_
      refine T_next ?_
      refine T_caseP (s := 14) rfl (fun h34 => ?_) (fun h34 => ?_)
      · have hx35 := ite_t h34 hx33
        refine T_condT rfl ?_
        refine T_skip ?_
        refine T_next ?_
        refine T_seq ?_
        refine T_block ?_
        refine T_seq ?_
        refine T_draw [0, 0, 0, 1, 0, 0, 0, 1, 0] [[], [], [0, 1], [0, 1, 2], [], [], [4, 5], [4, 5, 6], [0, 1, 2, 3, 4, 5, 6, 7]] (.q 0 (.q 1 (.q 2 (.q 3 (.q 4 (.q 5 (.q 6 (.q 7 (.q 8 (.done)))))))))) mixed (by kernel_rfl) (by kernel_rfl) ?_
        refine P_p rfl rfl (Ev_move rfl) rfl ?_
        refine P_p rfl rfl (Ev_move rfl) rfl ?_
        obtain ⟨x37, h38, hx39⟩ := bnd_some hx35
        have hw47 := Has.low (E := []) ha0' hK
        obtain ⟨b40, o41, j42, hA43, hj44, hl45, hp46⟩ := Has.at_idx hw47 h38
        refine P_p rfl rfl (Ev_index rfl rfl hA43 (j := j42) hj44 hl45 slc35) rfl ?_
        refine P_q rfl rfl (Ev_loadP0 rfl hp46 (SubE.cons2 (i := 0) rfl (SubE.nil)) rfl one3) rfl ?_
        refine P_p rfl rfl (Ev_move rfl) rfl ?_
        refine P_p rfl rfl (Ev_move rfl) rfl ?_
        obtain ⟨x48, h49, hx50⟩ := bnd_some hx39
        have hw58 := Has.low (E := []) ha1' hK
        obtain ⟨b51, o52, j53, hA54, hj55, hl56, hp57⟩ := Has.at_idx hw58 h49
        refine P_p rfl rfl (Ev_index rfl rfl hA54 (j := j53) hj55 hl56 slc35) rfl ?_
        refine P_q rfl rfl (Ev_loadP0 rfl hp57 (SubE.cons2 (i := 0) rfl (SubE.nil)) rfl one3) rfl ?_
        refine P_p rfl rfl (Ev_neq rfl rfl) rfl ?_
        refine P_done ?_
        refine T_next ?_
        refine T_caseNP (s := 25) rfl (fun h59 => ?_) (fun h59 => ?_)
        · have hx60 := ite_f h59 hx50
          refine T_condT rfl ?_
          refine T_seq ?_
          refine T_reg ?_
          refine T_val (Ev_assign rfl) rfl ?_
          refine T_nil ?_
          refine T_next ?_
          refine T_retc ?_
          refine T_inR ?_
          refine T_outR ?_
          obtain rfl := exit_eq ht33 hx60
          refine T_outR ?_
          refine T_inR ?_
          refine T_outR ?_
          obtain rfl := Option.some.inj ho33
          exact T_retP (rs := [.tmp 4]) Try.results20 (.tmp rfl (.nil)) (Ln := []) ⟨rfl, rfl, trivial⟩ (loNil) (by exact .refl)
        · have hx61 := ite_t h59 hx50
          refine T_condF rfl ?_
          refine T_skip ?_
          refine T_inN ?_
          refine T_next ?_
          refine T_reg ?_
          refine T_val (Ev_move rfl) rfl ?_
          refine T_val (Ev_add_w64 rfl rfl) rfl ?_
          refine T_val (Ev_assign rfl) rfl ?_
          refine T_nil ?_
          exact T_roundP (w64 (s33 + 1)) () hx61 trivial (by exact .cons rfl (.cons rfl (.cons rfl (.nil)))) (by exact .refl)
      · have hx36 := ite_f h34 hx33
        refine T_condF rfl ?_
        refine T_exit ?_
        refine T_outX ?_
        obtain rfl := exit_eq ht33 hx36
        refine T_outX ?_
        refine T_here ?_
        exact T_metP () () ho33 trivial (by exact .nil) (by exact .refl)
set_option maxRecDepth 100000 in
theorem lidarlaw07_many_ok (p0 : List S_api_Point) (p1 : Int) {K : List Ent} {A0_0 : Option Addr} {c0_0 : Nat} (ha0 : Has K A0_0 (p0).length c0_0 9 e_api_Point (p0)) {r : Bool} (hx : lidarlaw07_many p0 p1 = some r) (w : World) (hK : ∀ e ∈ K, Ent.ok w e) : CtL Try.prog 11 [.slice (A0_0) ((p0).length) (c0_0), .int .i64 (p1)] w fun v Ln => v = .bool (r) ∧ Ln = [] ∧ True := by
  have ha0' := Has.up0 ha0
  refine CtL.mk 18 Try.func11 rfl Try.ntmps11 (by kernel_rfl) rfl ?_
  show T 18 _ [(0, .slice (A0_0) ((p0).length) (c0_0)), (1, .int .i64 (p1))] _
  unfold lidarlaw07_many at hx
  refine T_seq ?_
  refine T_reg ?_
  refine T_val (Ev_assign rfl) rfl ?_
  refine T_nil ?_
  refine T_next ?_
  obtain ⟨j2, hj2, hx⟩ := jn_some hx
  refine T_cutP (τ := Bool) (γ := Unit) (J := j2) (out := r) (fun s2 y2 => [(4, .bool (s2))]) (fun s2 y2 => [] ++ [.old w]) (fun s2 y2 => True) ?_ ?_
  · intro s2 y2 hx10 hG11
    subst hj2
    refine T_retc ?_
    obtain rfl := Option.some.inj hx10
    exact T_retP (rs := [.tmp 4]) Try.results11 (.tmp rfl (.nil)) (Ln := []) ⟨rfl, rfl, trivial⟩ (loNil) (by exact .refl)
  · skip
    refine T_reg ?_
    refine T_val (Ev_move rfl) rfl ?_
    refine T_val (Ev_len rfl 53 Try.underlying31) rfl ?_
    refine T_val (Ev_gtr rfl rfl) rfl ?_
    refine T_val (Ev_move rfl) rfl ?_
    refine T_caseP (s := 8) rfl (fun h1 => ?_) (fun h1 => ?_)
    · have hx2 := ite_t h1 hx
      refine T_skipG rfl rfl rfl rfl rfl ?_
      refine T_skipG rfl rfl rfl rfl rfl ?_
      refine T_skipG rfl rfl rfl rfl rfl ?_
      refine T_skipG rfl rfl rfl rfl rfl ?_
      refine T_skipG rfl rfl rfl rfl rfl ?_
      refine T_skipU rfl rfl rfl rfl ?_
      refine T_skipU rfl rfl rfl rfl ?_
      refine T_skipG rfl rfl rfl rfl rfl ?_
      refine T_val (Ev_pickT rfl rfl) rfl ?_
      refine T_val (Ev_assign rfl) rfl ?_
      refine T_nil ?_
      exact T_metP true () hx2 trivial (by exact .cons rfl (.nil)) (by exact .refl)
    · have hx3 := ite_f h1 hx
      refine T_valG rfl rfl rfl (Ev_move rfl) rfl ?_
      refine T_valG rfl rfl rfl (Ev_len rfl 53 Try.underlying31) rfl ?_
      refine T_valG rfl rfl rfl (Ev_move rfl) rfl ?_
      refine T_valG rfl rfl rfl (Ev_gtr rfl rfl) rfl ?_
      refine T_valG rfl rfl rfl (Ev_move rfl) rfl ?_
      refine T_caseP (s := 13) rfl (fun h4 => ?_) (fun h4 => ?_)
      · have hx5 := ite_t h4 hx3
        refine T_valG rfl rfl rfl (Ev_move rfl) rfl ?_
        obtain ⟨r6, h7, hx8⟩ := bnd_some hx5
        refine T_xG rfl rfl rfl (Wx_callL rfl (fun w1 hw1 => lidarref07_Valid_ok p0 (Has.len' ha0') h7 w1 (okApp (K := K) (K2 := []) hK (by exact (SubE.cons2 (i := 0) rfl (SubE.nil))) (by exact (SubE.nil)) hw1)) rfl ?_)
        rintro _ _ hlo ⟨rfl, rfl, -⟩
        refine T_app0 ?_
        refine T_valG rfl rfl rfl (Ev_pickT rfl rfl) rfl ?_
        refine T_val (Ev_pickF rfl rfl) rfl ?_
        refine T_val (Ev_assign rfl) rfl ?_
        refine T_nil ?_
        exact T_metP r6 () hx8 trivial (by exact .cons rfl (.nil)) (by exact .refl)
      · have hx9 := ite_f h4 hx3
        refine T_skipG rfl rfl rfl rfl rfl ?_
        refine T_skipG rfl rfl rfl rfl rfl ?_
        refine T_valG rfl rfl rfl (Ev_pickF rfl rfl) rfl ?_
        refine T_val (Ev_pickF rfl rfl) rfl ?_
        refine T_val (Ev_assign rfl) rfl ?_
        refine T_nil ?_
        exact T_metP false () hx9 trivial (by exact .cons rfl (.nil)) (by exact .refl)
set_option maxRecDepth 100000 in
theorem lidarlaw07_large_ok (p0 : List S_api_Edit) {K : List Ent} {A0_0 : Option Addr} {c0_0 : Nat} (ha0 : HasN K A0_0 (p0).length c0_0 4 n_api_Edit (p0)) {r : Bool} (hx : lidarlaw07_large p0 = some r) (w : World) (hK : ∀ e ∈ K, Ent.ok w e) : CtL Try.prog 23 [.slice (A0_0) ((p0).length) (c0_0)] w fun v Ln => v = .bool (r) ∧ Ln = [] ∧ True := by
  have ha0' := HasN.up0 ha0
  refine CtL.mk 20 Try.func23 rfl Try.ntmps23 (by kernel_rfl) rfl ?_
  show T 20 _ [(0, .slice (A0_0) ((p0).length) (c0_0))] _
  unfold lidarlaw07_large at hx
  refine T_seq ?_
  refine T_reg ?_
  refine T_val (Ev_assign rfl) rfl ?_
  refine T_nil ?_
  refine T_next ?_
  refine T_seq ?_
  refine T_seq ?_
  refine T_reg ?_
  refine T_val (Ev_move rfl) rfl ?_
  refine T_val (Ev_len rfl 72 Try.underlying43) rfl ?_
  refine T_val (Ev_gtr rfl rfl) rfl ?_
  refine T_nil ?_
  refine T_next ?_
  refine T_caseP (s := 6) rfl (fun h1 => ?_) (fun h1 => ?_)
  · have hx2 := ite_t h1 hx
    refine T_condT rfl ?_
    refine T_seq ?_
    refine T_reg ?_
    refine T_val (Ev_assign rfl) rfl ?_
    refine T_nil ?_
    refine T_next ?_
    refine T_retc ?_
    refine T_outR ?_
    obtain rfl := Option.some.inj hx2
    exact T_retP (rs := [.tmp 2]) Try.results23 (.tmp rfl (.nil)) (Ln := []) ⟨rfl, rfl, trivial⟩ (loNil) (by exact .refl)
  · have hx3 := ite_f h1 hx
    refine T_condF rfl ?_
    refine T_skip ?_
    refine T_next ?_
    obtain ⟨j5, hj5, hx3⟩ := jn_some hx3
    refine T_cutP (τ := Unit) (γ := Unit) (J := j5) (out := r) (fun s5 y5 => []) (fun s5 y5 => [] ++ [.old w]) (fun s5 y5 => True) ?_ ?_
    · intro s5 y5 hx50 hG51
      subst hj5
      refine T_seq ?_
      refine T_reg ?_
      refine T_val (Ev_assign rfl) rfl ?_
      refine T_nil ?_
      refine T_next ?_
      refine T_retc ?_
      obtain rfl := Option.some.inj hx50
      exact T_retP (rs := [.tmp 2]) Try.results23 (.tmp rfl (.nil)) (Ln := []) ⟨rfl, rfl, trivial⟩ (loNil) (by exact .refl)
    · skip
      refine T_seq ?_
      refine T_reg ?_
      refine T_val (Ev_assign rfl) rfl ?_
      refine T_nil ?_
      refine T_next ?_
      refine T_block ?_
      obtain ⟨t27, hl27, ho27⟩ := bnd_some hx3
      refine T_loopP (σ := Int) (γ := Unit) hl27 (fun s27 y27 => [(0, .slice (A0_0) ((p0).length) (c0_0)), (3, .int .i64 (s27))]) (fun s27 y27 => [] ++ [.old w]) (fun s27 y27 => True) () trivial (by exact .cons rfl (.cons rfl (.nil))) (by exact .refl) ?_
      intro s27 y27 hG27 x27 hx27 ht27
      unfold lidarlaw07_large_l4 at hx27
      refine T_seq ?_
      refine T_seq ?_
      refine T_reg ?_
      refine T_val (Ev_move rfl) rfl ?_
      refine T_val (Ev_move rfl) rfl ?_
      refine T_val (Ev_len rfl 72 Try.underlying43) rfl ?_
      refine T_val (Ev_lss rfl rfl) rfl ?_
      refine T_nil ?_
      refine T_next ?_
      refine T_caseP (s := 10) rfl (fun h28 => ?_) (fun h28 => ?_)
      · have hx29 := ite_t h28 hx27
        refine T_condT rfl ?_
        refine T_skip ?_
        refine T_next ?_
        refine T_seq ?_
        refine T_block ?_
        refine T_seq ?_
        refine T_reg ?_
        refine T_val (Ev_move rfl) rfl ?_
        refine T_val (Ev_move rfl) rfl ?_
        obtain ⟨x31, h32, hx33⟩ := bnd_some hx29
        obtain ⟨b34, o35, j36, ys44, hA37, hj38, hl39, hp40, hr45⟩ := HasN.at_idx ha0' h32
        obtain ⟨A41, c42, rfl, hs43⟩ := hr45
        have hp46 := Pt.low (E := []) hp40 hK
        refine T_val (Ev_index rfl rfl hA37 (j := j36) hj38 hl39 slc43) rfl ?_
        refine T_val (Ev_field rfl fld72_1 rfl) rfl ?_
        refine T_val (Ev_loadP1 (d := 1) rfl hp46 (SubE.cons2 (i := 0) rfl (SubE.nil)) rfl one22) rfl ?_
        refine T_val (Ev_len rfl 24 Try.underlying22) rfl ?_
        refine T_val (Ev_gtr rfl rfl) rfl ?_
        refine T_nil ?_
        refine T_next ?_
        refine T_caseP (s := 19) rfl (fun h47 => ?_) (fun h47 => ?_)
        · have hx48 := ite_t h47 hx33
          refine T_condT rfl ?_
          refine T_seq ?_
          refine T_reg ?_
          refine T_val (Ev_assign rfl) rfl ?_
          refine T_nil ?_
          refine T_next ?_
          refine T_retc ?_
          refine T_inR ?_
          refine T_outR ?_
          obtain rfl := exit_eq ht27 hx48
          refine T_outR ?_
          refine T_inR ?_
          refine T_outR ?_
          obtain rfl := Option.some.inj ho27
          exact T_retP (rs := [.tmp 2]) Try.results23 (.tmp rfl (.nil)) (Ln := []) ⟨rfl, rfl, trivial⟩ (loNil) (by exact .refl)
        · have hx49 := ite_f h47 hx33
          refine T_condF rfl ?_
          refine T_skip ?_
          refine T_inN ?_
          refine T_next ?_
          refine T_reg ?_
          refine T_val (Ev_move rfl) rfl ?_
          refine T_val (Ev_add_w64 rfl rfl) rfl ?_
          refine T_val (Ev_assign rfl) rfl ?_
          refine T_nil ?_
          exact T_roundP (w64 (s27 + 1)) () hx49 trivial (by exact .cons rfl (.cons rfl (.nil))) (by exact .refl)
      · have hx30 := ite_f h28 hx27
        refine T_condF rfl ?_
        refine T_exit ?_
        refine T_outX ?_
        obtain rfl := exit_eq ht27 hx30
        refine T_outX ?_
        refine T_here ?_
        exact T_metP () () ho27 trivial (by exact .nil) (by exact .refl)
set_option maxRecDepth 100000 in
theorem lidarlaw07_first_ok   {r : Bool} (hx : lidarlaw07_first = some r) (w : World) : CtL Try.prog 8 [] w fun v Ln => v = .bool (r) ∧ Ln = [] ∧ True := by
  refine CtL.mk 71 Try.func8 rfl Try.ntmps8 (by kernel_rfl) rfl ?_
  unfold lidarlaw07_first at hx
  refine T_seq ?_
  refine T_reg ?_
  refine T_val (Ev_assign rfl) rfl ?_
  refine T_nil ?_
  refine T_next ?_
  refine T_seq ?_
  refine T_reg ?_
  refine T_val (Ev_build rfl (bld24_0i641i64 _ _)) rfl ?_
  refine T_val (Ev_build rfl (bld24_0i641i64 _ _)) rfl ?_
  refine T_val (Ev_build rfl (bld24_0i641i64 _ _)) rfl ?_
  refine T_val (Ev_build rfl (bld24_0i641i64 _ _)) rfl ?_
  refine T_x (Wx_buildSlice rfl (bls22_4_0ai64i641ai64i642ai64i643ai64i64 _ _ _ _ _ _ _ _) rfl (fun g1 => ?_))
  refine T_val (Ev_assign rfl) rfl ?_
  refine T_nil ?_
  refine T_next ?_
  refine T_seq ?_
  refine T_reg ?_
  refine T_val (Ev_move rfl) rfl ?_
  refine T_val (Ev_build rfl (bld24_0i641i64 _ _)) rfl ?_
  have hs2 : Has [.m g1 24 [.int .i64 (0), .int .i64 (0), .int .i64 (4), .int .i64 (0), .int .i64 (4), .int .i64 (4), .int .i64 (0), .int .i64 (4)]] (some ⟨g1, 0, none⟩) 4 4 2 e_api_XY [(⟨0, 0⟩ : S_api_XY), (⟨4, 0⟩ : S_api_XY), (⟨4, 4⟩ : S_api_XY), (⟨0, 4⟩ : S_api_XY)] := Has.ofM (fun _ _ => rfl) rfl (by decide) rfl
  obtain ⟨r3, h4, hx5⟩ := bnd_some hx
  refine T_x (Wx_callL rfl (fun w1 hw1 => label_Within_ok ([(⟨0, 0⟩ : S_api_XY), (⟨4, 0⟩ : S_api_XY), (⟨4, 4⟩ : S_api_XY), (⟨0, 4⟩ : S_api_XY)]) (⟨4, 2⟩ : S_api_XY) (Has.len' hs2) h4 w1 (okAll (K := ([.m g1 24 [.int .i64 (0), .int .i64 (0), .int .i64 (4), .int .i64 (0), .int .i64 (4), .int .i64 (4), .int .i64 (0), .int .i64 (4)]] : List Ent)) (by exact (SubE.cons2 (i := 0) rfl (SubE.nil))) hw1)) rfl ?_)
  rintro _ _ hlo ⟨rfl, rfl, -⟩
  refine T_app0 ?_
  refine T_val (Ev_move rfl) rfl ?_
  refine T_val (Ev_extract rfl rfl) rfl ?_
  refine T_val (Ev_extract rfl rfl) rfl ?_
  refine T_val (Ev_assign rfl) rfl ?_
  refine T_val (Ev_assign rfl) rfl ?_
  refine T_nil ?_
  refine T_next ?_
  refine T_seq ?_
  refine T_reg ?_
  refine T_val (Ev_move rfl) rfl ?_
  refine T_val (Ev_build rfl (bld24_0i641i64 _ _)) rfl ?_
  have hs6 : Has [.m g1 24 [.int .i64 (0), .int .i64 (0), .int .i64 (4), .int .i64 (0), .int .i64 (4), .int .i64 (4), .int .i64 (0), .int .i64 (4)]] (some ⟨g1, 0, none⟩) 4 4 2 e_api_XY [(⟨0, 0⟩ : S_api_XY), (⟨4, 0⟩ : S_api_XY), (⟨4, 4⟩ : S_api_XY), (⟨0, 4⟩ : S_api_XY)] := Has.ofM (fun _ _ => rfl) rfl (by decide) rfl
  obtain ⟨r7, h8, hx9⟩ := bnd_some hx5
  refine T_x (Wx_callL rfl (fun w1 hw1 => label_Within_ok ([(⟨0, 0⟩ : S_api_XY), (⟨4, 0⟩ : S_api_XY), (⟨4, 4⟩ : S_api_XY), (⟨0, 4⟩ : S_api_XY)]) (⟨5, 2⟩ : S_api_XY) (Has.len' hs6) h8 w1 (okAll (K := ([.m g1 24 [.int .i64 (0), .int .i64 (0), .int .i64 (4), .int .i64 (0), .int .i64 (4), .int .i64 (4), .int .i64 (0), .int .i64 (4)]] : List Ent)) (by exact (SubE.cons2 (i := 0) rfl (SubE.nil))) hw1)) rfl ?_)
  rintro _ _ hlo ⟨rfl, rfl, -⟩
  refine T_app0 ?_
  refine T_val (Ev_move rfl) rfl ?_
  refine T_val (Ev_extract rfl rfl) rfl ?_
  refine T_val (Ev_extract rfl rfl) rfl ?_
  refine T_val (Ev_assign rfl) rfl ?_
  refine T_val (Ev_assign rfl) rfl ?_
  refine T_nil ?_
  refine T_next ?_
  refine T_seq ?_
  refine T_reg ?_
  refine T_val (Ev_build rfl (bld51_0i641i64 _ _)) rfl ?_
  refine T_val (Ev_build rfl (bld53_0i643ai64i645i646i64 _ _ _ _ _)) rfl ?_
  refine T_val (Ev_build rfl (bld51_0i641i64 _ _)) rfl ?_
  refine T_val (Ev_build rfl (bld53_0i641i642i643ai64i645i646i64 _ _ _ _ _ _ _)) rfl ?_
  refine T_val (Ev_build rfl (bld51_0i641i64 _ _)) rfl ?_
  refine T_val (Ev_build rfl (bld53_0i641i643ai64i645i646i64 _ _ _ _ _ _)) rfl ?_
  refine T_x (Wx_buildSlice rfl (bls31_3_0ai64i64i64i64i64i64i64i64i641ai64i64i64i64i64i64i64i64i642ai64i64i64i64i64i64i64i64i64 _ _ _ _ _ _ _ _ _ _ _ _ _ _ _ _ _ _ _ _ _ _ _ _ _ _ _) rfl (fun g10 => ?_))
  refine T_val (Ev_build rfl (bld33_0i643i649i64 _ _ _)) rfl ?_
  have hs11 : Has [.m g10 53 [.int .i64 (1), .int .i64 (0), .int .i64 (0), .int .i64 (3), .int .i64 (3), .int .i64 (0), .int .i64 (1), .int .i64 (1), .int .i64 (0), .int .i64 (2), .int .i64 (5), .int .i64 (5), .int .i64 (1), .int .i64 (1), .int .i64 (0), .int .i64 (1), .int .i64 (1), .int .i64 (0), .int .i64 (3), .int .i64 (12), .int .i64 (0), .int .i64 (2), .int .i64 (2), .int .i64 (0), .int .i64 (1), .int .i64 (1), .int .i64 (0)]] (some ⟨g10, 0, none⟩) 3 3 9 e_api_Point [(⟨1, 0, 0, (⟨3, 3⟩ : S_api_Span), 0, 1, 1, 0⟩ : S_api_Point), (⟨2, 5, 5, (⟨1, 1⟩ : S_api_Span), 0, 1, 1, 0⟩ : S_api_Point), (⟨3, 12, 0, (⟨2, 2⟩ : S_api_Span), 0, 1, 1, 0⟩ : S_api_Point)] := Has.ofM (fun _ _ => rfl) rfl (by decide) rfl
  obtain ⟨r12, h13, hx14⟩ := bnd_some hx9
  refine T_x (Wx_callL rfl (fun w1 hw1 => label_Seeds_ok ([(⟨1, 0, 0, (⟨3, 3⟩ : S_api_Span), 0, 1, 1, 0⟩ : S_api_Point), (⟨2, 5, 5, (⟨1, 1⟩ : S_api_Span), 0, 1, 1, 0⟩ : S_api_Point), (⟨3, 12, 0, (⟨2, 2⟩ : S_api_Span), 0, 1, 1, 0⟩ : S_api_Point)]) (⟨10, 0, 0, 1, 0, 0, 0, 0, 0, 1⟩ : S_api_Terrain) (Has.len' hs11) h13 w1 (okAll (K := ([.m g10 53 [.int .i64 (1), .int .i64 (0), .int .i64 (0), .int .i64 (3), .int .i64 (3), .int .i64 (0), .int .i64 (1), .int .i64 (1), .int .i64 (0), .int .i64 (2), .int .i64 (5), .int .i64 (5), .int .i64 (1), .int .i64 (1), .int .i64 (0), .int .i64 (1), .int .i64 (1), .int .i64 (0), .int .i64 (3), .int .i64 (12), .int .i64 (0), .int .i64 (2), .int .i64 (2), .int .i64 (0), .int .i64 (1), .int .i64 (1), .int .i64 (0)]] : List Ent)) (by exact (SubE.cons2 (i := 0) rfl (SubE.nil))) hw1)) rfl ?_)
  rintro _ _ hlo ⟨A15, c16, rfl, rfl, -⟩
  refine T_app1 ?_
  refine T_val (Ev_move rfl) rfl ?_
  refine T_val (Ev_extract rfl rfl) rfl ?_
  refine T_val (Ev_extract rfl rfl) rfl ?_
  refine T_val (Ev_assign rfl) rfl ?_
  refine T_val (Ev_assign rfl) rfl ?_
  refine T_nil ?_
  refine T_next ?_
  obtain ⟨j6, hj6, hx14⟩ := jn_some hx14
  refine T_cutP (τ := Bool) (γ := Unit) (J := j6) (out := r) (fun s6 y6 => [(0, .bool (s6))]) (fun s6 y6 => [] ++ [.old w]) (fun s6 y6 => True) ?_ ?_
  · intro s6 y6 hx60 hG61
    subst hj6
    refine T_retc ?_
    obtain rfl := Option.some.inj hx60
    exact T_retP (rs := [.tmp 0]) Try.results8 (.tmp rfl (.nil)) (Ln := []) ⟨rfl, rfl, trivial⟩ (loNil) (by exact .refl)
  · skip
    refine T_reg ?_
    refine T_val (Ev_move rfl) rfl ?_
    refine T_val (Ev_eql rfl rfl) rfl ?_
    refine T_val (Ev_move rfl) rfl ?_
    refine T_caseP (s := 39) rfl (fun h17 => ?_) (fun h17 => ?_)
    · have hx18 := ite_t h17 hx14
      refine T_valG rfl rfl rfl (Ev_move rfl) rfl ?_
      refine T_valG rfl rfl rfl (Ev_eql rfl rfl) rfl ?_
      refine T_val (Ev_pickT rfl rfl) rfl ?_
      refine T_val (Ev_move rfl) rfl ?_
      refine T_caseP (s := 43) rfl (fun h19 => ?_) (fun h19 => ?_)
      · have hx20 := ite_t h19 hx18
        refine T_valG rfl rfl rfl (Ev_move rfl) rfl ?_
        refine T_val (Ev_pickT rfl rfl) rfl ?_
        refine T_val (Ev_move rfl) rfl ?_
        refine T_caseB (s := 46) rfl (fun h21 => ?_) (fun h21 => ?_)
        · have hx22 := ite_t h21 hx20
          refine T_valG rfl rfl rfl (Ev_move rfl) rfl ?_
          refine T_valG rfl rfl rfl (Ev_not rfl) rfl ?_
          refine T_val (Ev_pickT rfl rfl) rfl ?_
          refine T_val (Ev_move rfl) rfl ?_
          refine T_caseNB (s := 50) rfl (fun h23 => ?_) (fun h23 => ?_)
          · have hx24 := ite_bf h23 hx22
            refine T_valG rfl rfl rfl (Ev_move rfl) rfl ?_
            refine T_valG rfl rfl rfl (Ev_eql rfl rfl) rfl ?_
            refine T_val (Ev_pickT rfl rfl) rfl ?_
            refine T_val (Ev_move rfl) rfl ?_
            refine T_caseP (s := 54) rfl (fun h25 => ?_) (fun h25 => ?_)
            · have hx26 := ite_t h25 hx24
              refine T_valG rfl rfl rfl (Ev_move rfl) rfl ?_
              refine T_valG rfl rfl rfl (Ev_len rfl 3 Try.underlying35) rfl ?_
              refine T_valG rfl rfl rfl (Ev_eql rfl rfl) rfl ?_
              refine T_val (Ev_pickT rfl rfl) rfl ?_
              refine T_val (Ev_move rfl) rfl ?_
              refine T_caseP (s := 59) rfl (fun h27 => ?_) (fun h27 => ?_)
              · have hx28 := ite_t h27 hx26
                refine T_valG rfl rfl rfl (Ev_move rfl) rfl ?_
                obtain ⟨x29, h30, hx31⟩ := bnd_some hx28
                refine T_idxR (k := 0) rfl (by decide) (fun _ => rfl) h30 (fun b32 j34 hA35 hj36 hl37 hm39 hp38 => ?_)
                refine T_valG rfl rfl rfl (Ev_index rfl rfl hA35 (j := j34) hj36 hl37 slc35) rfl ?_
                refine T_valG rfl rfl rfl (Ev_loadP0 rfl hp38 (SubE.cons2 (i := 0) rfl (SubE.nil)) rfl one3) rfl ?_
                refine T_valG rfl rfl rfl (Ev_eql rfl rfl) rfl ?_
                refine T_val (Ev_pickT rfl rfl) rfl ?_
                refine T_val (Ev_move rfl) rfl ?_
                refine T_caseP (s := 65) rfl (fun h40 => ?_) (fun h40 => ?_)
                · have hx41 := ite_t h40 hx31
                  refine T_valG rfl rfl rfl (Ev_move rfl) rfl ?_
                  obtain ⟨x42, h43, hx44⟩ := bnd_some hx41
                  refine T_idxR (k := 0) rfl (by decide) (fun _ => rfl) h43 (fun b45 j47 hA48 hj49 hl50 hm52 hp51 => ?_)
                  refine T_valG rfl rfl rfl (Ev_index rfl rfl hA48 (j := j47) hj49 hl50 slc35) rfl ?_
                  refine T_valG rfl rfl rfl (Ev_loadP0 rfl hp51 (SubE.cons2 (i := 0) rfl (SubE.nil)) rfl one3) rfl ?_
                  refine T_valG rfl rfl rfl (Ev_eql rfl rfl) rfl ?_
                  refine T_val (Ev_pickT rfl rfl) rfl ?_
                  refine T_val (Ev_assign rfl) rfl ?_
                  refine T_nil ?_
                  exact T_metP (decide (x42 = 3)) () hx44 trivial (by exact .cons rfl (.nil)) (by exact .drop 0 rfl (.drop 0 rfl (.drop 0 rfl (.refl))))
                · have hx53 := ite_f h40 hx31
                  refine T_skipG rfl rfl rfl rfl rfl ?_
                  refine T_skipG rfl rfl rfl rfl rfl ?_
                  refine T_skipG rfl rfl rfl rfl rfl ?_
                  refine T_skipG rfl rfl rfl rfl rfl ?_
                  refine T_val (Ev_pickF rfl rfl) rfl ?_
                  refine T_val (Ev_assign rfl) rfl ?_
                  refine T_nil ?_
                  exact T_metP false () hx53 trivial (by exact .cons rfl (.nil)) (by exact .drop 0 rfl (.drop 0 rfl (.drop 0 rfl (.refl))))
              · have hx54 := ite_f h27 hx26
                refine T_skipG rfl rfl rfl rfl rfl ?_
                refine T_skipG rfl rfl rfl rfl rfl ?_
                refine T_skipG rfl rfl rfl rfl rfl ?_
                refine T_skipG rfl rfl rfl rfl rfl ?_
                refine T_val (Ev_pickF rfl rfl) rfl ?_
                refine T_val (Ev_move rfl) rfl ?_
                refine T_skipG rfl rfl rfl rfl rfl ?_
                refine T_skipG rfl rfl rfl rfl rfl ?_
                refine T_skipG rfl rfl rfl rfl rfl ?_
                refine T_skipG rfl rfl rfl rfl rfl ?_
                refine T_val (Ev_pickF rfl rfl) rfl ?_
                refine T_val (Ev_assign rfl) rfl ?_
                refine T_nil ?_
                exact T_metP false () hx54 trivial (by exact .cons rfl (.nil)) (by exact .drop 0 rfl (.drop 0 rfl (.drop 0 rfl (.refl))))
            · have hx55 := ite_f h25 hx24
              refine T_skipG rfl rfl rfl rfl rfl ?_
              refine T_skipG rfl rfl rfl rfl rfl ?_
              refine T_skipG rfl rfl rfl rfl rfl ?_
              refine T_val (Ev_pickF rfl rfl) rfl ?_
              refine T_val (Ev_move rfl) rfl ?_
              refine T_skipG rfl rfl rfl rfl rfl ?_
              refine T_skipG rfl rfl rfl rfl rfl ?_
              refine T_skipG rfl rfl rfl rfl rfl ?_
              refine T_skipG rfl rfl rfl rfl rfl ?_
              refine T_val (Ev_pickF rfl rfl) rfl ?_
              refine T_val (Ev_move rfl) rfl ?_
              refine T_skipG rfl rfl rfl rfl rfl ?_
              refine T_skipG rfl rfl rfl rfl rfl ?_
              refine T_skipG rfl rfl rfl rfl rfl ?_
              refine T_skipG rfl rfl rfl rfl rfl ?_
              refine T_val (Ev_pickF rfl rfl) rfl ?_
              refine T_val (Ev_assign rfl) rfl ?_
              refine T_nil ?_
              exact T_metP false () hx55 trivial (by exact .cons rfl (.nil)) (by exact .drop 0 rfl (.drop 0 rfl (.drop 0 rfl (.refl))))
          · have hx56 := ite_t h23 hx22
            refine T_skipG rfl rfl rfl rfl rfl ?_
            refine T_skipG rfl rfl rfl rfl rfl ?_
            refine T_val (Ev_pickF rfl rfl) rfl ?_
            refine T_val (Ev_move rfl) rfl ?_
            refine T_skipG rfl rfl rfl rfl rfl ?_
            refine T_skipG rfl rfl rfl rfl rfl ?_
            refine T_skipG rfl rfl rfl rfl rfl ?_
            refine T_val (Ev_pickF rfl rfl) rfl ?_
            refine T_val (Ev_move rfl) rfl ?_
            refine T_skipG rfl rfl rfl rfl rfl ?_
            refine T_skipG rfl rfl rfl rfl rfl ?_
            refine T_skipG rfl rfl rfl rfl rfl ?_
            refine T_skipG rfl rfl rfl rfl rfl ?_
            refine T_val (Ev_pickF rfl rfl) rfl ?_
            refine T_val (Ev_move rfl) rfl ?_
            refine T_skipG rfl rfl rfl rfl rfl ?_
            refine T_skipG rfl rfl rfl rfl rfl ?_
            refine T_skipG rfl rfl rfl rfl rfl ?_
            refine T_skipG rfl rfl rfl rfl rfl ?_
            refine T_val (Ev_pickF rfl rfl) rfl ?_
            refine T_val (Ev_assign rfl) rfl ?_
            refine T_nil ?_
            exact T_metP false () hx56 trivial (by exact .cons rfl (.nil)) (by exact .drop 0 rfl (.drop 0 rfl (.drop 0 rfl (.refl))))
        · have hx57 := ite_bf h21 hx20
          refine T_skipG rfl rfl rfl rfl rfl ?_
          refine T_skipG rfl rfl rfl rfl rfl ?_
          refine T_val (Ev_pickF rfl rfl) rfl ?_
          refine T_val (Ev_move rfl) rfl ?_
          refine T_skipG rfl rfl rfl rfl rfl ?_
          refine T_skipG rfl rfl rfl rfl rfl ?_
          refine T_val (Ev_pickF rfl rfl) rfl ?_
          refine T_val (Ev_move rfl) rfl ?_
          refine T_skipG rfl rfl rfl rfl rfl ?_
          refine T_skipG rfl rfl rfl rfl rfl ?_
          refine T_skipG rfl rfl rfl rfl rfl ?_
          refine T_val (Ev_pickF rfl rfl) rfl ?_
          refine T_val (Ev_move rfl) rfl ?_
          refine T_skipG rfl rfl rfl rfl rfl ?_
          refine T_skipG rfl rfl rfl rfl rfl ?_
          refine T_skipG rfl rfl rfl rfl rfl ?_
          refine T_skipG rfl rfl rfl rfl rfl ?_
          refine T_val (Ev_pickF rfl rfl) rfl ?_
          refine T_val (Ev_move rfl) rfl ?_
          refine T_skipG rfl rfl rfl rfl rfl ?_
          refine T_skipG rfl rfl rfl rfl rfl ?_
          refine T_skipG rfl rfl rfl rfl rfl ?_
          refine T_skipG rfl rfl rfl rfl rfl ?_
          refine T_val (Ev_pickF rfl rfl) rfl ?_
          refine T_val (Ev_assign rfl) rfl ?_
          refine T_nil ?_
          exact T_metP false () hx57 trivial (by exact .cons rfl (.nil)) (by exact .drop 0 rfl (.drop 0 rfl (.drop 0 rfl (.refl))))
      · have hx58 := ite_f h19 hx18
        refine T_skipG rfl rfl rfl rfl rfl ?_
        refine T_val (Ev_pickF rfl rfl) rfl ?_
        refine T_val (Ev_move rfl) rfl ?_
        refine T_skipG rfl rfl rfl rfl rfl ?_
        refine T_skipG rfl rfl rfl rfl rfl ?_
        refine T_val (Ev_pickF rfl rfl) rfl ?_
        refine T_val (Ev_move rfl) rfl ?_
        refine T_skipG rfl rfl rfl rfl rfl ?_
        refine T_skipG rfl rfl rfl rfl rfl ?_
        refine T_val (Ev_pickF rfl rfl) rfl ?_
        refine T_val (Ev_move rfl) rfl ?_
        refine T_skipG rfl rfl rfl rfl rfl ?_
        refine T_skipG rfl rfl rfl rfl rfl ?_
        refine T_skipG rfl rfl rfl rfl rfl ?_
        refine T_val (Ev_pickF rfl rfl) rfl ?_
        refine T_val (Ev_move rfl) rfl ?_
        refine T_skipG rfl rfl rfl rfl rfl ?_
        refine T_skipG rfl rfl rfl rfl rfl ?_
        refine T_skipG rfl rfl rfl rfl rfl ?_
        refine T_skipG rfl rfl rfl rfl rfl ?_
        refine T_val (Ev_pickF rfl rfl) rfl ?_
        refine T_val (Ev_move rfl) rfl ?_
        refine T_skipG rfl rfl rfl rfl rfl ?_
        refine T_skipG rfl rfl rfl rfl rfl ?_
        refine T_skipG rfl rfl rfl rfl rfl ?_
        refine T_skipG rfl rfl rfl rfl rfl ?_
        refine T_val (Ev_pickF rfl rfl) rfl ?_
        refine T_val (Ev_assign rfl) rfl ?_
        refine T_nil ?_
        exact T_metP false () hx58 trivial (by exact .cons rfl (.nil)) (by exact .drop 0 rfl (.drop 0 rfl (.drop 0 rfl (.refl))))
    · have hx59 := ite_f h17 hx14
      refine T_skipG rfl rfl rfl rfl rfl ?_
      refine T_skipG rfl rfl rfl rfl rfl ?_
      refine T_val (Ev_pickF rfl rfl) rfl ?_
      refine T_val (Ev_move rfl) rfl ?_
      refine T_skipG rfl rfl rfl rfl rfl ?_
      refine T_val (Ev_pickF rfl rfl) rfl ?_
      refine T_val (Ev_move rfl) rfl ?_
      refine T_skipG rfl rfl rfl rfl rfl ?_
      refine T_skipG rfl rfl rfl rfl rfl ?_
      refine T_val (Ev_pickF rfl rfl) rfl ?_
      refine T_val (Ev_move rfl) rfl ?_
      refine T_skipG rfl rfl rfl rfl rfl ?_
      refine T_skipG rfl rfl rfl rfl rfl ?_
      refine T_val (Ev_pickF rfl rfl) rfl ?_
      refine T_val (Ev_move rfl) rfl ?_
      refine T_skipG rfl rfl rfl rfl rfl ?_
      refine T_skipG rfl rfl rfl rfl rfl ?_
      refine T_skipG rfl rfl rfl rfl rfl ?_
      refine T_val (Ev_pickF rfl rfl) rfl ?_
      refine T_val (Ev_move rfl) rfl ?_
      refine T_skipG rfl rfl rfl rfl rfl ?_
      refine T_skipG rfl rfl rfl rfl rfl ?_
      refine T_skipG rfl rfl rfl rfl rfl ?_
      refine T_skipG rfl rfl rfl rfl rfl ?_
      refine T_val (Ev_pickF rfl rfl) rfl ?_
      refine T_val (Ev_move rfl) rfl ?_
      refine T_skipG rfl rfl rfl rfl rfl ?_
      refine T_skipG rfl rfl rfl rfl rfl ?_
      refine T_skipG rfl rfl rfl rfl rfl ?_
      refine T_skipG rfl rfl rfl rfl rfl ?_
      refine T_val (Ev_pickF rfl rfl) rfl ?_
      refine T_val (Ev_assign rfl) rfl ?_
      refine T_nil ?_
      exact T_metP false () hx59 trivial (by exact .cons rfl (.nil)) (by exact .drop 0 rfl (.drop 0 rfl (.drop 0 rfl (.refl))))
end Go.Proofs.Ytdkjcoonmgjpfaa
