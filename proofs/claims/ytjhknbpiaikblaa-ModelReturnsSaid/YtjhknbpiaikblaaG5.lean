/- Walks of the program, with their plain functions: the decoding of a grid. -/
import Derived.Test.YtjhknbpiaikblaaG4
namespace Go.Proofs.Ytjhknbpiaikblaa
open Go Go.RowKit
theorem fld131_1 : FieldOf Try.prog 131 1 1 := .mk Try.underlying131 rfl rfl (show Try.prog.info? 4 = some Try.t4 from by kernel_rfl) (show Try.t4.size = 1 from by kernel_rfl) rfl
theorem fld131_0 : FieldOf Try.prog 131 0 0 := .mk Try.underlying131 rfl rfl (show Try.prog.info? 73 = some Try.t73 from by kernel_rfl) (show Try.t73.size = 1 from by kernel_rfl) rfl
theorem bld131_0s (x0 : Option Addr) (x1 : Nat) (x2 : Nat) : BuildOf Try.prog 131 [(0, .slice x0 x1 x2)] [.slice x0 x1 x2, .bool (false)] := fun w => by kernel_rfl
theorem one9 : OneOf Try.prog 9 := .mk Try.underlying9 rfl (show Try.prog.info? 9 = some Try.t9 from by kernel_rfl) (by kernel_rfl)
theorem fld135_1 : FieldOf Try.prog 135 1 1 := .mk Try.underlying135 rfl rfl (show Try.prog.info? 4 = some Try.t4 from by kernel_rfl) (show Try.t4.size = 1 from by kernel_rfl) rfl
theorem fld135_0 : FieldOf Try.prog 135 0 0 := .mk Try.underlying135 rfl rfl (show Try.prog.info? 73 = some Try.t73 from by kernel_rfl) (show Try.t73.size = 1 from by kernel_rfl) rfl
theorem bld135_0s (x0 : Option Addr) (x1 : Nat) (x2 : Nat) : BuildOf Try.prog 135 [(0, .slice x0 x1 x2)] [.slice x0 x1 x2, .bool (false)] := fun w => by kernel_rfl
noncomputable def link_ReadNumber_l3 (p0 : List Int) : (Int × Int) → Option (Sum (Int × Int) (Sum Unit (Int × Int × Int))) := fun s57 =>
 if s57.2 < 9 then (if s57.2 = ((((p0).length : Nat) : Int)) then (some (.inr (.inr (0, 0, 21))))
 else (bnd (idx p0 s57.2) fun x64 =>
 gd (0 ≤ (wu64 (w64 (7 * s57.2)))) <|
 bnd (idx p0 s57.2) fun x77 =>
 if 128 ≤ x77 then (some (.inl (bit_or .u64 s57.1 (shl_ .u64 (wu64 (Int.tmod x64 128)) (wu64 (w64 (7 * s57.2)))), w64 (s57.2 + 1))))
 else (jn (fun (s30 : Bool) =>
 if s30 = true then (some (.inr (.inr (0, 0, 4))))
 else (some (.inr (.inr (w64 (bit_or .u64 s57.1 (shl_ .u64 (wu64 (Int.tmod x64 128)) (wu64 (w64 (7 * s57.2))))), w64 (s57.2 + 1), 0)))))
 (fun j30 => bnd (idx p0 s57.2) fun x91 =>
 if x91 = 0 then (if 0 < s57.2 then (j30 true)
 else (j30 (decide (4611686018427387903 < (bit_or .u64 s57.1 (shl_ .u64 (wu64 (Int.tmod x64 128)) (wu64 (w64 (7 * s57.2)))))))))
 else (j30 (decide (4611686018427387903 < (bit_or .u64 s57.1 (shl_ .u64 (wu64 (Int.tmod x64 128)) (wu64 (w64 (7 * s57.2))))))))))))
 else (some (.inr (.inl ())))
noncomputable def link_ReadNumber (p0 : List Int) : Option (Int × Int × Int) :=
 jn (fun (s3 : Unit) =>
 some (0, 0, 4))
 (fun j3 => bnd (lfix (link_ReadNumber_l3 p0) (0, 0)) fun t57 =>
 (match t57 with
 | (.inl z57) => j3 z57
 | (.inr (z57)) => some z57
 ))
noncomputable def link_ReadSigned (p0 : List Int) : Option (Int × Int × Int) :=
 bnd (link_ReadNumber p0) fun r1 =>
 if r1.2.2 = 0 then (if (Int.tmod r1.1 2) = 1 then (some (w64 ((w64 (-(w64 (Int.tdiv r1.1 2)))) - 1), r1.2.1, 0))
 else (some (w64 (Int.tdiv r1.1 2), r1.2.1, 0)))
 else (some (0, 0, r1.2.2))
structure S_model_reader where
  b : List Int
  bad : Bool
noncomputable def model_reader_step (p0 : S_model_reader) (p1 : Int) (p2 : Int) (p3 : Int) : Option (S_model_reader × Int) :=
 jn (fun (s3 : Bool) =>
 if s3 = true then (some ((⟨p0.b, true⟩ : S_model_reader), 0))
 else (gd (0 ≤ p2 ∧ p2 ≤ (((p0.b).length : Nat) : Int)) <|
 some ((⟨subl p0.b p2 (((p0.b).length : Nat) : Int), p0.bad⟩ : S_model_reader), p1)))
 (fun j3 => if p3 = 0 then (j3 p0.bad)
 else (j3 true))
noncomputable def model_reader_signed (p0 : S_model_reader) : Option (S_model_reader × Int) :=
 bnd (link_ReadSigned p0.b) fun r1 =>
 bnd (model_reader_step p0 r1.1 r1.2.1 r1.2.2) fun r4 =>
 some (r4.1, r4.2)
noncomputable def model_reader_number (p0 : S_model_reader) : Option (S_model_reader × Int) :=
 bnd (link_ReadNumber p0.b) fun r1 =>
 bnd (model_reader_step p0 r1.1 r1.2.1 r1.2.2) fun r4 =>
 some (r4.1, r4.2)
noncomputable def model_reader_cells_l15 (r128 : S_model_reader × Int) (s36 : Bool) (s87 : (List Int) × Bool × (List S_api_Cell) × Int) : ((List S_api_Cell) × Int) → Option (Sum ((List S_api_Cell) × Int) ((List Int) × Bool × (List S_api_Cell) × Int)) := fun s159 =>
 jn (fun (s43 : Bool) =>
 if s43 = true then (gd (((s159.1).length + 1) * 24 ≤ 140737488355328) <|
 some (.inl (s159.1 ++ [(⟨true, (⟨0, 0⟩ : S_api_Span)⟩ : S_api_Cell)], w64 (s159.2 + 1))))
 else (some (.inr (r128.1.b, s36, s159.1, s87.2.2.2))))
 (fun j43 => if s159.2 < r128.2 then (j43 (!(s36)))
 else (j43 false))
noncomputable def model_reader_cells_l3 (p1 : Int) : ((List Int) × Bool × (List S_api_Cell) × Int) → Option (Sum ((List Int) × Bool × (List S_api_Cell) × Int) ((List Int) × Bool × (List S_api_Cell))) := fun s87 =>
 jn (fun (s26 : Bool) =>
 if s26 = true then (bnd (model_reader_number (⟨s87.1, s87.2.1⟩ : S_model_reader)) fun r98 =>
 if 0 < r98.2 then (bnd (model_reader_signed r98.1) fun r107 =>
 jn (fun (s31 : Bool) =>
 gd (((s87.2.2.1).length + 1) * 24 ≤ 140737488355328) <|
 some (.inl (r107.1.b, s31, s87.2.2.1 ++ [(⟨false, (⟨w64 (s87.2.2.2 + r107.2), w64 ((w64 ((w64 (s87.2.2.2 + r107.2)) + r98.2)) - 1)⟩ : S_api_Span)⟩ : S_api_Cell)], w64 (s87.2.2.2 + r107.2))))
 (fun j31 => bnd (model_validCoord (w64 (s87.2.2.2 + r107.2))) fun r114 =>
 if r114 = true then (j31 r107.1.bad)
 else (j31 true)))
 else (bnd (model_reader_number r98.1) fun r128 =>
 jn (fun (s36 : Bool) =>
 bnd (lfix (model_reader_cells_l15 r128 s36 s87) (s87.2.2.1, 0)) fun t159 =>
 some (.inl t159))
 (fun j36 => jn (fun (s37 : Bool) =>
 if s37 = true then (j36 true)
 else (j36 r128.1.bad))
 (fun j37 => if r128.2 < 1 then (j37 true)
 else (j37 (decide ((w64 (p1 - ((((s87.2.2.1).length : Nat) : Int)))) < r128.2)))))))
 else (some (.inr (s87.1, s87.2.1, s87.2.2.1))))
 (fun j26 => if ((((s87.2.2.1).length : Nat) : Int)) < p1 then (j26 (!(s87.2.1)))
 else (j26 false))
noncomputable def model_reader_cells (p0 : S_model_reader) (p1 : Int) : Option (S_model_reader × (List S_api_Cell)) :=
 jn (fun (s4 : (List Int) × Bool × (List S_api_Cell)) =>
 some ((⟨s4.1, s4.2.1⟩ : S_model_reader), s4.2.2))
 (fun j4 => bnd (lfix (model_reader_cells_l3 p1) (p0.b, p0.bad, ([] : List S_api_Cell), 0)) fun t87 =>
 j4 t87)
noncomputable def model_Decode (p0 : List Int) : Option (S_api_Grid × Int) :=
 if ((((p0).length : Nat) : Int)) < 4 then (some ((⟨(⟨0, 0, 0, 0, 0⟩ : S_api_Raster), ([] : List S_api_Cell)⟩ : S_api_Grid), 4))
 else (gd (0 ≤ (w64 (((((p0).length : Nat) : Int)) - 4)) ∧ (w64 (((((p0).length : Nat) : Int)) - 4)) ≤ (((p0).length : Nat) : Int)) <|
 bnd (model_reader_signed (⟨subl p0 0 (w64 (((((p0).length : Nat) : Int)) - 4)), false⟩ : S_model_reader)) fun r10 =>
 bnd (model_reader_signed r10.1) fun r17 =>
 bnd (model_reader_number r17.1) fun r23 =>
 bnd (model_reader_number r23.1) fun r29 =>
 bnd (model_reader_number r29.1) fun r35 =>
 jn (fun (s13 : Bool) =>
 if s13 = true then (some ((⟨(⟨0, 0, 0, 0, 0⟩ : S_api_Raster), ([] : List S_api_Cell)⟩ : S_api_Grid), 4))
 else (bnd (model_reader_cells r35.1 (w64 (r29.2 * r35.2))) fun r52 =>
 jn (fun (s17 : Bool) =>
 if s17 = true then (some ((⟨(⟨0, 0, 0, 0, 0⟩ : S_api_Raster), ([] : List S_api_Cell)⟩ : S_api_Grid), 4))
 else (some ((⟨(⟨r10.2, r17.2, r23.2, r29.2, r35.2⟩ : S_api_Raster), r52.2⟩ : S_api_Grid), 0)))
 (fun j17 => if r52.1.bad = true then (j17 true)
 else (bnd (model_Valid (⟨(⟨r10.2, r17.2, r23.2, r29.2, r35.2⟩ : S_api_Raster), r52.2⟩ : S_api_Grid)) fun r65 =>
 if r65 = true then (bnd (model_encode (⟨(⟨r10.2, r17.2, r23.2, r29.2, r35.2⟩ : S_api_Raster), r52.2⟩ : S_api_Grid)) fun r74 =>
 j17 (!(((strOfNums r74)).toList == ((strOfNums p0)).toList)))
 else (j17 true)))))
 (fun j13 => if r35.1.bad = true then (j13 true)
 else (bnd (model_ValidRaster (⟨r10.2, r17.2, r23.2, r29.2, r35.2⟩ : S_api_Raster)) fun r44 =>
 j13 (!(r44)))))
noncomputable def lidarref02_ReadNumber_l2 (p0 : List Int) : Int → Option (Sum Int Int) := fun s24 =>
 jn (fun (s7 : Bool) =>
 if s7 = true then (some (.inl (w64 (s24 + 1))))
 else (some (.inr s24)))
 (fun j7 => if s24 < ((((p0).length : Nat) : Int)) then (if s24 < 9 then (bnd (idx p0 s24) fun x29 =>
 j7 (decide (128 ≤ x29)))
 else (j7 false))
 else (j7 false))
noncomputable def lidarref02_ReadNumber_l12 (p0 : List Int) : (Int × Int) → Option (Sum (Int × Int) Int) := fun s89 =>
 if 0 ≤ s89.2 then (bnd (idx p0 s89.2) fun x93 =>
 some (.inl (wu64 ((wu64 (s89.1 * 128)) + (wu64 (Int.tmod x93 128))), w64 (s89.2 - 1))))
 else (some (.inr s89.1))
noncomputable def lidarref02_ReadNumber (p0 : List Int) : Option (Int × Int × Int) :=
 jn (fun (s3 : Int) =>
 if s3 = 9 then (some (0, 0, 4))
 else (if s3 = ((((p0).length : Nat) : Int)) then (some (0, 0, 21))
 else (jn (fun (s15 : Bool) =>
 if s15 = true then (some (0, 0, 4))
 else (jn (fun (s18 : Int) =>
 if 4611686018427387903 < s18 then (some (0, 0, 4))
 else (some (w64 (s18), w64 (s3 + 1), 0)))
 (fun j18 => bnd (lfix (lidarref02_ReadNumber_l12 p0) (0, s3)) fun t89 =>
 j18 t89)))
 (fun j15 => if 0 < s3 then (bnd (idx p0 s3) fun x57 =>
 j15 (decide (x57 = 0)))
 else (j15 false)))))
 (fun j3 => bnd (lfix (lidarref02_ReadNumber_l2 p0) 0) fun t24 =>
 j3 t24)
noncomputable def lidarref02_ReadSigned (p0 : List Int) : Option (Int × Int × Int) :=
 bnd (lidarref02_ReadNumber p0) fun r1 =>
 if r1.2.2 = 0 then (if (Int.tmod r1.1 2) = 0 then (some (w64 (Int.tdiv r1.1 2), r1.2.1, 0))
 else (some (w64 (-(w64 (Int.tdiv (w64 (r1.1 + 1)) 2))), r1.2.1, 0)))
 else (some (0, 0, r1.2.2))
structure S_lidarref09_reader where
  rest : List Int
  bad : Bool
noncomputable def lidarref09_reader_number (p0 : S_lidarref09_reader) (p1 : Bool) : Option (S_lidarref09_reader × Int) :=
 if p0.bad = true then (some (p0, 0))
 else (jn (fun (s7 : Int × Int × Int) =>
 if s7.2.2 = 0 then (gd (0 ≤ s7.2.1 ∧ s7.2.1 ≤ (((p0.rest).length : Nat) : Int)) <|
 some ((⟨subl p0.rest s7.2.1 (((p0.rest).length : Nat) : Int), p0.bad⟩ : S_lidarref09_reader), s7.1))
 else (some ((⟨p0.rest, true⟩ : S_lidarref09_reader), 0)))
 (fun j7 => if p1 = true then (bnd (lidarref02_ReadSigned p0.rest) fun r6 =>
 j7 (r6.1, r6.2.1, r6.2.2))
 else (bnd (lidarref02_ReadNumber p0.rest) fun r10 =>
 j7 (r10.1, r10.2.1, r10.2.2))))
noncomputable def lidarref09_Decode_l20 (r154 : S_lidarref09_reader × Int) : ((List S_api_Cell) × Int) → Option (Sum ((List S_api_Cell) × Int) (List S_api_Cell)) := fun s172 =>
 if s172.2 < r154.2 then (gd (((s172.1).length + 1) * 24 ≤ 140737488355328) <|
 some (.inl (s172.1 ++ [(⟨true, (⟨0, 0⟩ : S_api_Span)⟩ : S_api_Cell)], w64 (s172.2 + 1))))
 else (some (.inr s172.1))
noncomputable def lidarref09_Decode_l13 (r36 : S_lidarref09_reader × Int) (r42 : S_lidarref09_reader × Int) : ((List Int) × Bool × (List S_api_Cell) × Int) → Option (Sum ((List Int) × Bool × (List S_api_Cell) × Int) (Sum ((List Int) × Bool × (List S_api_Cell)) (S_api_Grid × Int))) := fun s135 =>
 jn (fun (s41 : Bool) =>
 if s41 = true then (bnd (lidarref09_reader_number (⟨s135.1, s135.2.1⟩ : S_lidarref09_reader) false) fun r146 =>
 if r146.2 = 0 then (bnd (lidarref09_reader_number r146.1 false) fun r154 =>
 if (w64 ((w64 (r36.2 * r42.2)) - ((((s135.2.2.1).length : Nat) : Int)))) < r154.2 then (some (.inr (.inr ((⟨(⟨0, 0, 0, 0, 0⟩ : S_api_Raster), ([] : List S_api_Cell)⟩ : S_api_Grid), 4))))
 else (jn (fun (s49 : List S_api_Cell) =>
 jn (fun (s57 : Bool) =>
 some (.inl (r154.1.rest, s57, s49, s135.2.2.2)))
 (fun j57 => if r154.1.bad = true then (j57 true)
 else (j57 (decide (r154.2 = 0)))))
 (fun j49 => bnd (lfix (lidarref09_Decode_l20 r154) (s135.2.2.1, 0)) fun t172 =>
 j49 t172)))
 else (bnd (lidarref09_reader_number r146.1 true) fun r189 =>
 jn (fun (s60 : Bool) =>
 if s60 = true then (some (.inr (.inr ((⟨(⟨0, 0, 0, 0, 0⟩ : S_api_Raster), ([] : List S_api_Cell)⟩ : S_api_Grid), 4))))
 else (gd (((s135.2.2.1).length + 1) * 24 ≤ 140737488355328) <|
 some (.inl (r189.1.rest, r189.1.bad, s135.2.2.1 ++ [(⟨false, (⟨w64 (s135.2.2.2 + r189.2), w64 ((w64 ((w64 (s135.2.2.2 + r189.2)) + r146.2)) - 1)⟩ : S_api_Span)⟩ : S_api_Cell)], w64 (s135.2.2.2 + r189.2)))))
 (fun j60 => if 1073741824 < r146.2 then (j60 true)
 else (if r189.2 < (-1073741824) then (j60 true)
 else (j60 (decide (1073741824 < r189.2)))))))
 else (some (.inr (.inl (s135.1, s135.2.1, s135.2.2.1)))))
 (fun j41 => if ((((s135.2.2.1).length : Nat) : Int)) < (w64 (r36.2 * r42.2)) then (j41 (!(s135.2.1)))
 else (j41 false))
noncomputable def lidarref09_Decode_l33 (p0 : List Int) (r216 : (List Int) × Int) : Int → Option (Sum Int (Sum Unit (S_api_Grid × Int))) := fun s261 =>
 if s261 < ((((p0).length : Nat) : Int)) then (bnd (idx r216.1 s261) fun x265 =>
 bnd (idx p0 s261) fun x276 =>
 if x265 = x276 then (some (.inl (w64 (s261 + 1))))
 else (some (.inr (.inr ((⟨(⟨0, 0, 0, 0, 0⟩ : S_api_Raster), ([] : List S_api_Cell)⟩ : S_api_Grid), 4)))))
 else (some (.inr (.inl ())))
noncomputable def lidarref09_Decode (p0 : List Int) : Option (S_api_Grid × Int) :=
 if ((((p0).length : Nat) : Int)) < 4 then (some ((⟨(⟨0, 0, 0, 0, 0⟩ : S_api_Raster), ([] : List S_api_Cell)⟩ : S_api_Grid), 4))
 else (gd (0 ≤ (w64 (((((p0).length : Nat) : Int)) - 4)) ∧ (w64 (((((p0).length : Nat) : Int)) - 4)) ≤ (((p0).length : Nat) : Int)) <|
 gd (((([] : List Int)).length + (subl p0 0 (w64 (((((p0).length : Nat) : Int)) - 4))).length) * 1 ≤ 140737488355328) <|
 bnd (lidarref09_reader_number (⟨(([] : List Int)) ++ (subl p0 0 (w64 (((((p0).length : Nat) : Int)) - 4))), false⟩ : S_lidarref09_reader) true) fun r18 =>
 bnd (lidarref09_reader_number r18.1 true) fun r24 =>
 bnd (lidarref09_reader_number r24.1 false) fun r30 =>
 bnd (lidarref09_reader_number r30.1 false) fun r36 =>
 bnd (lidarref09_reader_number r36.1 false) fun r42 =>
 jn (fun (s13 : Bool) =>
 if s13 = true then (some ((⟨(⟨0, 0, 0, 0, 0⟩ : S_api_Raster), ([] : List S_api_Cell)⟩ : S_api_Grid), 4))
 else (jn (fun (s16 : (List Int) × Bool × (List S_api_Cell)) =>
 bnd (lidarref09_Encode (⟨(⟨r18.2, r24.2, r30.2, r36.2, r42.2⟩ : S_api_Raster), s16.2.2⟩ : S_api_Grid)) fun r216 =>
 jn (fun (s65 : Bool) =>
 if s65 = true then (some ((⟨(⟨0, 0, 0, 0, 0⟩ : S_api_Raster), ([] : List S_api_Cell)⟩ : S_api_Grid), 4))
 else (jn (fun (s67 : Unit) =>
 some ((⟨(⟨r18.2, r24.2, r30.2, r36.2, r42.2⟩ : S_api_Raster), s16.2.2⟩ : S_api_Grid), 0))
 (fun j67 => bnd (lfix (lidarref09_Decode_l33 p0 r216) 0) fun t261 =>
 (match t261 with
 | (.inl z261) => j67 z261
 | (.inr (z261)) => some z261
 ))))
 (fun j65 => if s16.2.1 = true then (j65 true)
 else (if r216.2 = 0 then (j65 (!(decide (((((r216.1).length : Nat) : Int)) = ((((p0).length : Nat) : Int))))))
 else (j65 true))))
 (fun j16 => bnd (lfix (lidarref09_Decode_l13 r36 r42) (r42.1.rest, r42.1.bad, ([] : List S_api_Cell), 0)) fun t135 =>
 (match t135 with
 | (.inl z135) => j16 z135
 | (.inr (z135)) => some z135
 ))))
 (fun j13 => if r42.1.bad = true then (j13 true)
 else (bnd (lidarref09_ValidRaster (⟨r18.2, r24.2, r30.2, r36.2, r42.2⟩ : S_api_Raster)) fun r51 =>
 j13 (!(r51)))))
noncomputable def lidarlaw09_ModelDecodes (p0 : List Int) : Option Bool :=
 if 3000 < ((((p0).length : Nat) : Int)) then (bnd (lidarlaw09_first) fun r3 =>
 some r3)
 else (bnd (model_Decode p0) fun r7 =>
 bnd (lidarref09_Decode p0) fun r13 =>
 jn (fun (s7 : Bool) =>
 some s7)
 (fun j7 => if r7.2 = r13.2 then (bnd (lidarlaw09_Same r7.1 r13.1) fun r25 =>
 if r25 = true then (bnd (lidarlaw09_first) fun r30 =>
 j7 r30)
 else (j7 false))
 else (j7 false)))
noncomputable def lidarlaw09_ModelReturns (p0 : S_api_Grid) : Option Bool :=
 bnd (lidarlaw09_good p0) fun r2 =>
 if r2 = true then (bnd (model_Encode p0) fun r11 =>
 bnd (model_Decode r11.1) fun r18 =>
 jn (fun (s8 : Bool) =>
 if s8 = true then (some false)
 else (gd (((([] : List Int)).length + (r11.1).length) * 1 ≤ 140737488355328) <|
 gd ((((([] : List Int)) ++ r11.1).length + 1) * 1 ≤ 140737488355328) <|
 bnd (model_Decode (((([] : List Int)) ++ r11.1) ++ [0])) fun r57 =>
 gd (0 ≤ (w64 (((((r11.1).length : Nat) : Int)) - 1)) ∧ (w64 (((((r11.1).length : Nat) : Int)) - 1)) ≤ (((r11.1).length : Nat) : Int)) <|
 bnd (model_Decode (subl r11.1 0 (w64 (((((r11.1).length : Nat) : Int)) - 1)))) fun r68 =>
 jn (fun (s12 : Bool) =>
 some s12)
 (fun j12 => if r57.2 = 4 then (if r68.2 = 4 then (bnd (lidarlaw09_first) fun r77 =>
 j12 r77)
 else (j12 false))
 else (j12 false))))
 (fun j8 => if r11.2 = 0 then (if r18.2 = 0 then (bnd (lidarlaw09_Same p0 r18.1) fun r32 =>
 if r32 = true then (j8 (decide (((((r11.1).length : Nat) : Int)) = 0)))
 else (j8 true))
 else (j8 true))
 else (j8 true)))
 else (bnd (lidarlaw09_first) fun r7 =>
 some r7)
set_option maxRecDepth 100000 in
theorem link_ReadNumber_ok (p0 : List Int) {K : List Ent} {A0_0 : Option Addr} {c0_0 : Nat} (ha0 : Has K A0_0 (p0).length c0_0 1 e_u8 (p0)) {r : Int × Int × Int} (hx : link_ReadNumber p0 = some r) (w : World) (hK : ∀ e ∈ K, Ent.ok w e) : CtL Try.prog 120 [.slice (A0_0) ((p0).length) (c0_0)] w fun v Ln => v = .tuple #[.int .i64 (r.1), .int .i64 (r.2.1), .int .i64 (r.2.2)] ∧ Ln = [] ∧ True := by
  have ha0' := Has.up0 ha0
  refine CtL.mk 49 Try.func120 rfl Try.ntmps120 (by kernel_rfl) rfl ?_
  show T 49 _ [(0, .slice (A0_0) ((p0).length) (c0_0))] _
  unfold link_ReadNumber at hx
  refine T_seq ?_
  refine T_reg ?_
  refine T_val (Ev_assign rfl) rfl ?_
  refine T_val (Ev_assign rfl) rfl ?_
  refine T_val (Ev_assign rfl) rfl ?_
  refine T_nil ?_
  refine T_next ?_
  refine T_seq ?_
  refine T_reg ?_
  refine T_val (Ev_assign rfl) rfl ?_
  refine T_nil ?_
  refine T_next ?_
  obtain ⟨j3, hj3, hx⟩ := jn_some hx
  refine T_cutP (τ := Unit) (γ := Unit) (J := j3) (out := r) (fun s3 y3 => []) (fun s3 y3 => [] ++ [.old w]) (fun s3 y3 => True) ?_ ?_
  · intro s3 y3 hx113 hG114
    subst hj3
    refine T_seq ?_
    refine T_reg ?_
    refine T_val (Ev_assign rfl) rfl ?_
    refine T_val (Ev_assign rfl) rfl ?_
    refine T_val (Ev_assign rfl) rfl ?_
    refine T_nil ?_
    refine T_next ?_
    refine T_retc ?_
    obtain rfl := Option.some.inj hx113
    exact T_retP (rs := [.tmp 2, .tmp 3, .tmp 4]) Try.results120 (.tmp rfl (.tmp rfl (.tmp rfl (.nil)))) (Ln := []) ⟨rfl, rfl, trivial⟩ (loNil) (by exact .refl)
  · skip
    refine T_seq ?_
    refine T_reg ?_
    refine T_val (Ev_move rfl) rfl ?_
    refine T_nil ?_
    refine T_next ?_
    refine T_block ?_
    obtain ⟨t57, hl57, ho57⟩ := bnd_some hx
    refine T_loopP (σ := Int × Int) (γ := Unit) hl57 (fun s57 y57 => [(0, .slice (A0_0) ((p0).length) (c0_0)), (5, .int .u64 (s57.1)), (7, .int .i64 (s57.2))]) (fun s57 y57 => [] ++ [.old w]) (fun s57 y57 => True) () trivial (by exact .cons rfl (.cons rfl (.cons rfl (.nil)))) (by exact .refl) ?_
    intro s57 y57 hG57 x57 hx57 ht57
    unfold link_ReadNumber_l3 at hx57
    refine T_seq ?_
    refine T_reg ?_
    refine T_val (Ev_lss rfl rfl) rfl ?_
    refine T_nil ?_
    refine T_next ?_
    refine T_seq ?_
    refine T_caseP (s := 8) rfl (fun h58 => ?_) (fun h58 => ?_)
    · have hx59 := ite_t h58 hx57
      refine T_condT rfl ?_
      refine T_skip ?_
      refine T_next ?_
      refine T_seq ?_
      refine T_block ?_
      refine T_seq ?_
      refine T_reg ?_
      refine T_val (Ev_move rfl) rfl ?_
      refine T_val (Ev_assign rfl) rfl ?_
      refine T_nil ?_
      refine T_next ?_
      refine T_seq ?_
      refine T_seq ?_
      refine T_reg ?_
      refine T_val (Ev_move rfl) rfl ?_
      refine T_val (Ev_move rfl) rfl ?_
      refine T_val (Ev_len rfl 5 Try.underlying73) rfl ?_
      refine T_val (Ev_eql rfl rfl) rfl ?_
      refine T_nil ?_
      refine T_next ?_
      refine T_caseP (s := 13) rfl (fun h61 => ?_) (fun h61 => ?_)
      · have hx62 := ite_t h61 hx59
        refine T_condT rfl ?_
        refine T_seq ?_
        refine T_reg ?_
        refine T_val (Ev_assign rfl) rfl ?_
        refine T_val (Ev_assign rfl) rfl ?_
        refine T_val (Ev_assign rfl) rfl ?_
        refine T_nil ?_
        refine T_next ?_
        refine T_retc ?_
        refine T_outR ?_
        refine T_inR ?_
        refine T_outR ?_
        obtain rfl := exit_eq ht57 hx62
        refine T_outR ?_
        refine T_inR ?_
        refine T_outR ?_
        obtain rfl := Option.some.inj ho57
        exact T_retP (rs := [.tmp 2, .tmp 3, .tmp 4]) Try.results120 (.tmp rfl (.tmp rfl (.tmp rfl (.nil)))) (Ln := []) ⟨rfl, rfl, trivial⟩ (loNil) (by exact .refl)
      · have hx63 := ite_f h61 hx59
        refine T_condF rfl ?_
        refine T_skip ?_
        refine T_next ?_
        refine T_seq ?_
        refine T_reg ?_
        refine T_val (Ev_move rfl) rfl ?_
        refine T_val (Ev_move rfl) rfl ?_
        refine T_val (Ev_move rfl) rfl ?_
        obtain ⟨x64, h65, hx66⟩ := bnd_some hx63
        have hw74 := Has.low (E := []) ha0' hK
        obtain ⟨b67, o68, j69, hA70, hj71, hl72, hp73⟩ := Has.at_idx hw74 h65
        refine T_val (Ev_index rfl rfl hA70 (j := j69) hj71 hl72 slc73) rfl ?_
        refine T_val (Ev_loadP0 rfl hp73 (SubE.cons2 (i := 0) rfl (SubE.nil)) rfl one5) rfl ?_
        refine T_val (Ev_rem rfl rfl (by decide)) rfl ?_
        refine T_val (Ev_conv_wu64 rfl (by kernel_rfl) Try.underlying169) rfl ?_
        refine T_val (Ev_move rfl) rfl ?_
        refine T_val (Ev_mul_w64 rfl rfl) rfl ?_
        refine T_val (Ev_conv_wu64 rfl (by kernel_rfl) Try.underlying159) rfl ?_
        obtain ⟨h75, hx76⟩ := gd_some hx66
        refine T_val (Ev_shlW rfl rfl h75) rfl ?_
        refine T_val (Ev_bitW_or rfl rfl) rfl ?_
        refine T_val (Ev_assign rfl) rfl ?_
        refine T_nil ?_
        refine T_next ?_
        refine T_seq ?_
        refine T_seq ?_
        refine T_reg ?_
        refine T_val (Ev_move rfl) rfl ?_
        refine T_val (Ev_move rfl) rfl ?_
        obtain ⟨x77, h78, hx79⟩ := bnd_some hx76
        have hw87 := Has.low (E := []) ha0' hK
        obtain ⟨b80, o81, j82, hA83, hj84, hl85, hp86⟩ := Has.at_idx hw87 h78
        refine T_val (Ev_index rfl rfl hA83 (j := j82) hj84 hl85 slc73) rfl ?_
        refine T_val (Ev_loadP0 rfl hp86 (SubE.cons2 (i := 0) rfl (SubE.nil)) rfl one5) rfl ?_
        refine T_val (Ev_geq rfl rfl) rfl ?_
        refine T_nil ?_
        refine T_next ?_
        refine T_caseP (s := 30) rfl (fun h88 => ?_) (fun h88 => ?_)
        · have hx89 := ite_t h88 hx79
          refine T_condT rfl ?_
          refine T_exit ?_
          refine T_outX ?_
          refine T_here ?_
          refine T_next ?_
          refine T_reg ?_
          refine T_val (Ev_add_w64 rfl rfl) rfl ?_
          refine T_val (Ev_move rfl) rfl ?_
          refine T_nil ?_
          exact T_roundP (bit_or .u64 s57.1 (shl_ .u64 (wu64 (Int.tmod x64 128)) (wu64 (w64 (7 * s57.2)))), w64 (s57.2 + 1)) () hx89 trivial (by exact .cons rfl (.cons rfl (.cons rfl (.nil)))) (by exact .refl)
        · have hx90 := ite_f h88 hx79
          refine T_condF rfl ?_
          refine T_skip ?_
          refine T_next ?_
          refine T_seq ?_
          obtain ⟨j30, hj30, hx90⟩ := jn_some hx90
          refine T_cutP (τ := Bool) (γ := Unit) (J := j30) (out := x57) (fun s30 y30 => [(5, .int .u64 (bit_or .u64 s57.1 (shl_ .u64 (wu64 (Int.tmod x64 128)) (wu64 (w64 (7 * s57.2)))))), (6, .int .i64 (s57.2)), (43, .bool (s30))]) (fun s30 y30 => [] ++ [.old w]) (fun s30 y30 => True) ?_ ?_
          · intro s30 y30 hx108 hG109
            subst hj30
            refine T_caseB (s := 43) rfl (fun h110 => ?_) (fun h110 => ?_)
            · have hx111 := ite_t h110 hx108
              refine T_condT rfl ?_
              refine T_seq ?_
              refine T_reg ?_
              refine T_val (Ev_assign rfl) rfl ?_
              refine T_val (Ev_assign rfl) rfl ?_
              refine T_val (Ev_assign rfl) rfl ?_
              refine T_nil ?_
              refine T_next ?_
              refine T_retc ?_
              refine T_outR ?_
              refine T_inR ?_
              refine T_outR ?_
              obtain rfl := exit_eq ht57 hx111
              refine T_outR ?_
              refine T_inR ?_
              refine T_outR ?_
              obtain rfl := Option.some.inj ho57
              exact T_retP (rs := [.tmp 2, .tmp 3, .tmp 4]) Try.results120 (.tmp rfl (.tmp rfl (.tmp rfl (.nil)))) (Ln := []) ⟨rfl, rfl, trivial⟩ (loNil) (by exact .refl)
            · have hx112 := ite_bf h110 hx108
              refine T_condF rfl ?_
              refine T_skip ?_
              refine T_next ?_
              refine T_seq ?_
              refine T_reg ?_
              refine T_val (Ev_move rfl) rfl ?_
              refine T_val (Ev_conv_w64 rfl (by kernel_rfl) Try.underlying3) rfl ?_
              refine T_val (Ev_move rfl) rfl ?_
              refine T_val (Ev_add_w64 rfl rfl) rfl ?_
              refine T_val (Ev_assign rfl) rfl ?_
              refine T_val (Ev_assign rfl) rfl ?_
              refine T_val (Ev_assign rfl) rfl ?_
              refine T_nil ?_
              refine T_next ?_
              refine T_retc ?_
              refine T_inR ?_
              refine T_outR ?_
              obtain rfl := exit_eq ht57 hx112
              refine T_outR ?_
              refine T_inR ?_
              refine T_outR ?_
              obtain rfl := Option.some.inj ho57
              exact T_retP (rs := [.tmp 2, .tmp 3, .tmp 4]) Try.results120 (.tmp rfl (.tmp rfl (.tmp rfl (.nil)))) (Ln := []) ⟨rfl, rfl, trivial⟩ (loNil) (by exact .refl)
          · skip
            refine T_reg ?_
            refine T_val (Ev_move rfl) rfl ?_
            refine T_val (Ev_move rfl) rfl ?_
            obtain ⟨x91, h92, hx93⟩ := bnd_some hx90
            have hw101 := Has.low (E := []) ha0' hK
            obtain ⟨b94, o95, j96, hA97, hj98, hl99, hp100⟩ := Has.at_idx hw101 h92
            refine T_val (Ev_index rfl rfl hA97 (j := j96) hj98 hl99 slc73) rfl ?_
            refine T_val (Ev_loadP0 rfl hp100 (SubE.cons2 (i := 0) rfl (SubE.nil)) rfl one5) rfl ?_
            refine T_val (Ev_eql rfl rfl) rfl ?_
            refine T_val (Ev_move rfl) rfl ?_
            refine T_caseP (s := 36) rfl (fun h102 => ?_) (fun h102 => ?_)
            · have hx103 := ite_t h102 hx93
              refine T_valG rfl rfl rfl (Ev_move rfl) rfl ?_
              refine T_valG rfl rfl rfl (Ev_gtr rfl rfl) rfl ?_
              refine T_val (Ev_pickT rfl rfl) rfl ?_
              refine T_val (Ev_move rfl) rfl ?_
              refine T_caseP (s := 40) rfl (fun h104 => ?_) (fun h104 => ?_)
              · have hx105 := ite_t h104 hx103
                refine T_skipG rfl rfl rfl rfl rfl ?_
                refine T_skipG rfl rfl rfl rfl rfl ?_
                refine T_val (Ev_pickT rfl rfl) rfl ?_
                refine T_nil ?_
                exact T_metP true () hx105 trivial (by exact .cons rfl (.cons rfl (.cons rfl (.nil)))) (by exact .refl)
              · have hx106 := ite_f h104 hx103
                refine T_valG rfl rfl rfl (Ev_move rfl) rfl ?_
                refine T_valG rfl rfl rfl (Ev_gtr rfl rfl) rfl ?_
                refine T_val (Ev_pickF rfl rfl) rfl ?_
                refine T_nil ?_
                exact T_metP (decide (4611686018427387903 < (bit_or .u64 s57.1 (shl_ .u64 (wu64 (Int.tmod x64 128)) (wu64 (w64 (7 * s57.2))))))) () hx106 trivial (by exact .cons rfl (.cons rfl (.cons rfl (.nil)))) (by exact .refl)
            · have hx107 := ite_f h102 hx93
              refine T_skipG rfl rfl rfl rfl rfl ?_
              refine T_skipG rfl rfl rfl rfl rfl ?_
              refine T_val (Ev_pickF rfl rfl) rfl ?_
              refine T_val (Ev_move rfl) rfl ?_
              refine T_valG rfl rfl rfl (Ev_move rfl) rfl ?_
              refine T_valG rfl rfl rfl (Ev_gtr rfl rfl) rfl ?_
              refine T_val (Ev_pickF rfl rfl) rfl ?_
              refine T_nil ?_
              exact T_metP (decide (4611686018427387903 < (bit_or .u64 s57.1 (shl_ .u64 (wu64 (Int.tmod x64 128)) (wu64 (w64 (7 * s57.2))))))) () hx107 trivial (by exact .cons rfl (.cons rfl (.cons rfl (.nil)))) (by exact .refl)
    · have hx60 := ite_f h58 hx57
      refine T_condF rfl ?_
      refine T_exit ?_
      refine T_outX ?_
      obtain rfl := exit_eq ht57 hx60
      refine T_outX ?_
      refine T_here ?_
      exact T_metP () () ho57 trivial (by exact .nil) (by exact .refl)
set_option maxRecDepth 100000 in
theorem link_ReadSigned_ok (p0 : List Int) {K : List Ent} {A0_0 : Option Addr} {c0_0 : Nat} (ha0 : Has K A0_0 (p0).length c0_0 1 e_u8 (p0)) {r : Int × Int × Int} (hx : link_ReadSigned p0 = some r) (w : World) (hK : ∀ e ∈ K, Ent.ok w e) : CtL Try.prog 118 [.slice (A0_0) ((p0).length) (c0_0)] w fun v Ln => v = .tuple #[.int .i64 (r.1), .int .i64 (r.2.1), .int .i64 (r.2.2)] ∧ Ln = [] ∧ True := by
  have ha0' := Has.up0 ha0
  refine CtL.mk 28 Try.func118 rfl Try.ntmps118 (by kernel_rfl) rfl ?_
  show T 28 _ [(0, .slice (A0_0) ((p0).length) (c0_0))] _
  unfold link_ReadSigned at hx
  refine T_seq ?_
  refine T_reg ?_
  refine T_val (Ev_assign rfl) rfl ?_
  refine T_val (Ev_assign rfl) rfl ?_
  refine T_val (Ev_assign rfl) rfl ?_
  refine T_nil ?_
  refine T_next ?_
  refine T_seq ?_
  refine T_reg ?_
  refine T_val (Ev_move rfl) rfl ?_
  obtain ⟨r1, h2, hx3⟩ := bnd_some hx
  refine T_x (Wx_callL rfl (fun w1 hw1 => link_ReadNumber_ok p0 (Has.len' ha0') h2 w1 (okApp (K := K) (K2 := []) hK (by exact (SubE.cons2 (i := 0) rfl (SubE.nil))) (by exact (SubE.nil)) hw1)) rfl ?_)
  rintro _ _ hlo ⟨rfl, rfl, -⟩
  refine T_app0 ?_
  refine T_val (Ev_move rfl) rfl ?_
  refine T_val (Ev_extract rfl rfl) rfl ?_
  refine T_val (Ev_extract rfl rfl) rfl ?_
  refine T_val (Ev_extract rfl rfl) rfl ?_
  refine T_val (Ev_assign rfl) rfl ?_
  refine T_val (Ev_assign rfl) rfl ?_
  refine T_val (Ev_assign rfl) rfl ?_
  refine T_nil ?_
  refine T_next ?_
  refine T_seq ?_
  refine T_seq ?_
  refine T_reg ?_
  refine T_val (Ev_move rfl) rfl ?_
  refine T_val (Ev_neq rfl rfl) rfl ?_
  refine T_nil ?_
  refine T_next ?_
  refine T_caseNP (s := 15) rfl (fun h4 => ?_) (fun h4 => ?_)
  · have hx5 := ite_f h4 hx3
    refine T_condT rfl ?_
    refine T_seq ?_
    refine T_reg ?_
    refine T_val (Ev_move rfl) rfl ?_
    refine T_val (Ev_assign rfl) rfl ?_
    refine T_val (Ev_assign rfl) rfl ?_
    refine T_val (Ev_assign rfl) rfl ?_
    refine T_nil ?_
    refine T_next ?_
    refine T_retc ?_
    refine T_outR ?_
    obtain rfl := Option.some.inj hx5
    exact T_retP (rs := [.tmp 2, .tmp 3, .tmp 4]) Try.results118 (.tmp rfl (.tmp rfl (.tmp rfl (.nil)))) (Ln := []) ⟨rfl, rfl, trivial⟩ (loNil) (by exact .refl)
  · have hx6 := ite_t h4 hx3
    refine T_condF rfl ?_
    refine T_skip ?_
    refine T_next ?_
    refine T_seq ?_
    refine T_seq ?_
    refine T_reg ?_
    refine T_val (Ev_move rfl) rfl ?_
    refine T_val (Ev_rem rfl rfl (by decide)) rfl ?_
    refine T_val (Ev_eql rfl rfl) rfl ?_
    refine T_nil ?_
    refine T_next ?_
    refine T_caseP (s := 19) rfl (fun h7 => ?_) (fun h7 => ?_)
    · have hx8 := ite_t h7 hx6
      refine T_condT rfl ?_
      refine T_seq ?_
      refine T_reg ?_
      refine T_val (Ev_move rfl) rfl ?_
      refine T_val (Ev_quo_w64 rfl rfl (by decide)) rfl ?_
      refine T_val (Ev_neg_w64 rfl) rfl ?_
      refine T_val (Ev_sub_w64 rfl rfl) rfl ?_
      refine T_val (Ev_move rfl) rfl ?_
      refine T_val (Ev_assign rfl) rfl ?_
      refine T_val (Ev_assign rfl) rfl ?_
      refine T_val (Ev_assign rfl) rfl ?_
      refine T_nil ?_
      refine T_next ?_
      refine T_retc ?_
      refine T_outR ?_
      obtain rfl := Option.some.inj hx8
      exact T_retP (rs := [.tmp 2, .tmp 3, .tmp 4]) Try.results118 (.tmp rfl (.tmp rfl (.tmp rfl (.nil)))) (Ln := []) ⟨rfl, rfl, trivial⟩ (loNil) (by exact .refl)
    · have hx9 := ite_f h7 hx6
      refine T_condF rfl ?_
      refine T_skip ?_
      refine T_next ?_
      refine T_seq ?_
      refine T_reg ?_
      refine T_val (Ev_move rfl) rfl ?_
      refine T_val (Ev_quo_w64 rfl rfl (by decide)) rfl ?_
      refine T_val (Ev_move rfl) rfl ?_
      refine T_val (Ev_assign rfl) rfl ?_
      refine T_val (Ev_assign rfl) rfl ?_
      refine T_val (Ev_assign rfl) rfl ?_
      refine T_nil ?_
      refine T_next ?_
      refine T_retc ?_
      obtain rfl := Option.some.inj hx9
      exact T_retP (rs := [.tmp 2, .tmp 3, .tmp 4]) Try.results118 (.tmp rfl (.tmp rfl (.tmp rfl (.nil)))) (Ln := []) ⟨rfl, rfl, trivial⟩ (loNil) (by exact .refl)
set_option maxRecDepth 100000 in
theorem model_reader_step_ok (p0 : S_model_reader) (p1 : Int) (p2 : Int) (p3 : Int) {g0_0 : Nat} {K : List Ent} {A0_0 : Option Addr} {c0_0 : Nat} (ha0 : Has K A0_0 (p0.b).length c0_0 1 e_u8 (p0.b)) {r : S_model_reader × Int} (hx : model_reader_step p0 p1 p2 p3 = some r) : CtK Try.prog 119 [.pointer (some ⟨g0_0, 0, none⟩), .int .i64 (p1), .int .i64 (p2), .int .i64 (p3)] K [.m g0_0 131 [.slice (A0_0) ((p0.b).length) (c0_0), .bool (p0.bad)]] fun v Ln => ∃ (A0 : Option Addr) (c0 : Nat), v = .int .i64 (r.2) ∧ Ln = [.m g0_0 131 [.slice (A0) ((r.1.b).length) (c0), .bool (r.1.bad)]] ∧ Has (K ++ []) A0 (r.1.b).length c0 1 e_u8 (r.1.b) ∧ True := by
  have ha0' := Has.up0 ha0
  refine CtK.mk 30 Try.func119 rfl Try.ntmps119 (by kernel_rfl) rfl ?_
  intro Lf hKf
  show T 30 _ [(0, .pointer (some ⟨g0_0, 0, none⟩)), (1, .int .i64 (p1)), (2, .int .i64 (p2)), (3, .int .i64 (p3))] ([.m g0_0 131 [.slice (A0_0) ((p0.b).length) (c0_0), .bool (p0.bad)]] ++ Lf)
  unfold model_reader_step at hx
  refine T_seq ?_
  refine T_reg ?_
  refine T_val (Ev_assign rfl) rfl ?_
  refine T_nil ?_
  refine T_next ?_
  refine T_seq ?_
  obtain ⟨j3, hj3, hx⟩ := jn_some hx
  refine T_cutP (τ := Bool) (γ := Unit) (J := j3) (out := r) (fun s3 y3 => [(0, .pointer (some ⟨g0_0, 0, none⟩)), (1, .int .i64 (p1)), (2, .int .i64 (p2)), (16, .bool (s3))]) (fun s3 y3 => [.m g0_0 131 [.slice (A0_0) ((p0.b).length) (c0_0), .bool (p0.bad)]] ++ Lf) (fun s3 y3 => True) ?_ ?_
  · intro s3 y3 hx4 hG5
    subst hj3
    refine T_caseB (s := 16) rfl (fun h6 => ?_) (fun h6 => ?_)
    · have hx7 := ite_t h6 hx4
      refine T_condT rfl ?_
      refine T_seq ?_
      refine T_reg ?_
      refine T_val (Ev_move rfl) rfl ?_
      refine T_val (Ev_nilCheck rfl) rfl ?_
      refine T_val (Ev_field rfl fld131_1 rfl) rfl ?_
      refine T_h (Wh_store rfl rfl rfl (.here) (.skip (.put (.done))) rfl (List.cons_ne_nil _ _) one4.2 ?_)
      refine T_nil ?_
      refine T_next ?_
      refine T_seq ?_
      refine T_reg ?_
      refine T_val (Ev_assign rfl) rfl ?_
      refine T_nil ?_
      refine T_next ?_
      refine T_retc ?_
      refine T_outR ?_
      obtain rfl := Option.some.inj hx7
      exact T_retK (rs := [.tmp 8]) Try.results119 (.tmp rfl (.nil)) (Ln := [.m g0_0 131 [.slice (A0_0) ((p0.b).length) (c0_0), .bool (true)]]) ⟨A0_0, c0_0, rfl, rfl, Has.len' ha0', trivial⟩ (by exact .pick 0 rfl (.refl))
    · have hx8 := ite_bf h6 hx4
      refine T_condF rfl ?_
      refine T_skip ?_
      refine T_next ?_
      refine T_seq ?_
      refine T_reg ?_
      refine T_val (Ev_move rfl) rfl ?_
      refine T_val (Ev_move rfl) rfl ?_
      refine T_val (Ev_nilCheck rfl) rfl ?_
      refine T_val (Ev_field rfl fld131_0 rfl) rfl ?_
      refine T_val (Ev_load1 rfl (i := 0) rfl rfl one73) rfl ?_
      refine T_val (Ev_move rfl) rfl ?_
      obtain ⟨h10, hx11⟩ := gd_some hx8
      have hs9 := Has.subL ha0' h10.1 h10.2
      refine T_val (Ev_subL rfl rfl slc73 h10.1 h10.2) rfl ?_
      refine T_val (Ev_nilCheck rfl) rfl ?_
      refine T_val (Ev_field rfl fld131_0 rfl) rfl ?_
      refine T_h (Wh_store rfl rfl rfl (.here) (.put (.done)) rfl (List.cons_ne_nil _ _) one73.2 ?_)
      refine T_nil ?_
      refine T_next ?_
      refine T_seq ?_
      refine T_reg ?_
      refine T_val (Ev_move rfl) rfl ?_
      refine T_val (Ev_assign rfl) rfl ?_
      refine T_nil ?_
      refine T_next ?_
      refine T_retc ?_
      refine T_ent (.here) (e' := .m g0_0 131 [.slice (slA (A0_0) (c0_0) (Int.toNat p2) 1) ((subl p0.b p2 (((p0.b).length : Nat) : Int)).length) (c0_0 - Int.toNat p2), .bool (p0.bad)]) (by first | (rw [show (((p0.b).length) - Int.toNat p2) = (subl p0.b p2 (((p0.b).length : Nat) : Int)).length from (Has.len hs9).symm]; done) | rfl) ?_
      obtain rfl := Option.some.inj hx11
      exact T_retK (rs := [.tmp 8]) Try.results119 (.tmp rfl (.nil)) (Ln := [.m g0_0 131 [.slice (slA (A0_0) (c0_0) (Int.toNat p2) 1) ((subl p0.b p2 (((p0.b).length : Nat) : Int)).length) (c0_0 - Int.toNat p2), .bool (p0.bad)]]) ⟨(slA (A0_0) (c0_0) (Int.toNat p2) 1), (c0_0 - Int.toNat p2), rfl, rfl, Has.len' hs9, trivial⟩ (by exact .pick 0 rfl (.refl))
  · skip
    refine T_reg ?_
    refine T_val (Ev_move rfl) rfl ?_
    refine T_val (Ev_neq rfl rfl) rfl ?_
    refine T_val (Ev_move rfl) rfl ?_
    refine T_caseNP (s := 11) rfl (fun h1 => ?_) (fun h1 => ?_)
    · have hx2 := ite_f h1 hx
      refine T_skipG rfl rfl rfl rfl rfl ?_
      refine T_skipG rfl rfl rfl rfl rfl ?_
      refine T_skipG rfl rfl rfl rfl rfl ?_
      refine T_skipG rfl rfl rfl rfl rfl ?_
      refine T_val (Ev_pickT rfl rfl) rfl ?_
      refine T_nil ?_
      exact T_metP true () hx2 trivial (by exact .cons rfl (.cons rfl (.cons rfl (.cons rfl (.nil))))) (by exact .pick 0 rfl (.refl))
    · have hx3 := ite_t h1 hx
      refine T_valG rfl rfl rfl (Ev_move rfl) rfl ?_
      refine T_valG rfl rfl rfl (Ev_nilCheck rfl) rfl ?_
      refine T_valG rfl rfl rfl (Ev_field rfl fld131_1 rfl) rfl ?_
      refine T_valG rfl rfl rfl (Ev_load1 rfl (i := 0) rfl rfl one4) rfl ?_
      refine T_val (Ev_pickF rfl rfl) rfl ?_
      refine T_nil ?_
      exact T_metP p0.bad () hx3 trivial (by exact .cons rfl (.cons rfl (.cons rfl (.cons rfl (.nil))))) (by exact .pick 0 rfl (.refl))
set_option maxRecDepth 100000 in
theorem model_reader_signed_ok (p0 : S_model_reader) {g0_0 : Nat} {K : List Ent} {A0_0 : Option Addr} {c0_0 : Nat} (ha0 : Has K A0_0 (p0.b).length c0_0 1 e_u8 (p0.b)) {r : S_model_reader × Int} (hx : model_reader_signed p0 = some r) : CtK Try.prog 86 [.pointer (some ⟨g0_0, 0, none⟩)] K [.m g0_0 131 [.slice (A0_0) ((p0.b).length) (c0_0), .bool (p0.bad)]] fun v Ln => ∃ (A0 : Option Addr) (c0 : Nat), v = .int .i64 (r.2) ∧ Ln = [.m g0_0 131 [.slice (A0) ((r.1.b).length) (c0), .bool (r.1.bad)]] ∧ Has (K ++ []) A0 (r.1.b).length c0 1 e_u8 (r.1.b) ∧ True := by
  have ha0' := Has.up0 ha0
  refine CtK.mk 20 Try.func86 rfl Try.ntmps86 (by kernel_rfl) rfl ?_
  intro Lf hKf
  show T 20 _ [(0, .pointer (some ⟨g0_0, 0, none⟩))] ([.m g0_0 131 [.slice (A0_0) ((p0.b).length) (c0_0), .bool (p0.bad)]] ++ Lf)
  unfold model_reader_signed at hx
  refine T_seq ?_
  refine T_reg ?_
  refine T_val (Ev_assign rfl) rfl ?_
  refine T_nil ?_
  refine T_next ?_
  refine T_seq ?_
  refine T_reg ?_
  refine T_val (Ev_move rfl) rfl ?_
  refine T_val (Ev_nilCheck rfl) rfl ?_
  refine T_val (Ev_field rfl fld131_0 rfl) rfl ?_
  refine T_val (Ev_load1 rfl (i := 0) rfl rfl one73) rfl ?_
  obtain ⟨r1, h2, hx3⟩ := bnd_some hx
  refine T_x (Wx_callL rfl (fun w1 hw1 => link_ReadSigned_ok p0.b (Has.len' ha0') h2 w1 (okAll (K := (K ++ [])) (by exact (SubE.appC (SubE.tail (hKf)) (SubE.nil))) hw1)) rfl ?_)
  rintro _ _ hlo ⟨rfl, rfl, -⟩
  refine T_app0 ?_
  refine T_val (Ev_move rfl) rfl ?_
  refine T_val (Ev_extract rfl rfl) rfl ?_
  refine T_val (Ev_extract rfl rfl) rfl ?_
  refine T_val (Ev_extract rfl rfl) rfl ?_
  refine T_val (Ev_assign rfl) rfl ?_
  refine T_val (Ev_assign rfl) rfl ?_
  refine T_val (Ev_assign rfl) rfl ?_
  refine T_nil ?_
  refine T_next ?_
  refine T_seq ?_
  refine T_reg ?_
  refine T_val (Ev_move rfl) rfl ?_
  refine T_val (Ev_move rfl) rfl ?_
  refine T_val (Ev_move rfl) rfl ?_
  refine T_val (Ev_move rfl) rfl ?_
  obtain ⟨r4, h5, hx6⟩ := bnd_some hx3
  refine T_h (Wh_callK rfl (by exact .pick 0 rfl (.refl)) (by exact (SubE.appC (hKf) (SubE.nil))) (model_reader_step_ok p0 r1.1 r1.2.1 r1.2.2 (Has.len' ha0') h5 (K := (K ++ []))) rfl ?_)
  rintro _ _ ⟨A7, c8, rfl, rfl, hs9, -⟩
  refine T_app1 ?_
  have hs10 : Has (K ++ []) _ _ _ _ _ _ := Has.assoc hs9
  refine T_val (Ev_assign rfl) rfl ?_
  refine T_nil ?_
  refine T_next ?_
  refine T_retc ?_
  obtain rfl := Option.some.inj hx6
  exact T_retK (rs := [.tmp 2]) Try.results86 (.tmp rfl (.nil)) (Ln := [.m g0_0 131 [.slice (A7) ((r4.1.b).length) (c8), .bool (r4.1.bad)]]) ⟨A7, c8, rfl, rfl, Has.len' hs10, trivial⟩ (by exact .pick 0 rfl (.refl))
set_option maxRecDepth 100000 in
theorem model_reader_number_ok (p0 : S_model_reader) {g0_0 : Nat} {K : List Ent} {A0_0 : Option Addr} {c0_0 : Nat} (ha0 : Has K A0_0 (p0.b).length c0_0 1 e_u8 (p0.b)) {r : S_model_reader × Int} (hx : model_reader_number p0 = some r) : CtK Try.prog 87 [.pointer (some ⟨g0_0, 0, none⟩)] K [.m g0_0 131 [.slice (A0_0) ((p0.b).length) (c0_0), .bool (p0.bad)]] fun v Ln => ∃ (A0 : Option Addr) (c0 : Nat), v = .int .i64 (r.2) ∧ Ln = [.m g0_0 131 [.slice (A0) ((r.1.b).length) (c0), .bool (r.1.bad)]] ∧ Has (K ++ []) A0 (r.1.b).length c0 1 e_u8 (r.1.b) ∧ True := by
  have ha0' := Has.up0 ha0
  refine CtK.mk 20 Try.func87 rfl Try.ntmps87 (by kernel_rfl) rfl ?_
  intro Lf hKf
  show T 20 _ [(0, .pointer (some ⟨g0_0, 0, none⟩))] ([.m g0_0 131 [.slice (A0_0) ((p0.b).length) (c0_0), .bool (p0.bad)]] ++ Lf)
  unfold model_reader_number at hx
  refine T_seq ?_
  refine T_reg ?_
  refine T_val (Ev_assign rfl) rfl ?_
  refine T_nil ?_
  refine T_next ?_
  refine T_seq ?_
  refine T_reg ?_
  refine T_val (Ev_move rfl) rfl ?_
  refine T_val (Ev_nilCheck rfl) rfl ?_
  refine T_val (Ev_field rfl fld131_0 rfl) rfl ?_
  refine T_val (Ev_load1 rfl (i := 0) rfl rfl one73) rfl ?_
  obtain ⟨r1, h2, hx3⟩ := bnd_some hx
  refine T_x (Wx_callL rfl (fun w1 hw1 => link_ReadNumber_ok p0.b (Has.len' ha0') h2 w1 (okAll (K := (K ++ [])) (by exact (SubE.appC (SubE.tail (hKf)) (SubE.nil))) hw1)) rfl ?_)
  rintro _ _ hlo ⟨rfl, rfl, -⟩
  refine T_app0 ?_
  refine T_val (Ev_move rfl) rfl ?_
  refine T_val (Ev_extract rfl rfl) rfl ?_
  refine T_val (Ev_extract rfl rfl) rfl ?_
  refine T_val (Ev_extract rfl rfl) rfl ?_
  refine T_val (Ev_assign rfl) rfl ?_
  refine T_val (Ev_assign rfl) rfl ?_
  refine T_val (Ev_assign rfl) rfl ?_
  refine T_nil ?_
  refine T_next ?_
  refine T_seq ?_
  refine T_reg ?_
  refine T_val (Ev_move rfl) rfl ?_
  refine T_val (Ev_move rfl) rfl ?_
  refine T_val (Ev_move rfl) rfl ?_
  refine T_val (Ev_move rfl) rfl ?_
  obtain ⟨r4, h5, hx6⟩ := bnd_some hx3
  refine T_h (Wh_callK rfl (by exact .pick 0 rfl (.refl)) (by exact (SubE.appC (hKf) (SubE.nil))) (model_reader_step_ok p0 r1.1 r1.2.1 r1.2.2 (Has.len' ha0') h5 (K := (K ++ []))) rfl ?_)
  rintro _ _ ⟨A7, c8, rfl, rfl, hs9, -⟩
  refine T_app1 ?_
  have hs10 : Has (K ++ []) _ _ _ _ _ _ := Has.assoc hs9
  refine T_val (Ev_assign rfl) rfl ?_
  refine T_nil ?_
  refine T_next ?_
  refine T_retc ?_
  obtain rfl := Option.some.inj hx6
  exact T_retK (rs := [.tmp 2]) Try.results87 (.tmp rfl (.nil)) (Ln := [.m g0_0 131 [.slice (A7) ((r4.1.b).length) (c8), .bool (r4.1.bad)]]) ⟨A7, c8, rfl, rfl, Has.len' hs10, trivial⟩ (by exact .pick 0 rfl (.refl))
set_option maxRecDepth 100000 in
theorem model_reader_cells_ok (p0 : S_model_reader) (p1 : Int) {g0_0 : Nat} {K : List Ent} {A0_0 : Option Addr} {c0_0 : Nat} (ha0 : Has K A0_0 (p0.b).length c0_0 1 e_u8 (p0.b)) {r : S_model_reader × (List S_api_Cell)} (hx : model_reader_cells p0 p1 = some r) : CtK Try.prog 88 [.pointer (some ⟨g0_0, 0, none⟩), .int .i64 (p1)] K [.m g0_0 131 [.slice (A0_0) ((p0.b).length) (c0_0), .bool (p0.bad)]] fun v Ln => ∃ (A0 : Option Addr) (c0 : Nat) (A2 : Option Addr) (c2 : Nat), v = .slice (A2) ((r.2).length) (c2) ∧ Ln = [.m g0_0 131 [.slice (A0) ((r.1.b).length) (c0), .bool (r.1.bad)], .r A2 (r.2).length c2 41 3 ((r.2).flatMap e_api_Cell)] ∧ Has (K ++ []) A0 (r.1.b).length c0 1 e_u8 (r.1.b) ∧ True := by
  have ha0' := Has.up0 ha0
  refine CtK.mk 79 Try.func88 rfl Try.ntmps88 (by kernel_rfl) rfl ?_
  intro Lf hKf
  show T 79 _ [(0, .pointer (some ⟨g0_0, 0, none⟩)), (1, .int .i64 (p1))] ([.m g0_0 131 [.slice (A0_0) ((p0.b).length) (c0_0), .bool (p0.bad)]] ++ Lf)
  unfold model_reader_cells at hx
  refine T_seq ?_
  refine T_reg ?_
  refine T_val (Ev_assign rfl) rfl ?_
  refine T_nil ?_
  refine T_next ?_
  refine T_seq ?_
  refine T_reg ?_
  refine T_val (Ev_assign rfl) rfl ?_
  refine T_nil ?_
  refine T_next ?_
  refine T_seq ?_
  refine T_reg ?_
  refine T_val (Ev_assign rfl) rfl ?_
  refine T_nil ?_
  refine T_next ?_
  obtain ⟨j4, hj4, hx⟩ := jn_some hx
  refine T_cutP (τ := (List Int) × Bool × (List S_api_Cell)) (γ := (Option Addr) × Nat × (Option Addr) × Nat) (J := j4) (out := r) (fun s4 y4 => [(0, .pointer (some ⟨g0_0, 0, none⟩)), (5, .slice (y4.2.2.1) ((s4.2.2).length) (y4.2.2.2))]) (fun s4 y4 => [.r (y4.2.2.1) ((s4.2.2).length) (y4.2.2.2) 41 3 ((s4.2.2).flatMap e_api_Cell), .m g0_0 131 [.slice (y4.1) ((s4.1).length) (y4.2.1), .bool (s4.2.1)]] ++ Lf) (fun s4 y4 => Has (K ++ []) (y4.1) ((s4.1).length) (y4.2.1) 1 e_u8 (s4.1) ∧ True) ?_ ?_
  · intro s4 y4 hx173 hG174
    obtain ⟨hs175, -⟩ := hG174
    subst hj4
    refine T_seq ?_
    refine T_reg ?_
    refine T_val (Ev_move rfl) rfl ?_
    refine T_val (Ev_assign rfl) rfl ?_
    refine T_nil ?_
    refine T_next ?_
    refine T_retc ?_
    obtain rfl := Option.some.inj hx173
    exact T_retK (rs := [.tmp 4]) Try.results88 (.tmp rfl (.nil)) (Ln := [.m g0_0 131 [.slice (y4.1) ((s4.1).length) (y4.2.1), .bool (s4.2.1)], .r (y4.2.2.1) ((s4.2.2).length) (y4.2.2.2) 41 3 ((s4.2.2).flatMap e_api_Cell)]) ⟨y4.1, y4.2.1, y4.2.2.1, y4.2.2.2, rfl, rfl, Has.len' hs175, trivial⟩ (by exact .pick 1 rfl (.pick 0 rfl (.refl)))
  · skip
    refine T_block ?_
    obtain ⟨t87, hl87, ho87⟩ := bnd_some hx
    refine T_none 41 3 ?_
    have hn88 : 0 = (([] : List S_api_Cell)).length := by simp [setI_len, cpy_len, List.length_append] <;> omega
    refine T_ent (.here) (e' := .r (none) ((([] : List S_api_Cell)).length) (0) 41 3 ((([] : List S_api_Cell)).flatMap e_api_Cell)) (by first | (rw [← hn88]; done) | rfl) ?_
    refine T_loopP (σ := (List Int) × Bool × (List S_api_Cell) × Int) (γ := (Option Addr) × Nat × (Option Addr) × Nat) hl87 (fun s87 y87 => [(0, .pointer (some ⟨g0_0, 0, none⟩)), (1, .int .i64 (p1)), (5, .slice (y87.2.2.1) ((s87.2.2.1).length) (y87.2.2.2)), (6, .int .i64 (s87.2.2.2))]) (fun s87 y87 => [.r (y87.2.2.1) ((s87.2.2.1).length) (y87.2.2.2) 41 3 ((s87.2.2.1).flatMap e_api_Cell), .m g0_0 131 [.slice (y87.1) ((s87.1).length) (y87.2.1), .bool (s87.2.1)]] ++ Lf) (fun s87 y87 => Has (K ++ []) (y87.1) ((s87.1).length) (y87.2.1) 1 e_u8 (s87.1) ∧ True) (A0_0, c0_0, none, 0) ((by exact ⟨Has.len' ha0', trivial⟩)) (by exact .cons rfl (.cons rfl (.cons rfl (.cons rfl (.nil))))) (by exact .pick 0 rfl (.pick 0 rfl (.refl))) ?_
    intro s87 y87 hG87 x87 hx87 ht87
    unfold model_reader_cells_l3 at hx87
    obtain ⟨hs89, -⟩ := hG87
    refine T_seq ?_
    obtain ⟨j26, hj26, hx87⟩ := jn_some hx87
    refine T_cutP (τ := Bool) (γ := Unit) (J := j26) (out := x87) (fun s26 y26 => [(0, .pointer (some ⟨g0_0, 0, none⟩)), (1, .int .i64 (p1)), (5, .slice (y87.2.2.1) ((s87.2.2.1).length) (y87.2.2.2)), (6, .int .i64 (s87.2.2.2)), (21, .bool (s26))]) (fun s26 y26 => [.r (y87.2.2.1) ((s87.2.2.1).length) (y87.2.2.2) 41 3 ((s87.2.2.1).flatMap e_api_Cell), .m g0_0 131 [.slice (y87.1) ((s87.1).length) (y87.2.1), .bool (s87.2.1)]] ++ Lf) (fun s26 y26 => True) ?_ ?_
    · intro s26 y26 hx93 hG94
      subst hj26
      refine T_caseB (s := 21) rfl (fun h95 => ?_) (fun h95 => ?_)
      · have hx96 := ite_t h95 hx93
        refine T_condT rfl ?_
        refine T_skip ?_
        refine T_next ?_
        refine T_block ?_
        refine T_seq ?_
        refine T_reg ?_
        refine T_val (Ev_move rfl) rfl ?_
        obtain ⟨r98, h99, hx100⟩ := bnd_some hx96
        refine T_h (Wh_callK rfl (by exact .pick 1 rfl (.refl)) (by exact (SubE.appC (SubE.tail (hKf)) (SubE.nil))) (model_reader_number_ok (⟨s87.1, s87.2.1⟩ : S_model_reader) (Has.len' hs89) h99 (K := (K ++ []))) rfl ?_)
        rintro _ _ ⟨A101, c102, rfl, rfl, hs103, -⟩
        refine T_app1 ?_
        have hs104 : Has (K ++ []) _ _ _ _ _ _ := Has.assoc hs103
        refine T_val (Ev_assign rfl) rfl ?_
        refine T_nil ?_
        refine T_next ?_
        refine T_seq ?_
        refine T_seq ?_
        refine T_reg ?_
        refine T_val (Ev_move rfl) rfl ?_
        refine T_val (Ev_gtr rfl rfl) rfl ?_
        refine T_nil ?_
        refine T_next ?_
        refine T_caseP (s := 25) rfl (fun h105 => ?_) (fun h105 => ?_)
        · have hx106 := ite_t h105 hx100
          refine T_condT rfl ?_
          refine T_seq ?_
          refine T_reg ?_
          refine T_val (Ev_move rfl) rfl ?_
          refine T_val (Ev_move rfl) rfl ?_
          obtain ⟨r107, h108, hx109⟩ := bnd_some hx106
          refine T_h (Wh_callK rfl (by exact .pick 0 rfl (.refl)) (by exact (SubE.appC (SubE.tail (hKf)) (SubE.nil))) (model_reader_signed_ok r98.1 (Has.len' hs104) h108 (K := (K ++ []))) rfl ?_)
          rintro _ _ ⟨A110, c111, rfl, rfl, hs112, -⟩
          refine T_app1 ?_
          have hs113 : Has (K ++ []) _ _ _ _ _ _ := Has.assoc hs112
          refine T_val (Ev_add_w64 rfl rfl) rfl ?_
          refine T_val (Ev_assign rfl) rfl ?_
          refine T_nil ?_
          refine T_next ?_
          obtain ⟨j31, hj31, hx109⟩ := jn_some hx109
          refine T_cutP (τ := Bool) (γ := Unit) (J := j31) (out := x87) (fun s31 y31 => [(0, .pointer (some ⟨g0_0, 0, none⟩)), (1, .int .i64 (p1)), (5, .slice (y87.2.2.1) ((s87.2.2.1).length) (y87.2.2.2)), (7, .int .i64 (r98.2)), (8, .int .i64 (w64 (s87.2.2.2 + r107.2)))]) (fun s31 y31 => [.m g0_0 131 [.slice (A110) ((r107.1.b).length) (c111), .bool (s31)], .r (y87.2.2.1) ((s87.2.2.1).length) (y87.2.2.2) 41 3 ((s87.2.2.1).flatMap e_api_Cell)] ++ Lf) (fun s31 y31 => True) ?_ ?_
          · intro s31 y31 hx120 hG121
            subst hj31
            refine T_seq ?_
            refine T_reg ?_
            refine T_val (Ev_move rfl) rfl ?_
            refine T_val (Ev_assign rfl) rfl ?_
            refine T_nil ?_
            refine T_next ?_
            refine T_seq ?_
            refine T_reg ?_
            refine T_val (Ev_move rfl) rfl ?_
            refine T_val (Ev_move rfl) rfl ?_
            refine T_val (Ev_move rfl) rfl ?_
            refine T_val (Ev_move rfl) rfl ?_
            refine T_val (Ev_add_w64 rfl rfl) rfl ?_
            refine T_val (Ev_sub_w64 rfl rfl) rfl ?_
            refine T_val (Ev_build rfl (bld39_0i641i64 _ _)) rfl ?_
            refine T_val (Ev_build rfl (bld41_1ai64i64 _ _)) rfl ?_
            refine T_x (Wx_buildSlice rfl (bls24_1_0abi64i64 _ _ _) rfl (fun g122 => ?_))
            obtain ⟨h123, hx124⟩ := gd_some hx120
            refine T_h (Wh_appendP e_api_Cell (s87.2.2.1) [(⟨false, (⟨w64 (s87.2.2.2 + r107.2), w64 ((w64 ((w64 (s87.2.2.2 + r107.2)) + r98.2)) - 1)⟩ : S_api_Span)⟩ : S_api_Cell)] rfl rfl rfl elm24 (fun _ => rfl) (i' := 0) rfl rfl rfl rfl h123 rfl (fun _ _ => .there (.there (.here))) (fun _ _ => .drop .refl) (by decide) (fun A125 c126 => ?_))
            refine T_val (Ev_assign rfl) rfl ?_
            refine T_nil ?_
            refine T_next ?_
            refine T_exit ?_
            refine T_outX ?_
            refine T_here ?_
            exact T_roundP (r107.1.b, s31, s87.2.2.1 ++ [(⟨false, (⟨w64 (s87.2.2.2 + r107.2), w64 ((w64 ((w64 (s87.2.2.2 + r107.2)) + r98.2)) - 1)⟩ : S_api_Span)⟩ : S_api_Cell)], w64 (s87.2.2.2 + r107.2)) (A110, c111, A125, c126) hx124 ((by exact ⟨Has.len' hs113, trivial⟩)) (by exact .cons rfl (.cons rfl (.cons rfl (.cons rfl (.nil))))) (by exact .pick 1 rfl (.pick 0 rfl (.refl)))
          · skip
            refine T_seq ?_
            refine T_reg ?_
            refine T_val (Ev_move rfl) rfl ?_
            obtain ⟨r114, h115, hx116⟩ := bnd_some hx109
            refine T_x (Wx_callL rfl (fun w1 hw1 => model_validCoord_ok (w64 (s87.2.2.2 + r107.2))  h115 w1) rfl ?_)
            rintro _ _ hlo ⟨rfl, rfl, -⟩
            refine T_app0 ?_
            refine T_val (Ev_not rfl) rfl ?_
            refine T_nil ?_
            refine T_next ?_
            refine T_caseNB (s := 32) rfl (fun h117 => ?_) (fun h117 => ?_)
            · have hx118 := ite_bf h117 hx116
              refine T_condT rfl ?_
              refine T_reg ?_
              refine T_val (Ev_move rfl) rfl ?_
              refine T_val (Ev_nilCheck rfl) rfl ?_
              refine T_val (Ev_field rfl fld131_1 rfl) rfl ?_
              refine T_h (Wh_store rfl rfl rfl (.here) (.skip (.put (.done))) rfl (List.cons_ne_nil _ _) one4.2 ?_)
              refine T_nil ?_
              exact T_metP true () hx118 trivial (by exact .cons rfl (.cons rfl (.cons rfl (.cons rfl (.cons rfl (.nil)))))) (by exact .pick 0 rfl (.pick 0 rfl (.refl)))
            · have hx119 := ite_t h117 hx116
              refine T_condF rfl ?_
              refine T_skip ?_
              exact T_metP r107.1.bad () hx119 trivial (by exact .cons rfl (.cons rfl (.cons rfl (.cons rfl (.cons rfl (.nil)))))) (by exact .pick 0 rfl (.pick 0 rfl (.refl)))
        · have hx127 := ite_f h105 hx100
          refine T_condF rfl ?_
          refine T_skip ?_
          refine T_next ?_
          refine T_seq ?_
          refine T_reg ?_
          refine T_val (Ev_move rfl) rfl ?_
          obtain ⟨r128, h129, hx130⟩ := bnd_some hx127
          refine T_h (Wh_callK rfl (by exact .pick 0 rfl (.refl)) (by exact (SubE.appC (SubE.tail (hKf)) (SubE.nil))) (model_reader_number_ok r98.1 (Has.len' hs104) h129 (K := (K ++ []))) rfl ?_)
          rintro _ _ ⟨A131, c132, rfl, rfl, hs133, -⟩
          refine T_app1 ?_
          have hs134 : Has (K ++ []) _ _ _ _ _ _ := Has.assoc hs133
          refine T_val (Ev_assign rfl) rfl ?_
          refine T_nil ?_
          refine T_next ?_
          obtain ⟨j36, hj36, hx130⟩ := jn_some hx130
          refine T_cutP (τ := Bool) (γ := Unit) (J := j36) (out := x87) (fun s36 y36 => [(0, .pointer (some ⟨g0_0, 0, none⟩)), (1, .int .i64 (p1)), (5, .slice (y87.2.2.1) ((s87.2.2.1).length) (y87.2.2.2)), (6, .int .i64 (s87.2.2.2)), (9, .int .i64 (r128.2))]) (fun s36 y36 => [.m g0_0 131 [.slice (A131) ((r128.1.b).length) (c132), .bool (s36)], .r (y87.2.2.1) ((s87.2.2.1).length) (y87.2.2.2) 41 3 ((s87.2.2.1).flatMap e_api_Cell)] ++ Lf) (fun s36 y36 => True) ?_ ?_
          · intro s36 y36 hx143 hG144
            subst hj36
            refine T_seq ?_
            refine T_reg ?_
            refine T_val (Ev_assign rfl) rfl ?_
            refine T_nil ?_
            refine T_next ?_
            refine T_block ?_
            obtain ⟨t159, hl159, ho159⟩ := bnd_some hx143
            refine T_loopP (σ := (List S_api_Cell) × Int) (γ := (Option Addr) × Nat) hl159 (fun s159 y159 => [(0, .pointer (some ⟨g0_0, 0, none⟩)), (1, .int .i64 (p1)), (5, .slice (y159.1) ((s159.1).length) (y159.2)), (6, .int .i64 (s87.2.2.2)), (9, .int .i64 (r128.2)), (10, .int .i64 (s159.2))]) (fun s159 y159 => [.m g0_0 131 [.slice (A131) ((r128.1.b).length) (c132), .bool (s36)], .r (y159.1) ((s159.1).length) (y159.2) 41 3 ((s159.1).flatMap e_api_Cell)] ++ Lf) (fun s159 y159 => True) (y87.2.2.1, y87.2.2.2) trivial (by exact .cons rfl (.cons rfl (.cons rfl (.cons rfl (.cons rfl (.cons rfl (.nil))))))) (by exact .pick 0 rfl (.pick 0 rfl (.refl))) ?_
            intro s159 y159 hG159 x159 hx159 ht159
            unfold model_reader_cells_l15 at hx159
            refine T_seq ?_
            obtain ⟨j43, hj43, hx159⟩ := jn_some hx159
            refine T_cutP (τ := Bool) (γ := Unit) (J := j43) (out := x159) (fun s43 y43 => [(0, .pointer (some ⟨g0_0, 0, none⟩)), (1, .int .i64 (p1)), (5, .slice (y159.1) ((s159.1).length) (y159.2)), (6, .int .i64 (s87.2.2.2)), (9, .int .i64 (r128.2)), (10, .int .i64 (s159.2)), (71, .bool (s43))]) (fun s43 y43 => [.m g0_0 131 [.slice (A131) ((r128.1.b).length) (c132), .bool (s36)], .r (y159.1) ((s159.1).length) (y159.2) 41 3 ((s159.1).flatMap e_api_Cell)] ++ Lf) (fun s43 y43 => True) ?_ ?_
            · intro s43 y43 hx163 hG164
              subst hj43
              refine T_caseB (s := 71) rfl (fun h165 => ?_) (fun h165 => ?_)
              · have hx166 := ite_t h165 hx163
                refine T_condT rfl ?_
                refine T_skip ?_
                refine T_next ?_
                refine T_seq ?_
                refine T_block ?_
                refine T_reg ?_
                refine T_val (Ev_move rfl) rfl ?_
                refine T_val (Ev_build rfl (bld41_0b _)) rfl ?_
                refine T_x (Wx_buildSlice rfl (bls24_1_0abi64i64 _ _ _) rfl (fun g168 => ?_))
                obtain ⟨h169, hx170⟩ := gd_some hx166
                refine T_h (Wh_appendP e_api_Cell (s159.1) [(⟨true, (⟨0, 0⟩ : S_api_Span)⟩ : S_api_Cell)] rfl rfl rfl elm24 (fun _ => rfl) (i' := 0) rfl rfl rfl rfl h169 rfl (fun _ _ => .there (.there (.here))) (fun _ _ => .drop .refl) (by decide) (fun A171 c172 => ?_))
                refine T_val (Ev_assign rfl) rfl ?_
                refine T_nil ?_
                refine T_inN ?_
                refine T_next ?_
                refine T_reg ?_
                refine T_val (Ev_move rfl) rfl ?_
                refine T_val (Ev_add_w64 rfl rfl) rfl ?_
                refine T_val (Ev_assign rfl) rfl ?_
                refine T_nil ?_
                exact T_roundP (s159.1 ++ [(⟨true, (⟨0, 0⟩ : S_api_Span)⟩ : S_api_Cell)], w64 (s159.2 + 1)) (A171, c172) hx170 trivial (by exact .cons rfl (.cons rfl (.cons rfl (.cons rfl (.cons rfl (.cons rfl (.nil))))))) (by exact .pick 0 rfl (.pick 0 rfl (.refl)))
              · have hx167 := ite_bf h165 hx163
                refine T_condF rfl ?_
                refine T_exit ?_
                refine T_outX ?_
                obtain rfl := exit_eq ht159 hx167
                refine T_outX ?_
                refine T_here ?_
                refine T_inN ?_
                exact T_roundP (r128.1.b, s36, s159.1, s87.2.2.2) (A131, c132, y159.1, y159.2) ho159 ((by exact ⟨Has.len' hs134, trivial⟩)) (by exact .cons rfl (.cons rfl (.cons rfl (.cons rfl (.nil))))) (by exact .pick 1 rfl (.pick 0 rfl (.refl)))
            · skip
              refine T_reg ?_
              refine T_val (Ev_move rfl) rfl ?_
              refine T_val (Ev_move rfl) rfl ?_
              refine T_val (Ev_lss rfl rfl) rfl ?_
              refine T_val (Ev_move rfl) rfl ?_
              refine T_caseP (s := 65) rfl (fun h160 => ?_) (fun h160 => ?_)
              · have hx161 := ite_t h160 hx159
                refine T_valG rfl rfl rfl (Ev_move rfl) rfl ?_
                refine T_valG rfl rfl rfl (Ev_nilCheck rfl) rfl ?_
                refine T_valG rfl rfl rfl (Ev_field rfl fld131_1 rfl) rfl ?_
                refine T_valG rfl rfl rfl (Ev_load1 rfl (i := 0) rfl rfl one4) rfl ?_
                refine T_valG rfl rfl rfl (Ev_not rfl) rfl ?_
                refine T_val (Ev_pickT rfl rfl) rfl ?_
                refine T_nil ?_
                exact T_metP (!(s36)) () hx161 trivial (by exact .cons rfl (.cons rfl (.cons rfl (.cons rfl (.cons rfl (.cons rfl (.cons rfl (.nil)))))))) (by exact .pick 0 rfl (.pick 0 rfl (.refl)))
              · have hx162 := ite_f h160 hx159
                refine T_skipG rfl rfl rfl rfl rfl ?_
                refine T_skipG rfl rfl rfl rfl rfl ?_
                refine T_skipG rfl rfl rfl rfl rfl ?_
                refine T_skipG rfl rfl rfl rfl rfl ?_
                refine T_skipG rfl rfl rfl rfl rfl ?_
                refine T_val (Ev_pickF rfl rfl) rfl ?_
                refine T_nil ?_
                exact T_metP false () hx162 trivial (by exact .cons rfl (.cons rfl (.cons rfl (.cons rfl (.cons rfl (.cons rfl (.cons rfl (.nil)))))))) (by exact .pick 0 rfl (.pick 0 rfl (.refl)))
          · skip
            obtain ⟨j37, hj37, hx130⟩ := jn_some hx130
            refine T_cutP (τ := Bool) (γ := Unit) (J := j37) (out := x87) (fun s37 y37 => [(0, .pointer (some ⟨g0_0, 0, none⟩)), (1, .int .i64 (p1)), (5, .slice (y87.2.2.1) ((s87.2.2.1).length) (y87.2.2.2)), (6, .int .i64 (s87.2.2.2)), (9, .int .i64 (r128.2)), (58, .bool (s37))]) (fun s37 y37 => [.m g0_0 131 [.slice (A131) ((r128.1.b).length) (c132), .bool (r128.1.bad)], .r (y87.2.2.1) ((s87.2.2.1).length) (y87.2.2.2) 41 3 ((s87.2.2.1).flatMap e_api_Cell)] ++ Lf) (fun s37 y37 => True) ?_ ?_
            · intro s37 y37 hx138 hG139
              subst hj37
              refine T_caseB (s := 58) rfl (fun h140 => ?_) (fun h140 => ?_)
              · have hx141 := ite_t h140 hx138
                refine T_condT rfl ?_
                refine T_reg ?_
                refine T_val (Ev_move rfl) rfl ?_
                refine T_val (Ev_nilCheck rfl) rfl ?_
                refine T_val (Ev_field rfl fld131_1 rfl) rfl ?_
                refine T_h (Wh_store rfl rfl rfl (.here) (.skip (.put (.done))) rfl (List.cons_ne_nil _ _) one4.2 ?_)
                refine T_nil ?_
                exact T_metP true () hx141 trivial (by exact .cons rfl (.cons rfl (.cons rfl (.cons rfl (.cons rfl (.nil)))))) (by exact .pick 0 rfl (.pick 0 rfl (.refl)))
              · have hx142 := ite_bf h140 hx138
                refine T_condF rfl ?_
                refine T_skip ?_
                exact T_metP r128.1.bad () hx142 trivial (by exact .cons rfl (.cons rfl (.cons rfl (.cons rfl (.cons rfl (.nil)))))) (by exact .pick 0 rfl (.pick 0 rfl (.refl)))
            · skip
              refine T_reg ?_
              refine T_val (Ev_move rfl) rfl ?_
              refine T_val (Ev_lss rfl rfl) rfl ?_
              refine T_val (Ev_move rfl) rfl ?_
              refine T_caseP (s := 51) rfl (fun h135 => ?_) (fun h135 => ?_)
              · have hx136 := ite_t h135 hx130
                refine T_skipG rfl rfl rfl rfl rfl ?_
                refine T_skipG rfl rfl rfl rfl rfl ?_
                refine T_skipG rfl rfl rfl rfl rfl ?_
                refine T_skipG rfl rfl rfl rfl rfl ?_
                refine T_skipG rfl rfl rfl rfl rfl ?_
                refine T_skipG rfl rfl rfl rfl rfl ?_
                refine T_val (Ev_pickT rfl rfl) rfl ?_
                refine T_nil ?_
                exact T_metP true () hx136 trivial (by exact .cons rfl (.cons rfl (.cons rfl (.cons rfl (.cons rfl (.cons rfl (.nil))))))) (by exact .pick 0 rfl (.pick 0 rfl (.refl)))
              · have hx137 := ite_f h135 hx130
                refine T_valG rfl rfl rfl (Ev_move rfl) rfl ?_
                refine T_valG rfl rfl rfl (Ev_move rfl) rfl ?_
                refine T_valG rfl rfl rfl (Ev_move rfl) rfl ?_
                refine T_valG rfl rfl rfl (Ev_len rfl 41 Try.underlying24) rfl ?_
                refine T_valG rfl rfl rfl (Ev_sub_w64 rfl rfl) rfl ?_
                refine T_valG rfl rfl rfl (Ev_gtr rfl rfl) rfl ?_
                refine T_val (Ev_pickF rfl rfl) rfl ?_
                refine T_nil ?_
                exact T_metP (decide ((w64 (p1 - ((((s87.2.2.1).length : Nat) : Int)))) < r128.2)) () hx137 trivial (by exact .cons rfl (.cons rfl (.cons rfl (.cons rfl (.cons rfl (.cons rfl (.nil))))))) (by exact .pick 0 rfl (.pick 0 rfl (.refl)))
      · have hx97 := ite_bf h95 hx93
        refine T_condF rfl ?_
        refine T_exit ?_
        refine T_outX ?_
        obtain rfl := exit_eq ht87 hx97
        refine T_outX ?_
        refine T_here ?_
        exact T_metP (s87.1, s87.2.1, s87.2.2.1) (y87.1, y87.2.1, y87.2.2.1, y87.2.2.2) ho87 ((by exact ⟨Has.len' hs89, trivial⟩)) (by exact .cons rfl (.cons rfl (.nil))) (by exact .pick 0 rfl (.pick 0 rfl (.refl)))
    · skip
      refine T_reg ?_
      refine T_val (Ev_move rfl) rfl ?_
      refine T_val (Ev_len rfl 41 Try.underlying24) rfl ?_
      refine T_val (Ev_move rfl) rfl ?_
      refine T_val (Ev_lss rfl rfl) rfl ?_
      refine T_val (Ev_move rfl) rfl ?_
      refine T_caseP (s := 15) rfl (fun h90 => ?_) (fun h90 => ?_)
      · have hx91 := ite_t h90 hx87
        refine T_valG rfl rfl rfl (Ev_move rfl) rfl ?_
        refine T_valG rfl rfl rfl (Ev_nilCheck rfl) rfl ?_
        refine T_valG rfl rfl rfl (Ev_field rfl fld131_1 rfl) rfl ?_
        refine T_valG rfl rfl rfl (Ev_load1 rfl (i := 1) rfl rfl one4) rfl ?_
        refine T_valG rfl rfl rfl (Ev_not rfl) rfl ?_
        refine T_val (Ev_pickT rfl rfl) rfl ?_
        refine T_nil ?_
        exact T_metP (!(s87.2.1)) () hx91 trivial (by exact .cons rfl (.cons rfl (.cons rfl (.cons rfl (.cons rfl (.nil)))))) (by exact .pick 0 rfl (.pick 0 rfl (.refl)))
      · have hx92 := ite_f h90 hx87
        refine T_skipG rfl rfl rfl rfl rfl ?_
        refine T_skipG rfl rfl rfl rfl rfl ?_
        refine T_skipG rfl rfl rfl rfl rfl ?_
        refine T_skipG rfl rfl rfl rfl rfl ?_
        refine T_skipG rfl rfl rfl rfl rfl ?_
        refine T_val (Ev_pickF rfl rfl) rfl ?_
        refine T_nil ?_
        exact T_metP false () hx92 trivial (by exact .cons rfl (.cons rfl (.cons rfl (.cons rfl (.cons rfl (.nil)))))) (by exact .pick 0 rfl (.pick 0 rfl (.refl)))
set_option maxRecDepth 100000 in
theorem model_Decode_ok (p0 : List Int) {K : List Ent} {A0_0 : Option Addr} {c0_0 : Nat} (ha0 : Has K A0_0 (p0).length c0_0 1 e_u8 (p0)) {r : S_api_Grid × Int} (hx : model_Decode p0 = some r) (w : World) (hK : ∀ e ∈ K, Ent.ok w e) : CtL Try.prog 46 [.slice (A0_0) ((p0).length) (c0_0)] w fun v Ln => ∃ (A0 : Option Addr) (c0 : Nat), v = .tuple #[.agg #[.int .i64 (r.1.Raster.X0), .int .i64 (r.1.Raster.Y0), .int .i64 (r.1.Raster.Step), .int .i64 (r.1.Raster.NX), .int .i64 (r.1.Raster.NY), .slice (A0) ((r.1.Cells).length) (c0)], .int .i64 (r.2)] ∧ Ln = [.r A0 (r.1.Cells).length c0 41 3 ((r.1.Cells).flatMap e_api_Cell)] ∧ True := by
  have ha0' := Has.up0 ha0
  refine CtL.mk 77 Try.func46 rfl Try.ntmps46 (by kernel_rfl) rfl ?_
  show T 77 _ [(0, .slice (A0_0) ((p0).length) (c0_0))] _
  unfold model_Decode at hx
  refine T_seq ?_
  refine T_reg ?_
  refine T_x (Wx_alloc zer26 rfl (fun g1 => ?_))
  refine T_val (Ev_assign rfl) rfl ?_
  refine T_nil ?_
  refine T_next ?_
  refine T_seq ?_
  refine T_seq ?_
  refine T_reg ?_
  refine T_val (Ev_move rfl) rfl ?_
  refine T_val (Ev_len rfl 5 Try.underlying73) rfl ?_
  refine T_val (Ev_lss rfl rfl) rfl ?_
  refine T_nil ?_
  refine T_next ?_
  refine T_caseP (s := 8) rfl (fun h2 => ?_) (fun h2 => ?_)
  · have hx3 := ite_t h2 hx
    refine T_condT rfl ?_
    refine T_seq ?_
    refine T_reg ?_
    refine T_val (Ev_build rfl (bld26_)) rfl ?_
    refine T_h (Wh_store rfl rfl rfl (.here) (.put (.put (.put (.put (.put (.put (.done))))))) rfl (List.cons_ne_nil _ _) agg26.2 ?_)
    refine T_val (Ev_assign rfl) rfl ?_
    refine T_nil ?_
    refine T_next ?_
    refine T_retc ?_
    refine T_outR ?_
    refine T_none 41 3 ?_
    obtain rfl := Option.some.inj hx3
    exact T_retP (rs := [.cell 2 26, .tmp 3]) Try.results46 (.cell rfl (i := 1) rfl rfl agg26 (.tmp rfl (.nil))) (Ln := [.r (none) (0) (0) 41 3 ((([] : List S_api_Cell)).flatMap e_api_Cell)]) ⟨none, 0, rfl, rfl, trivial⟩ (loCons rfl (loNil)) (by exact .pick 0 rfl (.drop 0 rfl (.refl)))
  · have hx4 := ite_f h2 hx
    refine T_condF rfl ?_
    refine T_skip ?_
    refine T_next ?_
    refine T_seq ?_
    refine T_reg ?_
    refine T_val (Ev_move rfl) rfl ?_
    refine T_val (Ev_move rfl) rfl ?_
    refine T_val (Ev_len rfl 5 Try.underlying73) rfl ?_
    refine T_val (Ev_sub_w64 rfl rfl) rfl ?_
    obtain ⟨h6, hx7⟩ := gd_some hx4
    have hs5 := Has.subH ha0' h6.1 h6.2
    refine T_val (Ev_subH rfl rfl slc73 h6.1 (by have := Has.nc ha0'; omega)) rfl ?_
    refine T_val (Ev_build rfl (bld131_0s _ _ _)) rfl ?_
    refine T_x (Wx_box rfl rfl rfl (fun g8 => ?_))
    refine T_val (Ev_assign rfl) rfl ?_
    refine T_nil ?_
    refine T_next ?_
    refine T_seq ?_
    refine T_reg ?_
    refine T_x (Wx_alloc zer26 rfl (fun g9 => ?_))
    refine T_nil ?_
    refine T_next ?_
    refine T_seq ?_
    refine T_reg ?_
    refine T_val (Ev_move rfl) rfl ?_
    refine T_ent (.there (.here)) (e' := .m g8 131 [.slice (A0_0) ((subl p0 0 (w64 (((((p0).length : Nat) : Int)) - 4))).length) (c0_0), .bool (false)]) (by first | (rw [show (Int.toNat (w64 (((((p0).length : Nat) : Int)) - 4))) = (subl p0 0 (w64 (((((p0).length : Nat) : Int)) - 4))).length from (Has.len hs5).symm]; done) | rfl) ?_
    obtain ⟨r10, h11, hx12⟩ := bnd_some hx7
    have hw13 := Has.low (K := K) (E := []) (hs5) hK
    refine T_h (Wh_callK rfl (by exact .pick 1 rfl (.refl)) (by exact (SubE.cons2 (i := 2) rfl (SubE.nil))) (model_reader_signed_ok (⟨subl p0 0 (w64 (((((p0).length : Nat) : Int)) - 4)), false⟩ : S_model_reader) (Has.len' hw13) h11 (K := ([.old w] : List Ent))) rfl ?_)
    rintro _ _ ⟨A14, c15, rfl, rfl, hs16, -⟩
    refine T_app1 ?_
    refine T_val (Ev_field rfl fld26_0 rfl) rfl ?_
    refine T_val (Ev_field rfl fld23_0 rfl) rfl ?_
    refine T_h (Wh_store rfl rfl rfl (.there (.here)) (.put (.done)) rfl (List.cons_ne_nil _ _) one3.2 ?_)
    refine T_nil ?_
    refine T_next ?_
    refine T_seq ?_
    refine T_reg ?_
    refine T_val (Ev_move rfl) rfl ?_
    obtain ⟨r17, h18, hx19⟩ := bnd_some hx12
    refine T_h (Wh_callK rfl (by exact .pick 0 rfl (.refl)) (by exact (SubE.cons2 (i := 2) rfl (SubE.nil))) (model_reader_signed_ok r10.1 (Has.len' hs16) h18 (K := ([.old w] : List Ent))) rfl ?_)
    rintro _ _ ⟨A20, c21, rfl, rfl, hs22, -⟩
    refine T_app1 ?_
    refine T_val (Ev_field rfl fld26_0 rfl) rfl ?_
    refine T_val (Ev_field rfl fld23_1 rfl) rfl ?_
    refine T_h (Wh_store rfl rfl rfl (.there (.here)) (.skip (.put (.done))) rfl (List.cons_ne_nil _ _) one3.2 ?_)
    refine T_nil ?_
    refine T_next ?_
    refine T_seq ?_
    refine T_reg ?_
    refine T_val (Ev_move rfl) rfl ?_
    obtain ⟨r23, h24, hx25⟩ := bnd_some hx19
    refine T_h (Wh_callK rfl (by exact .pick 0 rfl (.refl)) (by exact (SubE.cons2 (i := 2) rfl (SubE.nil))) (model_reader_number_ok r17.1 (Has.len' hs22) h24 (K := ([.old w] : List Ent))) rfl ?_)
    rintro _ _ ⟨A26, c27, rfl, rfl, hs28, -⟩
    refine T_app1 ?_
    refine T_val (Ev_field rfl fld26_0 rfl) rfl ?_
    refine T_val (Ev_field rfl fld23_2 rfl) rfl ?_
    refine T_h (Wh_store rfl rfl rfl (.there (.here)) (.skip (.skip (.put (.done)))) rfl (List.cons_ne_nil _ _) one3.2 ?_)
    refine T_nil ?_
    refine T_next ?_
    refine T_seq ?_
    refine T_reg ?_
    refine T_val (Ev_move rfl) rfl ?_
    obtain ⟨r29, h30, hx31⟩ := bnd_some hx25
    refine T_h (Wh_callK rfl (by exact .pick 0 rfl (.refl)) (by exact (SubE.cons2 (i := 2) rfl (SubE.nil))) (model_reader_number_ok r23.1 (Has.len' hs28) h30 (K := ([.old w] : List Ent))) rfl ?_)
    rintro _ _ ⟨A32, c33, rfl, rfl, hs34, -⟩
    refine T_app1 ?_
    refine T_val (Ev_field rfl fld26_0 rfl) rfl ?_
    refine T_val (Ev_field rfl fld23_3 rfl) rfl ?_
    refine T_h (Wh_store rfl rfl rfl (.there (.here)) (.skip (.skip (.skip (.put (.done))))) rfl (List.cons_ne_nil _ _) one3.2 ?_)
    refine T_nil ?_
    refine T_next ?_
    refine T_seq ?_
    refine T_reg ?_
    refine T_val (Ev_move rfl) rfl ?_
    obtain ⟨r35, h36, hx37⟩ := bnd_some hx31
    refine T_h (Wh_callK rfl (by exact .pick 0 rfl (.refl)) (by exact (SubE.cons2 (i := 2) rfl (SubE.nil))) (model_reader_number_ok r29.1 (Has.len' hs34) h36 (K := ([.old w] : List Ent))) rfl ?_)
    rintro _ _ ⟨A38, c39, rfl, rfl, hs40, -⟩
    refine T_app1 ?_
    refine T_val (Ev_field rfl fld26_0 rfl) rfl ?_
    refine T_val (Ev_field rfl fld23_4 rfl) rfl ?_
    refine T_h (Wh_store rfl rfl rfl (.there (.here)) (.skip (.skip (.skip (.skip (.put (.done)))))) rfl (List.cons_ne_nil _ _) one3.2 ?_)
    refine T_nil ?_
    refine T_next ?_
    refine T_seq ?_
    obtain ⟨j13, hj13, hx37⟩ := jn_some hx37
    refine T_cutP (τ := Bool) (γ := Unit) (J := j13) (out := r) (fun s13 y13 => [(0, .slice (A0_0) ((p0).length) (c0_0)), (2, .pointer (some ⟨g1, 0, none⟩)), (4, .pointer (some ⟨g8, 0, none⟩)), (5, .pointer (some ⟨g9, 0, none⟩)), (46, .bool (s13))]) (fun s13 y13 => [.m g8 131 [.slice (A38) ((r35.1.b).length) (c39), .bool (r35.1.bad)], .m g9 26 [.int .i64 (r10.2), .int .i64 (r17.2), .int .i64 (r23.2), .int .i64 (r29.2), .int .i64 (r35.2), .slice (none) (0) (0)], .m g1 26 [.int .i64 (0), .int .i64 (0), .int .i64 (0), .int .i64 (0), .int .i64 (0), .slice (none) (0) (0)]] ++ [.old w]) (fun s13 y13 => True) ?_ ?_
    · intro s13 y13 hx47 hG48
      subst hj13
      refine T_caseB (s := 46) rfl (fun h49 => ?_) (fun h49 => ?_)
      · have hx50 := ite_t h49 hx47
        refine T_condT rfl ?_
        refine T_seq ?_
        refine T_reg ?_
        refine T_val (Ev_build rfl (bld26_)) rfl ?_
        refine T_h (Wh_store rfl rfl rfl (.there (.there (.here))) (.put (.put (.put (.put (.put (.put (.done))))))) rfl (List.cons_ne_nil _ _) agg26.2 ?_)
        refine T_val (Ev_assign rfl) rfl ?_
        refine T_nil ?_
        refine T_next ?_
        refine T_retc ?_
        refine T_outR ?_
        refine T_none 41 3 ?_
        obtain rfl := Option.some.inj hx50
        exact T_retP (rs := [.cell 2 26, .tmp 3]) Try.results46 (.cell rfl (i := 3) rfl rfl agg26 (.tmp rfl (.nil))) (Ln := [.r (none) (0) (0) 41 3 ((([] : List S_api_Cell)).flatMap e_api_Cell)]) ⟨none, 0, rfl, rfl, trivial⟩ (loCons rfl (loNil)) (by exact .pick 0 rfl (.drop 0 rfl (.drop 0 rfl (.drop 0 rfl (.refl)))))
      · have hx51 := ite_bf h49 hx47
        refine T_condF rfl ?_
        refine T_skip ?_
        refine T_next ?_
        refine T_seq ?_
        refine T_reg ?_
        refine T_val (Ev_move rfl) rfl ?_
        refine T_val (Ev_field rfl fld26_0 rfl) rfl ?_
        refine T_val (Ev_field rfl fld23_3 rfl) rfl ?_
        refine T_val (Ev_load1 rfl (i := 1) rfl rfl one3) rfl ?_
        refine T_val (Ev_field rfl fld26_0 rfl) rfl ?_
        refine T_val (Ev_field rfl fld23_4 rfl) rfl ?_
        refine T_val (Ev_load1 rfl (i := 1) rfl rfl one3) rfl ?_
        refine T_val (Ev_mul_w64 rfl rfl) rfl ?_
        obtain ⟨r52, h53, hx54⟩ := bnd_some hx51
        refine T_h (Wh_callK rfl (by exact .pick 0 rfl (.refl)) (by exact (SubE.cons2 (i := 2) rfl (SubE.nil))) (model_reader_cells_ok r35.1 (w64 (r29.2 * r35.2)) (Has.len' hs40) h53 (K := ([.old w] : List Ent))) rfl ?_)
        rintro _ _ ⟨A55, c56, A57, c58, rfl, rfl, hs59, -⟩
        refine T_app2 ?_
        refine T_val (Ev_field rfl fld26_1 rfl) rfl ?_
        refine T_h (Wh_store rfl rfl rfl (.there (.there (.here))) (.skip (.skip (.skip (.skip (.skip (.put (.done))))))) rfl (List.cons_ne_nil _ _) one24.2 ?_)
        refine T_nil ?_
        refine T_next ?_
        refine T_seq ?_
        obtain ⟨j17, hj17, hx54⟩ := jn_some hx54
        refine T_cutP (τ := Bool) (γ := Unit) (J := j17) (out := r) (fun s17 y17 => [(2, .pointer (some ⟨g1, 0, none⟩)), (5, .pointer (some ⟨g9, 0, none⟩)), (74, .bool (s17))]) (fun s17 y17 => [.r (A57) ((r52.2).length) (c58) 41 3 ((r52.2).flatMap e_api_Cell), .m g9 26 [.int .i64 (r10.2), .int .i64 (r17.2), .int .i64 (r23.2), .int .i64 (r29.2), .int .i64 (r35.2), .slice (A57) ((r52.2).length) (c58)], .m g1 26 [.int .i64 (0), .int .i64 (0), .int .i64 (0), .int .i64 (0), .int .i64 (0), .slice (none) (0) (0)]] ++ [.old w]) (fun s17 y17 => True) ?_ ?_
        · intro s17 y17 hx81 hG82
          subst hj17
          refine T_caseB (s := 74) rfl (fun h83 => ?_) (fun h83 => ?_)
          · have hx84 := ite_t h83 hx81
            refine T_condT rfl ?_
            refine T_seq ?_
            refine T_reg ?_
            refine T_val (Ev_build rfl (bld26_)) rfl ?_
            refine T_h (Wh_store rfl rfl rfl (.there (.there (.here))) (.put (.put (.put (.put (.put (.put (.done))))))) rfl (List.cons_ne_nil _ _) agg26.2 ?_)
            refine T_val (Ev_assign rfl) rfl ?_
            refine T_nil ?_
            refine T_next ?_
            refine T_retc ?_
            refine T_outR ?_
            refine T_none 41 3 ?_
            obtain rfl := Option.some.inj hx84
            exact T_retP (rs := [.cell 2 26, .tmp 3]) Try.results46 (.cell rfl (i := 3) rfl rfl agg26 (.tmp rfl (.nil))) (Ln := [.r (none) (0) (0) 41 3 ((([] : List S_api_Cell)).flatMap e_api_Cell)]) ⟨none, 0, rfl, rfl, trivial⟩ (loCons rfl (loNil)) (by exact .pick 0 rfl (.drop 0 rfl (.drop 0 rfl (.drop 0 rfl (.refl)))))
          · have hx85 := ite_bf h83 hx81
            refine T_condF rfl ?_
            refine T_skip ?_
            refine T_next ?_
            refine T_seq ?_
            refine T_reg ?_
            refine T_val (Ev_loadK rfl (i := 1) rfl rfl agg26) rfl ?_
            refine T_h (Wh_store rfl rfl rfl (.there (.there (.here))) (.put (.put (.put (.put (.put (.put (.done))))))) rfl (List.cons_ne_nil _ _) agg26.2 ?_)
            refine T_val (Ev_assign rfl) rfl ?_
            refine T_nil ?_
            refine T_next ?_
            refine T_retc ?_
            obtain rfl := Option.some.inj hx85
            exact T_retP (rs := [.cell 2 26, .tmp 3]) Try.results46 (.cell rfl (i := 2) rfl rfl agg26 (.tmp rfl (.nil))) (Ln := [.r (A57) ((r52.2).length) (c58) 41 3 ((r52.2).flatMap e_api_Cell)]) ⟨A57, c58, rfl, rfl, trivial⟩ (loCons rfl (loNil)) (by exact .pick 0 rfl (.drop 0 rfl (.drop 0 rfl (.refl))))
        · skip
          refine T_draw [0, 0, 0, 1, 0, 1, 2, 0, 0, 0, 1, 2, 1, 0, 1, 0, 0] [[], [0], [0, 1], [0, 1, 2], [0, 1, 2, 3], [0, 1, 2, 3, 4], [0, 1, 2, 3, 4, 5], [0, 1, 2, 3, 4, 5, 6], [0, 1, 2, 3, 4, 5, 6, 7], [0, 1, 2, 3, 4, 5, 6, 7, 8], [0, 1, 2, 3, 4, 5, 6, 7, 8, 9], [0, 1, 2, 3, 4, 5, 6, 7, 8, 9, 10], [0, 1, 2, 3, 4, 5, 6, 7, 8, 9, 10, 11], [0, 1, 2, 3, 4, 5, 6, 7, 8, 9], [0, 1, 2, 3, 4, 5, 6, 7, 8, 9, 13], [0, 1, 2, 3, 4, 5, 6, 7, 8, 9, 10, 11, 12, 13, 14], [0, 1, 2, 3, 4, 5, 6, 7, 8, 9, 10, 11, 12, 13, 14, 15]] (.q 0 (.q 1 (.q 2 (.q 3 (.q 4 (.q 5 (.e 6 (.q 7 (.q 8 (.q 9 (.q 10 (.q 13 (.q 14 (.e 11 (.q 12 (.q 15 (.q 16 (.done)))) (.stop)))))))) (.stop)))))))) mixed (by kernel_rfl) (by kernel_rfl) ?_
          refine P_p rfl rfl (Ev_move rfl) rfl ?_
          refine P_p rfl rfl (Ev_nilCheck rfl) rfl ?_
          refine P_p rfl rfl (Ev_field rfl fld131_1 rfl) rfl ?_
          refine P_q rfl rfl (Ev_load1 rfl (i := 0) rfl rfl one4) rfl ?_
          refine P_p rfl rfl (Ev_move rfl) rfl ?_
          refine T_caseB (s := 62) rfl (fun h60 => ?_) (fun h60 => ?_)
          · have hx61 := ite_t h60 hx54
            refine P_skip rfl rfl rfl rfl rfl rfl ?_
            refine P_skipE rfl rfl rfl rfl rfl rfl ?_ ?_
            rotate_left; exact P_stop
            refine P_skip rfl rfl rfl rfl rfl rfl ?_
            refine P_p rfl rfl (Ev_pickT rfl rfl) rfl ?_
            refine P_p rfl rfl (Ev_move rfl) rfl ?_
            refine P_skip rfl rfl rfl rfl rfl rfl ?_
            refine P_skip rfl rfl rfl rfl rfl rfl ?_
            refine P_skip rfl rfl rfl rfl rfl rfl ?_
            refine P_skipE rfl rfl rfl rfl rfl rfl ?_ ?_
            rotate_left; exact P_stop
            refine P_skip rfl rfl rfl rfl rfl rfl ?_
            refine P_skip rfl rfl rfl rfl rfl rfl ?_
            refine P_p rfl rfl (Ev_pickT rfl rfl) rfl ?_
            refine P_done ?_
            exact T_metP true () hx61 trivial (by exact .cons rfl (.cons rfl (.cons rfl (.nil)))) (by exact .pick 1 rfl (.pick 1 rfl (.pick 1 rfl (.drop 0 rfl (.refl)))))
          · have hx62 := ite_bf h60 hx54
            refine P_qG rfl rfl rfl rfl rfl (Ev_loadK rfl (i := 2) rfl rfl agg26) rfl ?_
            refine T_rowP (k := 1) rfl (by decide) (fun _ => rfl) (fun hn63 hs64 => ?_)
            obtain ⟨r65, h66, hx67⟩ := bnd_some hx62
            refine P_xG rfl rfl rfl rfl (Wx_callL rfl (fun w1 hw1 => model_Valid_ok (⟨(⟨r10.2, r17.2, r23.2, r29.2, r35.2⟩ : S_api_Raster), r52.2⟩ : S_api_Grid) (Has.len' hs64) h66 w1 (okAll (K := ([.r (A57) ((r52.2).length) (c58) 41 3 ((r52.2).flatMap e_api_Cell)] : List Ent)) (by exact (SubE.cons2 (i := 1) rfl (SubE.nil))) hw1)) rfl ?_) ?_
            rotate_left; exact P_stop
            rintro _ _ hlo ⟨rfl, rfl, -⟩
            refine T_app0 ?_
            refine P_pG rfl rfl rfl rfl rfl (Ev_not rfl) rfl ?_
            refine P_p rfl rfl (Ev_pickF rfl rfl) rfl ?_
            refine P_p rfl rfl (Ev_move rfl) rfl ?_
            refine T_caseNB (s := 67) rfl (fun h68 => ?_) (fun h68 => ?_)
            · have hx69 := ite_bf h68 hx67
              refine P_skip rfl rfl rfl rfl rfl rfl ?_
              refine P_skip rfl rfl rfl rfl rfl rfl ?_
              refine P_skip rfl rfl rfl rfl rfl rfl ?_
              refine P_skipE rfl rfl rfl rfl rfl rfl ?_ ?_
              rotate_left; exact P_stop
              refine P_skip rfl rfl rfl rfl rfl rfl ?_
              refine P_skip rfl rfl rfl rfl rfl rfl ?_
              refine P_p rfl rfl (Ev_pickT rfl rfl) rfl ?_
              refine P_done ?_
              exact T_metP true () hx69 trivial (by exact .cons rfl (.cons rfl (.cons rfl (.nil)))) (by exact .pick 1 rfl (.pick 1 rfl (.pick 1 rfl (.drop 0 rfl (.refl)))))
            · have hx70 := ite_t h68 hx67
              refine P_qG rfl rfl rfl rfl rfl (Ev_loadK rfl (i := 2) rfl rfl agg26) rfl ?_
              refine P_pG rfl rfl rfl rfl rfl (Ev_move rfl) rfl ?_
              have hw71 := Has.low (E := []) ha0' hK
              refine P_qG rfl rfl rfl rfl rfl (Ev_bytesStr (α := Int) rfl hw71 (SubE.cons2 (i := 4) rfl (SubE.nil)) (fun _ => rfl) Try.underlying73 Try.underlying5 Try.underlying9) rfl ?_
              refine T_rowP (k := 1) rfl (by decide) (fun _ => rfl) (fun hn72 hs73 => ?_)
              obtain ⟨r74, h75, hx76⟩ := bnd_some hx70
              refine P_xG rfl rfl rfl rfl (Wx_callL rfl (fun w1 hw1 => model_encode_ok (⟨(⟨r10.2, r17.2, r23.2, r29.2, r35.2⟩ : S_api_Raster), r52.2⟩ : S_api_Grid) (Has.len' hs73) h75 w1 (okAll (K := ([.r (A57) ((r52.2).length) (c58) 41 3 ((r52.2).flatMap e_api_Cell)] : List Ent)) (by exact (SubE.cons2 (i := 1) rfl (SubE.nil))) hw1)) rfl ?_) ?_
              rotate_left; exact P_stop
              rintro _ _ hlo ⟨A77, c78, rfl, rfl, -⟩
              refine T_app1 ?_
              refine T_rowP (k := 0) rfl (by decide) (fun _ => rfl) (fun hn79 hs80 => ?_)
              refine P_qG rfl rfl rfl rfl rfl (Ev_bytesStr (α := Int) rfl hs80 (SubE.cons2 (i := 0) rfl (SubE.nil)) (fun _ => rfl) Try.underlying73 Try.underlying5 Try.underlying9) rfl ?_
              refine P_pG rfl rfl rfl rfl rfl (Ev_neqStr rfl rfl) rfl ?_
              refine P_p rfl rfl (Ev_pickF rfl rfl) rfl ?_
              refine P_done ?_
              exact T_metP (!(((strOfNums r74)).toList == ((strOfNums p0)).toList)) () hx76 trivial (by exact .cons rfl (.cons rfl (.cons rfl (.nil)))) (by exact .pick 2 rfl (.pick 2 rfl (.pick 2 rfl (.drop 0 rfl (.drop 0 rfl (.refl))))))
    · skip
      refine T_reg ?_
      refine T_val (Ev_move rfl) rfl ?_
      refine T_val (Ev_nilCheck rfl) rfl ?_
      refine T_val (Ev_field rfl fld131_1 rfl) rfl ?_
      refine T_val (Ev_load1 rfl (i := 0) rfl rfl one4) rfl ?_
      refine T_val (Ev_move rfl) rfl ?_
      refine T_caseB (s := 41) rfl (fun h41 => ?_) (fun h41 => ?_)
      · have hx42 := ite_t h41 hx37
        refine T_skipG rfl rfl rfl rfl rfl ?_
        refine T_skipG rfl rfl rfl rfl rfl ?_
        refine T_skipG rfl rfl rfl rfl rfl ?_
        refine T_skipG rfl rfl rfl rfl rfl ?_
        refine T_val (Ev_pickT rfl rfl) rfl ?_
        refine T_nil ?_
        exact T_metP true () hx42 trivial (by exact .cons rfl (.cons rfl (.cons rfl (.cons rfl (.cons rfl (.nil)))))) (by exact .pick 0 rfl (.pick 0 rfl (.pick 0 rfl (.refl))))
      · have hx43 := ite_bf h41 hx37
        refine T_valG rfl rfl rfl (Ev_field rfl fld26_0 rfl) rfl ?_
        refine T_valG rfl rfl rfl (Ev_loadK rfl (i := 1) rfl rfl agg23) rfl ?_
        obtain ⟨r44, h45, hx46⟩ := bnd_some hx43
        refine T_xG rfl rfl rfl (Wx_callL rfl (fun w1 hw1 => model_ValidRaster_ok (⟨r10.2, r17.2, r23.2, r29.2, r35.2⟩ : S_api_Raster)  h45 w1) rfl ?_)
        rintro _ _ hlo ⟨rfl, rfl, -⟩
        refine T_app0 ?_
        refine T_valG rfl rfl rfl (Ev_not rfl) rfl ?_
        refine T_val (Ev_pickF rfl rfl) rfl ?_
        refine T_nil ?_
        exact T_metP (!(r44)) () hx46 trivial (by exact .cons rfl (.cons rfl (.cons rfl (.cons rfl (.cons rfl (.nil)))))) (by exact .pick 0 rfl (.pick 0 rfl (.pick 0 rfl (.refl))))
set_option maxRecDepth 100000 in
theorem lidarref02_ReadNumber_ok (p0 : List Int) {K : List Ent} {A0_0 : Option Addr} {c0_0 : Nat} (ha0 : Has K A0_0 (p0).length c0_0 1 e_u8 (p0)) {r : Int × Int × Int} (hx : lidarref02_ReadNumber p0 = some r) (w : World) (hK : ∀ e ∈ K, Ent.ok w e) : CtL Try.prog 122 [.slice (A0_0) ((p0).length) (c0_0)] w fun v Ln => v = .tuple #[.int .i64 (r.1), .int .i64 (r.2.1), .int .i64 (r.2.2)] ∧ Ln = [] ∧ True := by
  have ha0' := Has.up0 ha0
  refine CtL.mk 60 Try.func122 rfl Try.ntmps122 (by kernel_rfl) rfl ?_
  show T 60 _ [(0, .slice (A0_0) ((p0).length) (c0_0))] _
  unfold lidarref02_ReadNumber at hx
  refine T_seq ?_
  refine T_reg ?_
  refine T_val (Ev_assign rfl) rfl ?_
  refine T_val (Ev_assign rfl) rfl ?_
  refine T_val (Ev_assign rfl) rfl ?_
  refine T_nil ?_
  refine T_next ?_
  refine T_seq ?_
  refine T_reg ?_
  refine T_val (Ev_assign rfl) rfl ?_
  refine T_nil ?_
  refine T_next ?_
  obtain ⟨j3, hj3, hx⟩ := jn_some hx
  refine T_cutP (τ := Int) (γ := Unit) (J := j3) (out := r) (fun s3 y3 => [(0, .slice (A0_0) ((p0).length) (c0_0)), (5, .int .i64 (s3))]) (fun s3 y3 => [] ++ [.old w]) (fun s3 y3 => True) ?_ ?_
  · intro s3 y3 hx47 hG48
    subst hj3
    refine T_seq ?_
    refine T_seq ?_
    refine T_reg ?_
    refine T_val (Ev_move rfl) rfl ?_
    refine T_val (Ev_eql rfl rfl) rfl ?_
    refine T_nil ?_
    refine T_next ?_
    refine T_caseP (s := 26) rfl (fun h49 => ?_) (fun h49 => ?_)
    · have hx50 := ite_t h49 hx47
      refine T_condT rfl ?_
      refine T_seq ?_
      refine T_reg ?_
      refine T_val (Ev_assign rfl) rfl ?_
      refine T_val (Ev_assign rfl) rfl ?_
      refine T_val (Ev_assign rfl) rfl ?_
      refine T_nil ?_
      refine T_next ?_
      refine T_retc ?_
      refine T_outR ?_
      obtain rfl := Option.some.inj hx50
      exact T_retP (rs := [.tmp 2, .tmp 3, .tmp 4]) Try.results122 (.tmp rfl (.tmp rfl (.tmp rfl (.nil)))) (Ln := []) ⟨rfl, rfl, trivial⟩ (loNil) (by exact .refl)
    · have hx51 := ite_f h49 hx47
      refine T_condF rfl ?_
      refine T_skip ?_
      refine T_next ?_
      refine T_seq ?_
      refine T_seq ?_
      refine T_reg ?_
      refine T_val (Ev_move rfl) rfl ?_
      refine T_val (Ev_move rfl) rfl ?_
      refine T_val (Ev_len rfl 5 Try.underlying73) rfl ?_
      refine T_val (Ev_eql rfl rfl) rfl ?_
      refine T_nil ?_
      refine T_next ?_
      refine T_caseP (s := 30) rfl (fun h52 => ?_) (fun h52 => ?_)
      · have hx53 := ite_t h52 hx51
        refine T_condT rfl ?_
        refine T_seq ?_
        refine T_reg ?_
        refine T_val (Ev_assign rfl) rfl ?_
        refine T_val (Ev_assign rfl) rfl ?_
        refine T_val (Ev_assign rfl) rfl ?_
        refine T_nil ?_
        refine T_next ?_
        refine T_retc ?_
        refine T_outR ?_
        obtain rfl := Option.some.inj hx53
        exact T_retP (rs := [.tmp 2, .tmp 3, .tmp 4]) Try.results122 (.tmp rfl (.tmp rfl (.tmp rfl (.nil)))) (Ln := []) ⟨rfl, rfl, trivial⟩ (loNil) (by exact .refl)
      · have hx54 := ite_f h52 hx51
        refine T_condF rfl ?_
        refine T_skip ?_
        refine T_next ?_
        refine T_seq ?_
        obtain ⟨j15, hj15, hx54⟩ := jn_some hx54
        refine T_cutP (τ := Bool) (γ := Unit) (J := j15) (out := r) (fun s15 y15 => [(0, .slice (A0_0) ((p0).length) (c0_0)), (5, .int .i64 (s3)), (39, .bool (s15))]) (fun s15 y15 => [] ++ [.old w]) (fun s15 y15 => True) ?_ ?_
        · intro s15 y15 hx69 hG70
          subst hj15
          refine T_caseB (s := 39) rfl (fun h71 => ?_) (fun h71 => ?_)
          · have hx72 := ite_t h71 hx69
            refine T_condT rfl ?_
            refine T_seq ?_
            refine T_reg ?_
            refine T_val (Ev_assign rfl) rfl ?_
            refine T_val (Ev_assign rfl) rfl ?_
            refine T_val (Ev_assign rfl) rfl ?_
            refine T_nil ?_
            refine T_next ?_
            refine T_retc ?_
            refine T_outR ?_
            obtain rfl := Option.some.inj hx72
            exact T_retP (rs := [.tmp 2, .tmp 3, .tmp 4]) Try.results122 (.tmp rfl (.tmp rfl (.tmp rfl (.nil)))) (Ln := []) ⟨rfl, rfl, trivial⟩ (loNil) (by exact .refl)
          · have hx73 := ite_bf h71 hx69
            refine T_condF rfl ?_
            refine T_skip ?_
            refine T_next ?_
            refine T_seq ?_
            refine T_reg ?_
            refine T_val (Ev_assign rfl) rfl ?_
            refine T_nil ?_
            refine T_next ?_
            obtain ⟨j18, hj18, hx73⟩ := jn_some hx73
            refine T_cutP (τ := Int) (γ := Unit) (J := j18) (out := r) (fun s18 y18 => [(5, .int .i64 (s3)), (6, .int .u64 (s18))]) (fun s18 y18 => [] ++ [.old w]) (fun s18 y18 => True) ?_ ?_
            · intro s18 y18 hx104 hG105
              subst hj18
              refine T_seq ?_
              refine T_seq ?_
              refine T_reg ?_
              refine T_val (Ev_move rfl) rfl ?_
              refine T_val (Ev_gtr rfl rfl) rfl ?_
              refine T_nil ?_
              refine T_next ?_
              refine T_caseP (s := 55) rfl (fun h106 => ?_) (fun h106 => ?_)
              · have hx107 := ite_t h106 hx104
                refine T_condT rfl ?_
                refine T_seq ?_
                refine T_reg ?_
                refine T_val (Ev_assign rfl) rfl ?_
                refine T_val (Ev_assign rfl) rfl ?_
                refine T_val (Ev_assign rfl) rfl ?_
                refine T_nil ?_
                refine T_next ?_
                refine T_retc ?_
                refine T_outR ?_
                obtain rfl := Option.some.inj hx107
                exact T_retP (rs := [.tmp 2, .tmp 3, .tmp 4]) Try.results122 (.tmp rfl (.tmp rfl (.tmp rfl (.nil)))) (Ln := []) ⟨rfl, rfl, trivial⟩ (loNil) (by exact .refl)
              · have hx108 := ite_f h106 hx104
                refine T_condF rfl ?_
                refine T_skip ?_
                refine T_next ?_
                refine T_seq ?_
                refine T_reg ?_
                refine T_val (Ev_move rfl) rfl ?_
                refine T_val (Ev_conv_w64 rfl (by kernel_rfl) Try.underlying3) rfl ?_
                refine T_val (Ev_move rfl) rfl ?_
                refine T_val (Ev_add_w64 rfl rfl) rfl ?_
                refine T_val (Ev_assign rfl) rfl ?_
                refine T_val (Ev_assign rfl) rfl ?_
                refine T_val (Ev_assign rfl) rfl ?_
                refine T_nil ?_
                refine T_next ?_
                refine T_retc ?_
                obtain rfl := Option.some.inj hx108
                exact T_retP (rs := [.tmp 2, .tmp 3, .tmp 4]) Try.results122 (.tmp rfl (.tmp rfl (.tmp rfl (.nil)))) (Ln := []) ⟨rfl, rfl, trivial⟩ (loNil) (by exact .refl)
            · skip
              refine T_seq ?_
              refine T_reg ?_
              refine T_val (Ev_move rfl) rfl ?_
              refine T_val (Ev_assign rfl) rfl ?_
              refine T_nil ?_
              refine T_next ?_
              refine T_block ?_
              obtain ⟨t89, hl89, ho89⟩ := bnd_some hx73
              refine T_loopP (σ := Int × Int) (γ := Unit) hl89 (fun s89 y89 => [(0, .slice (A0_0) ((p0).length) (c0_0)), (5, .int .i64 (s3)), (6, .int .u64 (s89.1)), (7, .int .i64 (s89.2))]) (fun s89 y89 => [] ++ [.old w]) (fun s89 y89 => True) () trivial (by exact .cons rfl (.cons rfl (.cons rfl (.cons rfl (.nil))))) (by exact .refl) ?_
              intro s89 y89 hG89 x89 hx89 ht89
              unfold lidarref02_ReadNumber_l12 at hx89
              refine T_seq ?_
              refine T_seq ?_
              refine T_reg ?_
              refine T_val (Ev_move rfl) rfl ?_
              refine T_val (Ev_geq rfl rfl) rfl ?_
              refine T_nil ?_
              refine T_next ?_
              refine T_caseP (s := 42) rfl (fun h90 => ?_) (fun h90 => ?_)
              · have hx91 := ite_t h90 hx89
                refine T_condT rfl ?_
                refine T_skip ?_
                refine T_next ?_
                refine T_seq ?_
                refine T_block ?_
                refine T_reg ?_
                refine T_val (Ev_move rfl) rfl ?_
                refine T_val (Ev_mul_wu64 rfl rfl) rfl ?_
                refine T_val (Ev_move rfl) rfl ?_
                refine T_val (Ev_move rfl) rfl ?_
                obtain ⟨x93, h94, hx95⟩ := bnd_some hx91
                have hw103 := Has.low (E := []) ha0' hK
                obtain ⟨b96, o97, j98, hA99, hj100, hl101, hp102⟩ := Has.at_idx hw103 h94
                refine T_val (Ev_index rfl rfl hA99 (j := j98) hj100 hl101 slc73) rfl ?_
                refine T_val (Ev_loadP0 rfl hp102 (SubE.cons2 (i := 0) rfl (SubE.nil)) rfl one5) rfl ?_
                refine T_val (Ev_rem rfl rfl (by decide)) rfl ?_
                refine T_val (Ev_conv_wu64 rfl (by kernel_rfl) Try.underlying169) rfl ?_
                refine T_val (Ev_add_wu64 rfl rfl) rfl ?_
                refine T_val (Ev_assign rfl) rfl ?_
                refine T_nil ?_
                refine T_inN ?_
                refine T_next ?_
                refine T_reg ?_
                refine T_val (Ev_move rfl) rfl ?_
                refine T_val (Ev_sub_w64 rfl rfl) rfl ?_
                refine T_val (Ev_assign rfl) rfl ?_
                refine T_nil ?_
                exact T_roundP (wu64 ((wu64 (s89.1 * 128)) + (wu64 (Int.tmod x93 128))), w64 (s89.2 - 1)) () hx95 trivial (by exact .cons rfl (.cons rfl (.cons rfl (.cons rfl (.nil))))) (by exact .refl)
              · have hx92 := ite_f h90 hx89
                refine T_condF rfl ?_
                refine T_exit ?_
                refine T_outX ?_
                obtain rfl := exit_eq ht89 hx92
                refine T_outX ?_
                refine T_here ?_
                exact T_metP s89.1 () ho89 trivial (by exact .cons rfl (.cons rfl (.nil))) (by exact .refl)
        · skip
          refine T_reg ?_
          refine T_val (Ev_move rfl) rfl ?_
          refine T_val (Ev_gtr rfl rfl) rfl ?_
          refine T_val (Ev_move rfl) rfl ?_
          refine T_caseP (s := 33) rfl (fun h55 => ?_) (fun h55 => ?_)
          · have hx56 := ite_t h55 hx54
            refine T_valG rfl rfl rfl (Ev_move rfl) rfl ?_
            refine T_valG rfl rfl rfl (Ev_move rfl) rfl ?_
            obtain ⟨x57, h58, hx59⟩ := bnd_some hx56
            have hw67 := Has.low (E := []) ha0' hK
            obtain ⟨b60, o61, j62, hA63, hj64, hl65, hp66⟩ := Has.at_idx hw67 h58
            refine T_valG rfl rfl rfl (Ev_index rfl rfl hA63 (j := j62) hj64 hl65 slc73) rfl ?_
            refine T_valG rfl rfl rfl (Ev_loadP0 rfl hp66 (SubE.cons2 (i := 0) rfl (SubE.nil)) rfl one5) rfl ?_
            refine T_valG rfl rfl rfl (Ev_eql rfl rfl) rfl ?_
            refine T_val (Ev_pickT rfl rfl) rfl ?_
            refine T_nil ?_
            exact T_metP (decide (x57 = 0)) () hx59 trivial (by exact .cons rfl (.cons rfl (.cons rfl (.nil)))) (by exact .refl)
          · have hx68 := ite_f h55 hx54
            refine T_skipG rfl rfl rfl rfl rfl ?_
            refine T_skipG rfl rfl rfl rfl rfl ?_
            refine T_skipG rfl rfl rfl rfl rfl ?_
            refine T_skipG rfl rfl rfl rfl rfl ?_
            refine T_skipG rfl rfl rfl rfl rfl ?_
            refine T_val (Ev_pickF rfl rfl) rfl ?_
            refine T_nil ?_
            exact T_metP false () hx68 trivial (by exact .cons rfl (.cons rfl (.cons rfl (.nil)))) (by exact .refl)
  · skip
    refine T_block ?_
    obtain ⟨t24, hl24, ho24⟩ := bnd_some hx
    refine T_loopP (σ := Int) (γ := Unit) hl24 (fun s24 y24 => [(0, .slice (A0_0) ((p0).length) (c0_0)), (5, .int .i64 (s24))]) (fun s24 y24 => [] ++ [.old w]) (fun s24 y24 => True) () trivial (by exact .cons rfl (.cons rfl (.nil))) (by exact .refl) ?_
    intro s24 y24 hG24 x24 hx24 ht24
    unfold lidarref02_ReadNumber_l2 at hx24
    refine T_seq ?_
    obtain ⟨j7, hj7, hx24⟩ := jn_some hx24
    refine T_cutP (τ := Bool) (γ := Unit) (J := j7) (out := x24) (fun s7 y7 => [(0, .slice (A0_0) ((p0).length) (c0_0)), (5, .int .i64 (s24)), (22, .bool (s7))]) (fun s7 y7 => [] ++ [.old w]) (fun s7 y7 => True) ?_ ?_
    · intro s7 y7 hx42 hG43
      subst hj7
      refine T_caseB (s := 22) rfl (fun h44 => ?_) (fun h44 => ?_)
      · have hx45 := ite_t h44 hx42
        refine T_condT rfl ?_
        refine T_skip ?_
        refine T_next ?_
        refine T_block ?_
        refine T_reg ?_
        refine T_val (Ev_move rfl) rfl ?_
        refine T_val (Ev_add_w64 rfl rfl) rfl ?_
        refine T_val (Ev_assign rfl) rfl ?_
        refine T_nil ?_
        refine T_inN ?_
        exact T_roundP (w64 (s24 + 1)) () hx45 trivial (by exact .cons rfl (.cons rfl (.nil))) (by exact .refl)
      · have hx46 := ite_bf h44 hx42
        refine T_condF rfl ?_
        refine T_exit ?_
        refine T_outX ?_
        obtain rfl := exit_eq ht24 hx46
        refine T_outX ?_
        refine T_here ?_
        exact T_metP s24 () ho24 trivial (by exact .cons rfl (.cons rfl (.nil))) (by exact .refl)
    · skip
      refine T_reg ?_
      refine T_val (Ev_move rfl) rfl ?_
      refine T_val (Ev_move rfl) rfl ?_
      refine T_val (Ev_len rfl 5 Try.underlying73) rfl ?_
      refine T_val (Ev_lss rfl rfl) rfl ?_
      refine T_val (Ev_move rfl) rfl ?_
      refine T_caseP (s := 12) rfl (fun h25 => ?_) (fun h25 => ?_)
      · have hx26 := ite_t h25 hx24
        refine T_valG rfl rfl rfl (Ev_move rfl) rfl ?_
        refine T_valG rfl rfl rfl (Ev_lss rfl rfl) rfl ?_
        refine T_val (Ev_pickT rfl rfl) rfl ?_
        refine T_val (Ev_move rfl) rfl ?_
        refine T_caseP (s := 16) rfl (fun h27 => ?_) (fun h27 => ?_)
        · have hx28 := ite_t h27 hx26
          refine T_valG rfl rfl rfl (Ev_move rfl) rfl ?_
          refine T_valG rfl rfl rfl (Ev_move rfl) rfl ?_
          obtain ⟨x29, h30, hx31⟩ := bnd_some hx28
          have hw39 := Has.low (E := []) ha0' hK
          obtain ⟨b32, o33, j34, hA35, hj36, hl37, hp38⟩ := Has.at_idx hw39 h30
          refine T_valG rfl rfl rfl (Ev_index rfl rfl hA35 (j := j34) hj36 hl37 slc73) rfl ?_
          refine T_valG rfl rfl rfl (Ev_loadP0 rfl hp38 (SubE.cons2 (i := 0) rfl (SubE.nil)) rfl one5) rfl ?_
          refine T_valG rfl rfl rfl (Ev_geq rfl rfl) rfl ?_
          refine T_val (Ev_pickT rfl rfl) rfl ?_
          refine T_nil ?_
          exact T_metP (decide (128 ≤ x29)) () hx31 trivial (by exact .cons rfl (.cons rfl (.cons rfl (.nil)))) (by exact .refl)
        · have hx40 := ite_f h27 hx26
          refine T_skipG rfl rfl rfl rfl rfl ?_
          refine T_skipG rfl rfl rfl rfl rfl ?_
          refine T_skipG rfl rfl rfl rfl rfl ?_
          refine T_skipG rfl rfl rfl rfl rfl ?_
          refine T_skipG rfl rfl rfl rfl rfl ?_
          refine T_val (Ev_pickF rfl rfl) rfl ?_
          refine T_nil ?_
          exact T_metP false () hx40 trivial (by exact .cons rfl (.cons rfl (.cons rfl (.nil)))) (by exact .refl)
      · have hx41 := ite_f h25 hx24
        refine T_skipG rfl rfl rfl rfl rfl ?_
        refine T_skipG rfl rfl rfl rfl rfl ?_
        refine T_val (Ev_pickF rfl rfl) rfl ?_
        refine T_val (Ev_move rfl) rfl ?_
        refine T_skipG rfl rfl rfl rfl rfl ?_
        refine T_skipG rfl rfl rfl rfl rfl ?_
        refine T_skipG rfl rfl rfl rfl rfl ?_
        refine T_skipG rfl rfl rfl rfl rfl ?_
        refine T_skipG rfl rfl rfl rfl rfl ?_
        refine T_val (Ev_pickF rfl rfl) rfl ?_
        refine T_nil ?_
        exact T_metP false () hx41 trivial (by exact .cons rfl (.cons rfl (.cons rfl (.nil)))) (by exact .refl)
set_option maxRecDepth 100000 in
theorem lidarref02_ReadSigned_ok (p0 : List Int) {K : List Ent} {A0_0 : Option Addr} {c0_0 : Nat} (ha0 : Has K A0_0 (p0).length c0_0 1 e_u8 (p0)) {r : Int × Int × Int} (hx : lidarref02_ReadSigned p0 = some r) (w : World) (hK : ∀ e ∈ K, Ent.ok w e) : CtL Try.prog 121 [.slice (A0_0) ((p0).length) (c0_0)] w fun v Ln => v = .tuple #[.int .i64 (r.1), .int .i64 (r.2.1), .int .i64 (r.2.2)] ∧ Ln = [] ∧ True := by
  have ha0' := Has.up0 ha0
  refine CtL.mk 28 Try.func121 rfl Try.ntmps121 (by kernel_rfl) rfl ?_
  show T 28 _ [(0, .slice (A0_0) ((p0).length) (c0_0))] _
  unfold lidarref02_ReadSigned at hx
  refine T_seq ?_
  refine T_reg ?_
  refine T_val (Ev_assign rfl) rfl ?_
  refine T_val (Ev_assign rfl) rfl ?_
  refine T_val (Ev_assign rfl) rfl ?_
  refine T_nil ?_
  refine T_next ?_
  refine T_seq ?_
  refine T_reg ?_
  refine T_val (Ev_move rfl) rfl ?_
  obtain ⟨r1, h2, hx3⟩ := bnd_some hx
  refine T_x (Wx_callL rfl (fun w1 hw1 => lidarref02_ReadNumber_ok p0 (Has.len' ha0') h2 w1 (okApp (K := K) (K2 := []) hK (by exact (SubE.cons2 (i := 0) rfl (SubE.nil))) (by exact (SubE.nil)) hw1)) rfl ?_)
  rintro _ _ hlo ⟨rfl, rfl, -⟩
  refine T_app0 ?_
  refine T_val (Ev_move rfl) rfl ?_
  refine T_val (Ev_extract rfl rfl) rfl ?_
  refine T_val (Ev_extract rfl rfl) rfl ?_
  refine T_val (Ev_extract rfl rfl) rfl ?_
  refine T_val (Ev_assign rfl) rfl ?_
  refine T_val (Ev_assign rfl) rfl ?_
  refine T_val (Ev_assign rfl) rfl ?_
  refine T_nil ?_
  refine T_next ?_
  refine T_seq ?_
  refine T_seq ?_
  refine T_reg ?_
  refine T_val (Ev_move rfl) rfl ?_
  refine T_val (Ev_neq rfl rfl) rfl ?_
  refine T_nil ?_
  refine T_next ?_
  refine T_caseNP (s := 15) rfl (fun h4 => ?_) (fun h4 => ?_)
  · have hx5 := ite_f h4 hx3
    refine T_condT rfl ?_
    refine T_seq ?_
    refine T_reg ?_
    refine T_val (Ev_move rfl) rfl ?_
    refine T_val (Ev_assign rfl) rfl ?_
    refine T_val (Ev_assign rfl) rfl ?_
    refine T_val (Ev_assign rfl) rfl ?_
    refine T_nil ?_
    refine T_next ?_
    refine T_retc ?_
    refine T_outR ?_
    obtain rfl := Option.some.inj hx5
    exact T_retP (rs := [.tmp 2, .tmp 3, .tmp 4]) Try.results121 (.tmp rfl (.tmp rfl (.tmp rfl (.nil)))) (Ln := []) ⟨rfl, rfl, trivial⟩ (loNil) (by exact .refl)
  · have hx6 := ite_t h4 hx3
    refine T_condF rfl ?_
    refine T_skip ?_
    refine T_next ?_
    refine T_seq ?_
    refine T_seq ?_
    refine T_reg ?_
    refine T_val (Ev_move rfl) rfl ?_
    refine T_val (Ev_rem rfl rfl (by decide)) rfl ?_
    refine T_val (Ev_eql rfl rfl) rfl ?_
    refine T_nil ?_
    refine T_next ?_
    refine T_caseP (s := 19) rfl (fun h7 => ?_) (fun h7 => ?_)
    · have hx8 := ite_t h7 hx6
      refine T_condT rfl ?_
      refine T_seq ?_
      refine T_reg ?_
      refine T_val (Ev_move rfl) rfl ?_
      refine T_val (Ev_quo_w64 rfl rfl (by decide)) rfl ?_
      refine T_val (Ev_move rfl) rfl ?_
      refine T_val (Ev_assign rfl) rfl ?_
      refine T_val (Ev_assign rfl) rfl ?_
      refine T_val (Ev_assign rfl) rfl ?_
      refine T_nil ?_
      refine T_next ?_
      refine T_retc ?_
      refine T_outR ?_
      obtain rfl := Option.some.inj hx8
      exact T_retP (rs := [.tmp 2, .tmp 3, .tmp 4]) Try.results121 (.tmp rfl (.tmp rfl (.tmp rfl (.nil)))) (Ln := []) ⟨rfl, rfl, trivial⟩ (loNil) (by exact .refl)
    · have hx9 := ite_f h7 hx6
      refine T_condF rfl ?_
      refine T_skip ?_
      refine T_next ?_
      refine T_seq ?_
      refine T_reg ?_
      refine T_val (Ev_move rfl) rfl ?_
      refine T_val (Ev_add_w64 rfl rfl) rfl ?_
      refine T_val (Ev_quo_w64 rfl rfl (by decide)) rfl ?_
      refine T_val (Ev_neg_w64 rfl) rfl ?_
      refine T_val (Ev_move rfl) rfl ?_
      refine T_val (Ev_assign rfl) rfl ?_
      refine T_val (Ev_assign rfl) rfl ?_
      refine T_val (Ev_assign rfl) rfl ?_
      refine T_nil ?_
      refine T_next ?_
      refine T_retc ?_
      obtain rfl := Option.some.inj hx9
      exact T_retP (rs := [.tmp 2, .tmp 3, .tmp 4]) Try.results121 (.tmp rfl (.tmp rfl (.tmp rfl (.nil)))) (Ln := []) ⟨rfl, rfl, trivial⟩ (loNil) (by exact .refl)
set_option maxRecDepth 100000 in
theorem lidarref09_reader_number_ok (p0 : S_lidarref09_reader) (p1 : Bool) {g0_0 : Nat} {K : List Ent} {A0_0 : Option Addr} {c0_0 : Nat} (ha0 : Has K A0_0 (p0.rest).length c0_0 1 e_u8 (p0.rest)) {r : S_lidarref09_reader × Int} (hx : lidarref09_reader_number p0 p1 = some r) : CtK Try.prog 89 [.pointer (some ⟨g0_0, 0, none⟩), .bool (p1)] K [.m g0_0 135 [.slice (A0_0) ((p0.rest).length) (c0_0), .bool (p0.bad)]] fun v Ln => ∃ (A0 : Option Addr) (c0 : Nat), v = .int .i64 (r.2) ∧ Ln = [.m g0_0 135 [.slice (A0) ((r.1.rest).length) (c0), .bool (r.1.bad)]] ∧ Has (K ++ []) A0 (r.1.rest).length c0 1 e_u8 (r.1.rest) ∧ True := by
  have ha0' := Has.up0 ha0
  refine CtK.mk 46 Try.func89 rfl Try.ntmps89 (by kernel_rfl) rfl ?_
  intro Lf hKf
  show T 46 _ [(0, .pointer (some ⟨g0_0, 0, none⟩)), (1, .bool (p1))] ([.m g0_0 135 [.slice (A0_0) ((p0.rest).length) (c0_0), .bool (p0.bad)]] ++ Lf)
  unfold lidarref09_reader_number at hx
  refine T_seq ?_
  refine T_reg ?_
  refine T_val (Ev_assign rfl) rfl ?_
  refine T_nil ?_
  refine T_next ?_
  refine T_seq ?_
  refine T_seq ?_
  refine T_reg ?_
  refine T_val (Ev_move rfl) rfl ?_
  refine T_val (Ev_nilCheck rfl) rfl ?_
  refine T_val (Ev_field rfl fld135_1 rfl) rfl ?_
  refine T_val (Ev_load1 rfl (i := 0) rfl rfl one4) rfl ?_
  refine T_nil ?_
  refine T_next ?_
  refine T_caseB (s := 11) rfl (fun h1 => ?_) (fun h1 => ?_)
  · have hx2 := ite_t h1 hx
    refine T_condT rfl ?_
    refine T_seq ?_
    refine T_reg ?_
    refine T_val (Ev_assign rfl) rfl ?_
    refine T_nil ?_
    refine T_next ?_
    refine T_retc ?_
    refine T_outR ?_
    obtain rfl := Option.some.inj hx2
    exact T_retK (rs := [.tmp 4]) Try.results89 (.tmp rfl (.nil)) (Ln := [.m g0_0 135 [.slice (A0_0) ((p0.rest).length) (c0_0), .bool (p0.bad)]]) ⟨A0_0, c0_0, rfl, rfl, Has.len' ha0', trivial⟩ (by exact .pick 0 rfl (.refl))
  · have hx3 := ite_bf h1 hx
    refine T_condF rfl ?_
    refine T_skip ?_
    refine T_next ?_
    refine T_seq ?_
    refine T_reg ?_
    refine T_val (Ev_assign rfl) rfl ?_
    refine T_val (Ev_assign rfl) rfl ?_
    refine T_nil ?_
    refine T_next ?_
    refine T_seq ?_
    refine T_reg ?_
    refine T_val (Ev_assign rfl) rfl ?_
    refine T_nil ?_
    refine T_next ?_
    obtain ⟨j7, hj7, hx3⟩ := jn_some hx3
    refine T_cutP (τ := Int × Int × Int) (γ := Unit) (J := j7) (out := r) (fun s7 y7 => [(0, .pointer (some ⟨g0_0, 0, none⟩)), (5, .int .i64 (s7.1)), (6, .int .i64 (s7.2.1)), (7, .int .i64 (s7.2.2))]) (fun s7 y7 => [.m g0_0 135 [.slice (A0_0) ((p0.rest).length) (c0_0), .bool (p0.bad)]] ++ Lf) (fun s7 y7 => True) ?_ ?_
    · intro s7 y7 hx13 hG14
      subst hj7
      refine T_seq ?_
      refine T_seq ?_
      refine T_reg ?_
      refine T_val (Ev_move rfl) rfl ?_
      refine T_val (Ev_neq rfl rfl) rfl ?_
      refine T_nil ?_
      refine T_next ?_
      refine T_caseNP (s := 32) rfl (fun h15 => ?_) (fun h15 => ?_)
      · have hx16 := ite_f h15 hx13
        refine T_condT rfl ?_
        refine T_seq ?_
        refine T_reg ?_
        refine T_val (Ev_move rfl) rfl ?_
        refine T_val (Ev_nilCheck rfl) rfl ?_
        refine T_val (Ev_field rfl fld135_1 rfl) rfl ?_
        refine T_h (Wh_store rfl rfl rfl (.here) (.skip (.put (.done))) rfl (List.cons_ne_nil _ _) one4.2 ?_)
        refine T_nil ?_
        refine T_next ?_
        refine T_seq ?_
        refine T_reg ?_
        refine T_val (Ev_assign rfl) rfl ?_
        refine T_nil ?_
        refine T_next ?_
        refine T_retc ?_
        refine T_outR ?_
        obtain rfl := Option.some.inj hx16
        exact T_retK (rs := [.tmp 4]) Try.results89 (.tmp rfl (.nil)) (Ln := [.m g0_0 135 [.slice (A0_0) ((p0.rest).length) (c0_0), .bool (true)]]) ⟨A0_0, c0_0, rfl, rfl, Has.len' ha0', trivial⟩ (by exact .pick 0 rfl (.refl))
      · have hx17 := ite_t h15 hx13
        refine T_condF rfl ?_
        refine T_skip ?_
        refine T_next ?_
        refine T_seq ?_
        refine T_reg ?_
        refine T_val (Ev_move rfl) rfl ?_
        refine T_val (Ev_move rfl) rfl ?_
        refine T_val (Ev_nilCheck rfl) rfl ?_
        refine T_val (Ev_field rfl fld135_0 rfl) rfl ?_
        refine T_val (Ev_load1 rfl (i := 0) rfl rfl one73) rfl ?_
        refine T_val (Ev_move rfl) rfl ?_
        obtain ⟨h19, hx20⟩ := gd_some hx17
        have hs18 := Has.subL ha0' h19.1 h19.2
        refine T_val (Ev_subL rfl rfl slc73 h19.1 h19.2) rfl ?_
        refine T_val (Ev_nilCheck rfl) rfl ?_
        refine T_val (Ev_field rfl fld135_0 rfl) rfl ?_
        refine T_h (Wh_store rfl rfl rfl (.here) (.put (.done)) rfl (List.cons_ne_nil _ _) one73.2 ?_)
        refine T_nil ?_
        refine T_next ?_
        refine T_seq ?_
        refine T_reg ?_
        refine T_val (Ev_move rfl) rfl ?_
        refine T_val (Ev_assign rfl) rfl ?_
        refine T_nil ?_
        refine T_next ?_
        refine T_retc ?_
        refine T_ent (.here) (e' := .m g0_0 135 [.slice (slA (A0_0) (c0_0) (Int.toNat s7.2.1) 1) ((subl p0.rest s7.2.1 (((p0.rest).length : Nat) : Int)).length) (c0_0 - Int.toNat s7.2.1), .bool (p0.bad)]) (by first | (rw [show (((p0.rest).length) - Int.toNat s7.2.1) = (subl p0.rest s7.2.1 (((p0.rest).length : Nat) : Int)).length from (Has.len hs18).symm]; done) | rfl) ?_
        obtain rfl := Option.some.inj hx20
        exact T_retK (rs := [.tmp 4]) Try.results89 (.tmp rfl (.nil)) (Ln := [.m g0_0 135 [.slice (slA (A0_0) (c0_0) (Int.toNat s7.2.1) 1) ((subl p0.rest s7.2.1 (((p0.rest).length : Nat) : Int)).length) (c0_0 - Int.toNat s7.2.1), .bool (p0.bad)]]) ⟨(slA (A0_0) (c0_0) (Int.toNat s7.2.1) 1), (c0_0 - Int.toNat s7.2.1), rfl, rfl, Has.len' hs18, trivial⟩ (by exact .pick 0 rfl (.refl))
    · skip
      refine T_seq ?_
      refine T_reg ?_
      refine T_val (Ev_move rfl) rfl ?_
      refine T_nil ?_
      refine T_next ?_
      refine T_caseB (s := 12) rfl (fun h4 => ?_) (fun h4 => ?_)
      · have hx5 := ite_t h4 hx3
        refine T_condT rfl ?_
        refine T_reg ?_
        refine T_val (Ev_move rfl) rfl ?_
        refine T_val (Ev_nilCheck rfl) rfl ?_
        refine T_val (Ev_field rfl fld135_0 rfl) rfl ?_
        refine T_val (Ev_load1 rfl (i := 0) rfl rfl one73) rfl ?_
        obtain ⟨r6, h7, hx8⟩ := bnd_some hx5
        refine T_x (Wx_callL rfl (fun w1 hw1 => lidarref02_ReadSigned_ok p0.rest (Has.len' ha0') h7 w1 (okAll (K := (K ++ [])) (by exact (SubE.appC (SubE.tail (hKf)) (SubE.nil))) hw1)) rfl ?_)
        rintro _ _ hlo ⟨rfl, rfl, -⟩
        refine T_app0 ?_
        refine T_val (Ev_move rfl) rfl ?_
        refine T_val (Ev_extract rfl rfl) rfl ?_
        refine T_val (Ev_extract rfl rfl) rfl ?_
        refine T_val (Ev_extract rfl rfl) rfl ?_
        refine T_val (Ev_assign rfl) rfl ?_
        refine T_val (Ev_assign rfl) rfl ?_
        refine T_val (Ev_assign rfl) rfl ?_
        refine T_nil ?_
        exact T_metP (r6.1, r6.2.1, r6.2.2) () hx8 trivial (by exact .cons rfl (.cons rfl (.cons rfl (.cons rfl (.nil))))) (by exact .pick 0 rfl (.refl))
      · have hx9 := ite_bf h4 hx3
        refine T_condF rfl ?_
        refine T_reg ?_
        refine T_val (Ev_move rfl) rfl ?_
        refine T_val (Ev_nilCheck rfl) rfl ?_
        refine T_val (Ev_field rfl fld135_0 rfl) rfl ?_
        refine T_val (Ev_load1 rfl (i := 0) rfl rfl one73) rfl ?_
        obtain ⟨r10, h11, hx12⟩ := bnd_some hx9
        refine T_x (Wx_callL rfl (fun w1 hw1 => lidarref02_ReadNumber_ok p0.rest (Has.len' ha0') h11 w1 (okAll (K := (K ++ [])) (by exact (SubE.appC (SubE.tail (hKf)) (SubE.nil))) hw1)) rfl ?_)
        rintro _ _ hlo ⟨rfl, rfl, -⟩
        refine T_app0 ?_
        refine T_val (Ev_move rfl) rfl ?_
        refine T_val (Ev_extract rfl rfl) rfl ?_
        refine T_val (Ev_extract rfl rfl) rfl ?_
        refine T_val (Ev_extract rfl rfl) rfl ?_
        refine T_val (Ev_assign rfl) rfl ?_
        refine T_val (Ev_assign rfl) rfl ?_
        refine T_val (Ev_assign rfl) rfl ?_
        refine T_nil ?_
        exact T_metP (r10.1, r10.2.1, r10.2.2) () hx12 trivial (by exact .cons rfl (.cons rfl (.cons rfl (.cons rfl (.nil))))) (by exact .pick 0 rfl (.refl))
set_option maxRecDepth 100000 in
theorem lidarref09_Decode_ok (p0 : List Int) {K : List Ent} {A0_0 : Option Addr} {c0_0 : Nat} (ha0 : Has K A0_0 (p0).length c0_0 1 e_u8 (p0)) {r : S_api_Grid × Int} (hx : lidarref09_Decode p0 = some r) (w : World) (hK : ∀ e ∈ K, Ent.ok w e) : CtL Try.prog 47 [.slice (A0_0) ((p0).length) (c0_0)] w fun v Ln => ∃ (A0 : Option Addr) (c0 : Nat), v = .tuple #[.agg #[.int .i64 (r.1.Raster.X0), .int .i64 (r.1.Raster.Y0), .int .i64 (r.1.Raster.Step), .int .i64 (r.1.Raster.NX), .int .i64 (r.1.Raster.NY), .slice (A0) ((r.1.Cells).length) (c0)], .int .i64 (r.2)] ∧ Ln = [.r A0 (r.1.Cells).length c0 41 3 ((r.1.Cells).flatMap e_api_Cell)] ∧ True := by
  have ha0' := Has.up0 ha0
  refine CtL.mk 180 Try.func47 rfl Try.ntmps47 (by kernel_rfl) rfl ?_
  show T 180 _ [(0, .slice (A0_0) ((p0).length) (c0_0))] _
  unfold lidarref09_Decode at hx
  refine T_seq ?_
  refine T_reg ?_
  refine T_x (Wx_alloc zer26 rfl (fun g1 => ?_))
  refine T_val (Ev_assign rfl) rfl ?_
  refine T_nil ?_
  refine T_next ?_
  refine T_seq ?_
  refine T_seq ?_
  refine T_reg ?_
  refine T_val (Ev_move rfl) rfl ?_
  refine T_val (Ev_len rfl 5 Try.underlying73) rfl ?_
  refine T_val (Ev_lss rfl rfl) rfl ?_
  refine T_nil ?_
  refine T_next ?_
  refine T_caseP (s := 17) rfl (fun h2 => ?_) (fun h2 => ?_)
  · have hx3 := ite_t h2 hx
    refine T_condT rfl ?_
    refine T_seq ?_
    refine T_reg ?_
    refine T_val (Ev_build rfl (bld26_)) rfl ?_
    refine T_h (Wh_store rfl rfl rfl (.here) (.put (.put (.put (.put (.put (.put (.done))))))) rfl (List.cons_ne_nil _ _) agg26.2 ?_)
    refine T_val (Ev_assign rfl) rfl ?_
    refine T_nil ?_
    refine T_next ?_
    refine T_retc ?_
    refine T_outR ?_
    refine T_none 41 3 ?_
    obtain rfl := Option.some.inj hx3
    exact T_retP (rs := [.cell 2 26, .tmp 3]) Try.results47 (.cell rfl (i := 1) rfl rfl agg26 (.tmp rfl (.nil))) (Ln := [.r (none) (0) (0) 41 3 ((([] : List S_api_Cell)).flatMap e_api_Cell)]) ⟨none, 0, rfl, rfl, trivial⟩ (loCons rfl (loNil)) (by exact .pick 0 rfl (.drop 0 rfl (.refl)))
  · have hx4 := ite_f h2 hx
    refine T_condF rfl ?_
    refine T_skip ?_
    refine T_next ?_
    refine T_seq ?_
    refine T_reg ?_
    refine T_x (Wx_buildSlice rfl (bls73_0_) rfl (fun g5 => ?_))
    refine T_val (Ev_move rfl) rfl ?_
    refine T_val (Ev_move rfl) rfl ?_
    refine T_val (Ev_len rfl 5 Try.underlying73) rfl ?_
    refine T_val (Ev_sub_w64 rfl rfl) rfl ?_
    obtain ⟨h7, hx8⟩ := gd_some hx4
    have hs6 := Has.subH ha0' h7.1 h7.2
    refine T_val (Ev_subH rfl rfl slc73 h7.1 (by have := Has.nc ha0'; omega)) rfl ?_
    refine T_mr (enc := e_u8) (sz := 1) (([] : List Int)) (.here) rfl rfl (fun _ => rfl) (by decide) ?_
    have hw9 := Has.low (E := []) hs6 hK
    obtain ⟨h10, hx11⟩ := gd_some hx8
    refine T_h (Wh_appendH e_u8 (([] : List Int)) (subl p0 0 (w64 (((((p0).length : Nat) : Int)) - 4))) rfl rfl elm73 (fun _ => rfl) hw9 (SubE.cons2 (i := 2) rfl (SubE.nil)) (fun _ => rfl) h10 rfl (fun _ _ => .here) (by decide) (fun A12 c13 => ?_))
    refine T_val (Ev_build rfl (bld135_0s _ _ _)) rfl ?_
    refine T_x (Wx_box rfl rfl rfl (fun g14 => ?_))
    refine T_val (Ev_assign rfl) rfl ?_
    refine T_nil ?_
    refine T_next ?_
    refine T_seq ?_
    refine T_reg ?_
    refine T_x (Wx_alloc zer26 rfl (fun g15 => ?_))
    refine T_nil ?_
    refine T_next ?_
    refine T_seq ?_
    refine T_reg ?_
    refine T_val (Ev_move rfl) rfl ?_
    refine T_rowP (k := 2) rfl (by decide) (fun _ => rfl) (fun hn16 hs17 => ?_)
    obtain ⟨r18, h19, hx20⟩ := bnd_some hx11
    refine T_h (Wh_callK rfl (by exact .pick 1 rfl (.refl)) (by exact (SubE.cons2 (i := 1) rfl (SubE.nil))) (lidarref09_reader_number_ok (⟨(([] : List Int)) ++ (subl p0 0 (w64 (((((p0).length : Nat) : Int)) - 4))), false⟩ : S_lidarref09_reader) true (Has.len' hs17) h19 (K := ([.r (A12) (((([] : List Int)) ++ (subl p0 0 (w64 (((((p0).length : Nat) : Int)) - 4)))).length) (c13) 5 1 (((([] : List Int)) ++ (subl p0 0 (w64 (((((p0).length : Nat) : Int)) - 4)))).flatMap e_u8)] : List Ent))) rfl ?_)
    rintro _ _ ⟨A21, c22, rfl, rfl, hs23, -⟩
    refine T_app1 ?_
    refine T_val (Ev_field rfl fld26_0 rfl) rfl ?_
    refine T_val (Ev_field rfl fld23_0 rfl) rfl ?_
    refine T_h (Wh_store rfl rfl rfl (.there (.here)) (.put (.done)) rfl (List.cons_ne_nil _ _) one3.2 ?_)
    refine T_nil ?_
    refine T_next ?_
    refine T_seq ?_
    refine T_reg ?_
    refine T_val (Ev_move rfl) rfl ?_
    obtain ⟨r24, h25, hx26⟩ := bnd_some hx20
    refine T_h (Wh_callK rfl (by exact .pick 0 rfl (.refl)) (by exact (SubE.cons2 (i := 1) rfl (SubE.nil))) (lidarref09_reader_number_ok r18.1 true (Has.len' hs23) h25 (K := ([.r (A12) (((([] : List Int)) ++ (subl p0 0 (w64 (((((p0).length : Nat) : Int)) - 4)))).length) (c13) 5 1 (((([] : List Int)) ++ (subl p0 0 (w64 (((((p0).length : Nat) : Int)) - 4)))).flatMap e_u8)] : List Ent))) rfl ?_)
    rintro _ _ ⟨A27, c28, rfl, rfl, hs29, -⟩
    refine T_app1 ?_
    refine T_val (Ev_field rfl fld26_0 rfl) rfl ?_
    refine T_val (Ev_field rfl fld23_1 rfl) rfl ?_
    refine T_h (Wh_store rfl rfl rfl (.there (.here)) (.skip (.put (.done))) rfl (List.cons_ne_nil _ _) one3.2 ?_)
    refine T_nil ?_
    refine T_next ?_
    refine T_seq ?_
    refine T_reg ?_
    refine T_val (Ev_move rfl) rfl ?_
    obtain ⟨r30, h31, hx32⟩ := bnd_some hx26
    refine T_h (Wh_callK rfl (by exact .pick 0 rfl (.refl)) (by exact (SubE.cons2 (i := 1) rfl (SubE.nil))) (lidarref09_reader_number_ok r24.1 false (Has.len' hs29) h31 (K := ([.r (A12) (((([] : List Int)) ++ (subl p0 0 (w64 (((((p0).length : Nat) : Int)) - 4)))).length) (c13) 5 1 (((([] : List Int)) ++ (subl p0 0 (w64 (((((p0).length : Nat) : Int)) - 4)))).flatMap e_u8)] : List Ent))) rfl ?_)
    rintro _ _ ⟨A33, c34, rfl, rfl, hs35, -⟩
    refine T_app1 ?_
    refine T_val (Ev_field rfl fld26_0 rfl) rfl ?_
    refine T_val (Ev_field rfl fld23_2 rfl) rfl ?_
    refine T_h (Wh_store rfl rfl rfl (.there (.here)) (.skip (.skip (.put (.done)))) rfl (List.cons_ne_nil _ _) one3.2 ?_)
    refine T_nil ?_
    refine T_next ?_
    refine T_seq ?_
    refine T_reg ?_
    refine T_val (Ev_move rfl) rfl ?_
    obtain ⟨r36, h37, hx38⟩ := bnd_some hx32
    refine T_h (Wh_callK rfl (by exact .pick 0 rfl (.refl)) (by exact (SubE.cons2 (i := 1) rfl (SubE.nil))) (lidarref09_reader_number_ok r30.1 false (Has.len' hs35) h37 (K := ([.r (A12) (((([] : List Int)) ++ (subl p0 0 (w64 (((((p0).length : Nat) : Int)) - 4)))).length) (c13) 5 1 (((([] : List Int)) ++ (subl p0 0 (w64 (((((p0).length : Nat) : Int)) - 4)))).flatMap e_u8)] : List Ent))) rfl ?_)
    rintro _ _ ⟨A39, c40, rfl, rfl, hs41, -⟩
    refine T_app1 ?_
    refine T_val (Ev_field rfl fld26_0 rfl) rfl ?_
    refine T_val (Ev_field rfl fld23_3 rfl) rfl ?_
    refine T_h (Wh_store rfl rfl rfl (.there (.here)) (.skip (.skip (.skip (.put (.done))))) rfl (List.cons_ne_nil _ _) one3.2 ?_)
    refine T_nil ?_
    refine T_next ?_
    refine T_seq ?_
    refine T_reg ?_
    refine T_val (Ev_move rfl) rfl ?_
    obtain ⟨r42, h43, hx44⟩ := bnd_some hx38
    refine T_h (Wh_callK rfl (by exact .pick 0 rfl (.refl)) (by exact (SubE.cons2 (i := 1) rfl (SubE.nil))) (lidarref09_reader_number_ok r36.1 false (Has.len' hs41) h43 (K := ([.r (A12) (((([] : List Int)) ++ (subl p0 0 (w64 (((((p0).length : Nat) : Int)) - 4)))).length) (c13) 5 1 (((([] : List Int)) ++ (subl p0 0 (w64 (((((p0).length : Nat) : Int)) - 4)))).flatMap e_u8)] : List Ent))) rfl ?_)
    rintro _ _ ⟨A45, c46, rfl, rfl, hs47, -⟩
    refine T_app1 ?_
    refine T_val (Ev_field rfl fld26_0 rfl) rfl ?_
    refine T_val (Ev_field rfl fld23_4 rfl) rfl ?_
    refine T_h (Wh_store rfl rfl rfl (.there (.here)) (.skip (.skip (.skip (.skip (.put (.done)))))) rfl (List.cons_ne_nil _ _) one3.2 ?_)
    refine T_nil ?_
    refine T_next ?_
    refine T_seq ?_
    obtain ⟨j13, hj13, hx44⟩ := jn_some hx44
    refine T_cutP (τ := Bool) (γ := Unit) (J := j13) (out := r) (fun s13 y13 => [(0, .slice (A0_0) ((p0).length) (c0_0)), (2, .pointer (some ⟨g1, 0, none⟩)), (4, .pointer (some ⟨g14, 0, none⟩)), (5, .pointer (some ⟨g15, 0, none⟩)), (57, .bool (s13))]) (fun s13 y13 => [.m g14 135 [.slice (A45) ((r42.1.rest).length) (c46), .bool (r42.1.bad)], .m g15 26 [.int .i64 (r18.2), .int .i64 (r24.2), .int .i64 (r30.2), .int .i64 (r36.2), .int .i64 (r42.2), .slice (none) (0) (0)], .r (A12) (((([] : List Int)) ++ (subl p0 0 (w64 (((((p0).length : Nat) : Int)) - 4)))).length) (c13) 5 1 (((([] : List Int)) ++ (subl p0 0 (w64 (((((p0).length : Nat) : Int)) - 4)))).flatMap e_u8), .m g1 26 [.int .i64 (0), .int .i64 (0), .int .i64 (0), .int .i64 (0), .int .i64 (0), .slice (none) (0) (0)]] ++ [.old w]) (fun s13 y13 => True) ?_ ?_
    · intro s13 y13 hx54 hG55
      subst hj13
      refine T_caseB (s := 57) rfl (fun h56 => ?_) (fun h56 => ?_)
      · have hx57 := ite_t h56 hx54
        refine T_condT rfl ?_
        refine T_seq ?_
        refine T_reg ?_
        refine T_val (Ev_build rfl (bld26_)) rfl ?_
        refine T_h (Wh_store rfl rfl rfl (.there (.there (.there (.here)))) (.put (.put (.put (.put (.put (.put (.done))))))) rfl (List.cons_ne_nil _ _) agg26.2 ?_)
        refine T_val (Ev_assign rfl) rfl ?_
        refine T_nil ?_
        refine T_next ?_
        refine T_retc ?_
        refine T_outR ?_
        refine T_none 41 3 ?_
        obtain rfl := Option.some.inj hx57
        exact T_retP (rs := [.cell 2 26, .tmp 3]) Try.results47 (.cell rfl (i := 4) rfl rfl agg26 (.tmp rfl (.nil))) (Ln := [.r (none) (0) (0) 41 3 ((([] : List S_api_Cell)).flatMap e_api_Cell)]) ⟨none, 0, rfl, rfl, trivial⟩ (loCons rfl (loNil)) (by exact .pick 0 rfl (.drop 0 rfl (.drop 0 rfl (.drop 0 rfl (.drop 0 rfl (.refl))))))
      · have hx58 := ite_bf h56 hx54
        refine T_condF rfl ?_
        refine T_skip ?_
        refine T_next ?_
        refine T_seq ?_
        refine T_draw [0, 0, 1, 0, 0, 1, 0, 2, 2] [[], [0], [0, 1], [], [3], [3, 4], [0, 1, 2, 3, 4, 5], [], [0, 1, 2, 3, 4, 5, 6, 7]] (.q 0 (.q 1 (.q 2 (.q 3 (.q 4 (.q 5 (.q 6 (.e 7 (.e 8 (.done) (.stop)) (.stop))))))))) mixed (by kernel_rfl) (by kernel_rfl) ?_
        refine P_p rfl rfl (Ev_field rfl fld26_0 rfl) rfl ?_
        refine P_p rfl rfl (Ev_field rfl fld23_3 rfl) rfl ?_
        refine P_q rfl rfl (Ev_load1 rfl (i := 1) rfl rfl one3) rfl ?_
        refine P_p rfl rfl (Ev_field rfl fld26_0 rfl) rfl ?_
        refine P_p rfl rfl (Ev_field rfl fld23_4 rfl) rfl ?_
        refine P_q rfl rfl (Ev_load1 rfl (i := 1) rfl rfl one3) rfl ?_
        refine P_p rfl rfl (Ev_mul_w64 rfl rfl) rfl ?_
        refine P_x rfl (Wx_val (Ev_assign rfl) rfl ?_) ?_
        rotate_left; exact P_stop
        refine P_x rfl (Wx_val (Ev_assign rfl) rfl ?_) ?_
        rotate_left; exact P_stop
        refine P_done ?_
        refine T_next ?_
        obtain ⟨j16, hj16, hx58⟩ := jn_some hx58
        refine T_cutP (τ := (List Int) × Bool × (List S_api_Cell)) (γ := (Option Addr) × Nat × (Option Addr) × Nat) (J := j16) (out := r) (fun s16 y16 => [(0, .slice (A0_0) ((p0).length) (c0_0)), (2, .pointer (some ⟨g1, 0, none⟩)), (4, .pointer (some ⟨g14, 0, none⟩)), (5, .pointer (some ⟨g15, 0, none⟩))]) (fun s16 y16 => [.r (y16.2.2.1) ((s16.2.2).length) (y16.2.2.2) 41 3 ((s16.2.2).flatMap e_api_Cell), .m g14 135 [.slice (y16.1) ((s16.1).length) (y16.2.1), .bool (s16.2.1)], .m g15 26 [.int .i64 (r18.2), .int .i64 (r24.2), .int .i64 (r30.2), .int .i64 (r36.2), .int .i64 (r42.2), .slice (y16.2.2.1) ((s16.2.2).length) (y16.2.2.2)], .r (A12) (((([] : List Int)) ++ (subl p0 0 (w64 (((((p0).length : Nat) : Int)) - 4)))).length) (c13) 5 1 (((([] : List Int)) ++ (subl p0 0 (w64 (((((p0).length : Nat) : Int)) - 4)))).flatMap e_u8), .m g1 26 [.int .i64 (0), .int .i64 (0), .int .i64 (0), .int .i64 (0), .int .i64 (0), .slice (none) (0) (0)]] ++ [.old w]) (fun s16 y16 => Has ([.r (A12) (((([] : List Int)) ++ (subl p0 0 (w64 (((((p0).length : Nat) : Int)) - 4)))).length) (c13) 5 1 (((([] : List Int)) ++ (subl p0 0 (w64 (((((p0).length : Nat) : Int)) - 4)))).flatMap e_u8)] : List Ent) (y16.1) ((s16.1).length) (y16.2.1) 1 e_u8 (s16.1) ∧ True) ?_ ?_
        · intro s16 y16 hx211 hG212
          obtain ⟨hs213, -⟩ := hG212
          subst hj16
          refine T_seq ?_
          refine T_reg ?_
          refine T_val (Ev_loadK rfl (i := 2) rfl rfl agg26) rfl ?_
          refine T_rowP (k := 0) rfl (by decide) (fun _ => rfl) (fun hn214 hs215 => ?_)
          obtain ⟨r216, h217, hx218⟩ := bnd_some hx211
          refine T_x (Wx_callL rfl (fun w1 hw1 => lidarref09_Encode_ok (⟨(⟨r18.2, r24.2, r30.2, r36.2, r42.2⟩ : S_api_Raster), s16.2.2⟩ : S_api_Grid) (Has.len' hs215) h217 w1 (okAll (K := ([.r (y16.2.2.1) ((s16.2.2).length) (y16.2.2.2) 41 3 ((s16.2.2).flatMap e_api_Cell)] : List Ent)) (by exact (SubE.cons2 (i := 0) rfl (SubE.nil))) hw1)) rfl ?_)
          rintro _ _ hlo ⟨A219, c220, rfl, rfl, -⟩
          refine T_app1 ?_
          refine T_val (Ev_move rfl) rfl ?_
          refine T_val (Ev_extract rfl rfl) rfl ?_
          refine T_val (Ev_extract rfl rfl) rfl ?_
          refine T_val (Ev_assign rfl) rfl ?_
          refine T_val (Ev_assign rfl) rfl ?_
          refine T_nil ?_
          refine T_next ?_
          refine T_seq ?_
          obtain ⟨j65, hj65, hx218⟩ := jn_some hx218
          refine T_cutP (τ := Bool) (γ := Unit) (J := j65) (out := r) (fun s65 y65 => [(0, .slice (A0_0) ((p0).length) (c0_0)), (2, .pointer (some ⟨g1, 0, none⟩)), (5, .pointer (some ⟨g15, 0, none⟩)), (12, .slice (A219) ((r216.1).length) (c220)), (161, .bool (s65))]) (fun s65 y65 => [.r (A219) ((r216.1).length) (c220) 5 1 ((r216.1).flatMap e_u8), .r (y16.2.2.1) ((s16.2.2).length) (y16.2.2.2) 41 3 ((s16.2.2).flatMap e_api_Cell), .m g15 26 [.int .i64 (r18.2), .int .i64 (r24.2), .int .i64 (r30.2), .int .i64 (r36.2), .int .i64 (r42.2), .slice (y16.2.2.1) ((s16.2.2).length) (y16.2.2.2)], .m g1 26 [.int .i64 (0), .int .i64 (0), .int .i64 (0), .int .i64 (0), .int .i64 (0), .slice (none) (0) (0)]] ++ [.old w]) (fun s65 y65 => True) ?_ ?_
          · intro s65 y65 hx227 hG228
            subst hj65
            refine T_caseB (s := 161) rfl (fun h229 => ?_) (fun h229 => ?_)
            · have hx230 := ite_t h229 hx227
              refine T_condT rfl ?_
              refine T_seq ?_
              refine T_reg ?_
              refine T_val (Ev_build rfl (bld26_)) rfl ?_
              refine T_h (Wh_store rfl rfl rfl (.there (.there (.there (.here)))) (.put (.put (.put (.put (.put (.put (.done))))))) rfl (List.cons_ne_nil _ _) agg26.2 ?_)
              refine T_val (Ev_assign rfl) rfl ?_
              refine T_nil ?_
              refine T_next ?_
              refine T_retc ?_
              refine T_outR ?_
              refine T_none 41 3 ?_
              obtain rfl := Option.some.inj hx230
              exact T_retP (rs := [.cell 2 26, .tmp 3]) Try.results47 (.cell rfl (i := 4) rfl rfl agg26 (.tmp rfl (.nil))) (Ln := [.r (none) (0) (0) 41 3 ((([] : List S_api_Cell)).flatMap e_api_Cell)]) ⟨none, 0, rfl, rfl, trivial⟩ (loCons rfl (loNil)) (by exact .pick 0 rfl (.drop 0 rfl (.drop 0 rfl (.drop 0 rfl (.drop 0 rfl (.refl))))))
            · have hx231 := ite_bf h229 hx227
              refine T_condF rfl ?_
              refine T_skip ?_
              refine T_next ?_
              obtain ⟨j67, hj67, hx231⟩ := jn_some hx231
              refine T_cutP (τ := Unit) (γ := Unit) (J := j67) (out := r) (fun s67 y67 => [(2, .pointer (some ⟨g1, 0, none⟩)), (5, .pointer (some ⟨g15, 0, none⟩))]) (fun s67 y67 => [.r (y16.2.2.1) ((s16.2.2).length) (y16.2.2.2) 41 3 ((s16.2.2).flatMap e_api_Cell), .m g15 26 [.int .i64 (r18.2), .int .i64 (r24.2), .int .i64 (r30.2), .int .i64 (r36.2), .int .i64 (r42.2), .slice (y16.2.2.1) ((s16.2.2).length) (y16.2.2.2)], .m g1 26 [.int .i64 (0), .int .i64 (0), .int .i64 (0), .int .i64 (0), .int .i64 (0), .slice (none) (0) (0)]] ++ [.old w]) (fun s67 y67 => True) ?_ ?_
              · intro s67 y67 hx290 hG291
                subst hj67
                refine T_seq ?_
                refine T_reg ?_
                refine T_val (Ev_loadK rfl (i := 1) rfl rfl agg26) rfl ?_
                refine T_h (Wh_store rfl rfl rfl (.there (.there (.here))) (.put (.put (.put (.put (.put (.put (.done))))))) rfl (List.cons_ne_nil _ _) agg26.2 ?_)
                refine T_val (Ev_assign rfl) rfl ?_
                refine T_nil ?_
                refine T_next ?_
                refine T_retc ?_
                obtain rfl := Option.some.inj hx290
                exact T_retP (rs := [.cell 2 26, .tmp 3]) Try.results47 (.cell rfl (i := 2) rfl rfl agg26 (.tmp rfl (.nil))) (Ln := [.r (y16.2.2.1) ((s16.2.2).length) (y16.2.2.2) 41 3 ((s16.2.2).flatMap e_api_Cell)]) ⟨y16.2.2.1, y16.2.2.2, rfl, rfl, trivial⟩ (loCons rfl (loNil)) (by exact .pick 0 rfl (.drop 0 rfl (.drop 0 rfl (.refl))))
              · skip
                refine T_seq ?_
                refine T_reg ?_
                refine T_val (Ev_assign rfl) rfl ?_
                refine T_nil ?_
                refine T_next ?_
                refine T_block ?_
                obtain ⟨t261, hl261, ho261⟩ := bnd_some hx231
                refine T_loopP (σ := Int) (γ := Unit) hl261 (fun s261 y261 => [(0, .slice (A0_0) ((p0).length) (c0_0)), (2, .pointer (some ⟨g1, 0, none⟩)), (5, .pointer (some ⟨g15, 0, none⟩)), (12, .slice (A219) ((r216.1).length) (c220)), (14, .int .i64 (s261))]) (fun s261 y261 => [.r (A219) ((r216.1).length) (c220) 5 1 ((r216.1).flatMap e_u8), .r (y16.2.2.1) ((s16.2.2).length) (y16.2.2.2) 41 3 ((s16.2.2).flatMap e_api_Cell), .m g15 26 [.int .i64 (r18.2), .int .i64 (r24.2), .int .i64 (r30.2), .int .i64 (r36.2), .int .i64 (r42.2), .slice (y16.2.2.1) ((s16.2.2).length) (y16.2.2.2)], .m g1 26 [.int .i64 (0), .int .i64 (0), .int .i64 (0), .int .i64 (0), .int .i64 (0), .slice (none) (0) (0)]] ++ [.old w]) (fun s261 y261 => True) () trivial (by exact .cons rfl (.cons rfl (.cons rfl (.cons rfl (.cons rfl (.nil)))))) (by exact .pick 0 rfl (.pick 0 rfl (.pick 0 rfl (.pick 0 rfl (.refl))))) ?_
                intro s261 y261 hG261 x261 hx261 ht261
                unfold lidarref09_Decode_l33 at hx261
                refine T_seq ?_
                refine T_seq ?_
                refine T_reg ?_
                refine T_val (Ev_move rfl) rfl ?_
                refine T_val (Ev_move rfl) rfl ?_
                refine T_val (Ev_len rfl 5 Try.underlying73) rfl ?_
                refine T_val (Ev_lss rfl rfl) rfl ?_
                refine T_nil ?_
                refine T_next ?_
                refine T_caseP (s := 166) rfl (fun h262 => ?_) (fun h262 => ?_)
                · have hx263 := ite_t h262 hx261
                  refine T_condT rfl ?_
                  refine T_skip ?_
                  refine T_next ?_
                  refine T_seq ?_
                  refine T_block ?_
                  refine T_seq ?_
                  refine T_draw [0, 0, 0, 1, 0, 0, 0, 1, 0] [[], [], [0, 1], [0, 1, 2], [], [], [4, 5], [4, 5, 6], [0, 1, 2, 3, 4, 5, 6, 7]] (.q 0 (.q 1 (.q 2 (.q 3 (.q 4 (.q 5 (.q 6 (.q 7 (.q 8 (.done)))))))))) mixed (by kernel_rfl) (by kernel_rfl) ?_
                  refine P_p rfl rfl (Ev_move rfl) rfl ?_
                  refine P_p rfl rfl (Ev_move rfl) rfl ?_
                  obtain ⟨x265, h266, hx267⟩ := bnd_some hx263
                  refine T_idxR (k := 0) rfl (by decide) (fun _ => rfl) h266 (fun b268 j270 hA271 hj272 hl273 hm275 hp274 => ?_)
                  refine P_p rfl rfl (Ev_index rfl rfl hA271 (j := j270) hj272 hl273 slc73) rfl ?_
                  refine P_q rfl rfl (Ev_loadP0 rfl hp274 (SubE.cons2 (i := 0) rfl (SubE.nil)) rfl one5) rfl ?_
                  refine P_p rfl rfl (Ev_move rfl) rfl ?_
                  refine P_p rfl rfl (Ev_move rfl) rfl ?_
                  obtain ⟨x276, h277, hx278⟩ := bnd_some hx267
                  have hw286 := Has.low (E := []) ha0' hK
                  obtain ⟨b279, o280, j281, hA282, hj283, hl284, hp285⟩ := Has.at_idx hw286 h277
                  refine P_p rfl rfl (Ev_index rfl rfl hA282 (j := j281) hj283 hl284 slc73) rfl ?_
                  refine P_q rfl rfl (Ev_loadP0 rfl hp285 (SubE.cons2 (i := 4) rfl (SubE.nil)) rfl one5) rfl ?_
                  refine P_p rfl rfl (Ev_neq rfl rfl) rfl ?_
                  refine P_done ?_
                  refine T_next ?_
                  refine T_caseNP (s := 177) rfl (fun h287 => ?_) (fun h287 => ?_)
                  · have hx288 := ite_f h287 hx278
                    refine T_condT rfl ?_
                    refine T_seq ?_
                    refine T_reg ?_
                    refine T_val (Ev_build rfl (bld26_)) rfl ?_
                    refine T_h (Wh_store rfl rfl rfl (.there (.there (.there (.here)))) (.put (.put (.put (.put (.put (.put (.done))))))) rfl (List.cons_ne_nil _ _) agg26.2 ?_)
                    refine T_val (Ev_assign rfl) rfl ?_
                    refine T_nil ?_
                    refine T_next ?_
                    refine T_retc ?_
                    refine T_inR ?_
                    refine T_outR ?_
                    obtain rfl := exit_eq ht261 hx288
                    refine T_outR ?_
                    refine T_inR ?_
                    refine T_outR ?_
                    refine T_none 41 3 ?_
                    obtain rfl := Option.some.inj ho261
                    exact T_retP (rs := [.cell 2 26, .tmp 3]) Try.results47 (.cell rfl (i := 4) rfl rfl agg26 (.tmp rfl (.nil))) (Ln := [.r (none) (0) (0) 41 3 ((([] : List S_api_Cell)).flatMap e_api_Cell)]) ⟨none, 0, rfl, rfl, trivial⟩ (loCons rfl (loNil)) (by exact .pick 0 rfl (.drop 0 rfl (.drop 0 rfl (.drop 0 rfl (.drop 0 rfl (.refl))))))
                  · have hx289 := ite_t h287 hx278
                    refine T_condF rfl ?_
                    refine T_skip ?_
                    refine T_inN ?_
                    refine T_next ?_
                    refine T_reg ?_
                    refine T_val (Ev_move rfl) rfl ?_
                    refine T_val (Ev_add_w64 rfl rfl) rfl ?_
                    refine T_val (Ev_assign rfl) rfl ?_
                    refine T_nil ?_
                    exact T_roundP (w64 (s261 + 1)) () hx289 trivial (by exact .cons rfl (.cons rfl (.cons rfl (.cons rfl (.cons rfl (.nil)))))) (by exact .pick 0 rfl (.pick 0 rfl (.pick 0 rfl (.pick 0 rfl (.refl)))))
                · have hx264 := ite_f h262 hx261
                  refine T_condF rfl ?_
                  refine T_exit ?_
                  refine T_outX ?_
                  obtain rfl := exit_eq ht261 hx264
                  refine T_outX ?_
                  refine T_here ?_
                  exact T_metP () () ho261 trivial (by exact .cons rfl (.cons rfl (.nil))) (by exact .pick 1 rfl (.pick 1 rfl (.pick 1 rfl (.drop 0 rfl (.refl)))))
          · skip
            refine T_reg ?_
            refine T_val (Ev_move rfl) rfl ?_
            refine T_val (Ev_nilCheck rfl) rfl ?_
            refine T_val (Ev_field rfl fld135_1 rfl) rfl ?_
            refine T_val (Ev_load1 rfl (i := 2) rfl rfl one4) rfl ?_
            refine T_val (Ev_move rfl) rfl ?_
            refine T_caseB (s := 151) rfl (fun h221 => ?_) (fun h221 => ?_)
            · have hx222 := ite_t h221 hx218
              refine T_skipG rfl rfl rfl rfl rfl ?_
              refine T_skipG rfl rfl rfl rfl rfl ?_
              refine T_val (Ev_pickT rfl rfl) rfl ?_
              refine T_val (Ev_move rfl) rfl ?_
              refine T_skipG rfl rfl rfl rfl rfl ?_
              refine T_skipG rfl rfl rfl rfl rfl ?_
              refine T_skipG rfl rfl rfl rfl rfl ?_
              refine T_skipG rfl rfl rfl rfl rfl ?_
              refine T_skipG rfl rfl rfl rfl rfl ?_
              refine T_val (Ev_pickT rfl rfl) rfl ?_
              refine T_nil ?_
              exact T_metP true () hx222 trivial (by exact .cons rfl (.cons rfl (.cons rfl (.cons rfl (.cons rfl (.nil)))))) (by exact .pick 0 rfl (.pick 0 rfl (.pick 1 rfl (.pick 2 rfl (.drop 0 rfl (.drop 0 rfl (.refl)))))))
            · have hx223 := ite_bf h221 hx218
              refine T_valG rfl rfl rfl (Ev_move rfl) rfl ?_
              refine T_valG rfl rfl rfl (Ev_neq rfl rfl) rfl ?_
              refine T_val (Ev_pickF rfl rfl) rfl ?_
              refine T_val (Ev_move rfl) rfl ?_
              refine T_caseNP (s := 155) rfl (fun h224 => ?_) (fun h224 => ?_)
              · have hx225 := ite_f h224 hx223
                refine T_skipG rfl rfl rfl rfl rfl ?_
                refine T_skipG rfl rfl rfl rfl rfl ?_
                refine T_skipG rfl rfl rfl rfl rfl ?_
                refine T_skipG rfl rfl rfl rfl rfl ?_
                refine T_skipG rfl rfl rfl rfl rfl ?_
                refine T_val (Ev_pickT rfl rfl) rfl ?_
                refine T_nil ?_
                exact T_metP true () hx225 trivial (by exact .cons rfl (.cons rfl (.cons rfl (.cons rfl (.cons rfl (.nil)))))) (by exact .pick 0 rfl (.pick 0 rfl (.pick 1 rfl (.pick 2 rfl (.drop 0 rfl (.drop 0 rfl (.refl)))))))
              · have hx226 := ite_t h224 hx223
                refine T_valG rfl rfl rfl (Ev_move rfl) rfl ?_
                refine T_valG rfl rfl rfl (Ev_len rfl 5 Try.underlying73) rfl ?_
                refine T_valG rfl rfl rfl (Ev_move rfl) rfl ?_
                refine T_valG rfl rfl rfl (Ev_len rfl 5 Try.underlying73) rfl ?_
                refine T_valG rfl rfl rfl (Ev_neq rfl rfl) rfl ?_
                refine T_val (Ev_pickF rfl rfl) rfl ?_
                refine T_nil ?_
                exact T_metP (!(decide (((((r216.1).length : Nat) : Int)) = ((((p0).length : Nat) : Int))))) () hx226 trivial (by exact .cons rfl (.cons rfl (.cons rfl (.cons rfl (.cons rfl (.nil)))))) (by exact .pick 0 rfl (.pick 0 rfl (.pick 1 rfl (.pick 2 rfl (.drop 0 rfl (.drop 0 rfl (.refl)))))))
        · skip
          refine T_block ?_
          obtain ⟨t135, hl135, ho135⟩ := bnd_some hx58
          refine T_none 41 3 ?_
          have hn136 : 0 = (([] : List S_api_Cell)).length := by simp [setI_len, cpy_len, List.length_append] <;> omega
          refine T_ent (.here) (e' := .r (none) ((([] : List S_api_Cell)).length) (0) 41 3 ((([] : List S_api_Cell)).flatMap e_api_Cell)) (by first | (rw [← hn136]; done) | rfl) ?_
          refine T_loopP (σ := (List Int) × Bool × (List S_api_Cell) × Int) (γ := (Option Addr) × Nat × (Option Addr) × Nat) hl135 (fun s135 y135 => [(0, .slice (A0_0) ((p0).length) (c0_0)), (2, .pointer (some ⟨g1, 0, none⟩)), (4, .pointer (some ⟨g14, 0, none⟩)), (5, .pointer (some ⟨g15, 0, none⟩)), (6, .int .i64 (s135.2.2.2)), (7, .int .i64 (w64 (r36.2 * r42.2)))]) (fun s135 y135 => [.r (y135.2.2.1) ((s135.2.2.1).length) (y135.2.2.2) 41 3 ((s135.2.2.1).flatMap e_api_Cell), .m g14 135 [.slice (y135.1) ((s135.1).length) (y135.2.1), .bool (s135.2.1)], .m g15 26 [.int .i64 (r18.2), .int .i64 (r24.2), .int .i64 (r30.2), .int .i64 (r36.2), .int .i64 (r42.2), .slice (y135.2.2.1) ((s135.2.2.1).length) (y135.2.2.2)], .r (A12) (((([] : List Int)) ++ (subl p0 0 (w64 (((((p0).length : Nat) : Int)) - 4)))).length) (c13) 5 1 (((([] : List Int)) ++ (subl p0 0 (w64 (((((p0).length : Nat) : Int)) - 4)))).flatMap e_u8), .m g1 26 [.int .i64 (0), .int .i64 (0), .int .i64 (0), .int .i64 (0), .int .i64 (0), .slice (none) (0) (0)]] ++ [.old w]) (fun s135 y135 => Has ([.r (A12) (((([] : List Int)) ++ (subl p0 0 (w64 (((((p0).length : Nat) : Int)) - 4)))).length) (c13) 5 1 (((([] : List Int)) ++ (subl p0 0 (w64 (((((p0).length : Nat) : Int)) - 4)))).flatMap e_u8)] : List Ent) (y135.1) ((s135.1).length) (y135.2.1) 1 e_u8 (s135.1) ∧ True) (A45, c46, none, 0) ((by exact ⟨Has.len' hs47, trivial⟩)) (by exact .cons rfl (.cons rfl (.cons rfl (.cons rfl (.cons rfl (.cons rfl (.nil))))))) (by exact .pick 0 rfl (.pick 0 rfl (.pick 0 rfl (.pick 0 rfl (.pick 0 rfl (.refl)))))) ?_
          intro s135 y135 hG135 x135 hx135 ht135
          unfold lidarref09_Decode_l13 at hx135
          obtain ⟨hs137, -⟩ := hG135
          refine T_seq ?_
          obtain ⟨j41, hj41, hx135⟩ := jn_some hx135
          refine T_cutP (τ := Bool) (γ := Unit) (J := j41) (out := x135) (fun s41 y41 => [(0, .slice (A0_0) ((p0).length) (c0_0)), (2, .pointer (some ⟨g1, 0, none⟩)), (4, .pointer (some ⟨g14, 0, none⟩)), (5, .pointer (some ⟨g15, 0, none⟩)), (6, .int .i64 (s135.2.2.2)), (7, .int .i64 (w64 (r36.2 * r42.2))), (77, .bool (s41))]) (fun s41 y41 => [.r (y135.2.2.1) ((s135.2.2.1).length) (y135.2.2.2) 41 3 ((s135.2.2.1).flatMap e_api_Cell), .m g14 135 [.slice (y135.1) ((s135.1).length) (y135.2.1), .bool (s135.2.1)], .m g15 26 [.int .i64 (r18.2), .int .i64 (r24.2), .int .i64 (r30.2), .int .i64 (r36.2), .int .i64 (r42.2), .slice (y135.2.2.1) ((s135.2.2.1).length) (y135.2.2.2)], .r (A12) (((([] : List Int)) ++ (subl p0 0 (w64 (((((p0).length : Nat) : Int)) - 4)))).length) (c13) 5 1 (((([] : List Int)) ++ (subl p0 0 (w64 (((((p0).length : Nat) : Int)) - 4)))).flatMap e_u8), .m g1 26 [.int .i64 (0), .int .i64 (0), .int .i64 (0), .int .i64 (0), .int .i64 (0), .slice (none) (0) (0)]] ++ [.old w]) (fun s41 y41 => True) ?_ ?_
          · intro s41 y41 hx141 hG142
            subst hj41
            refine T_caseB (s := 77) rfl (fun h143 => ?_) (fun h143 => ?_)
            · have hx144 := ite_t h143 hx141
              refine T_condT rfl ?_
              refine T_skip ?_
              refine T_next ?_
              refine T_block ?_
              refine T_seq ?_
              refine T_reg ?_
              refine T_val (Ev_move rfl) rfl ?_
              obtain ⟨r146, h147, hx148⟩ := bnd_some hx144
              refine T_h (Wh_callK rfl (by exact .pick 1 rfl (.refl)) (by exact (SubE.cons2 (i := 2) rfl (SubE.nil))) (lidarref09_reader_number_ok (⟨s135.1, s135.2.1⟩ : S_lidarref09_reader) false (Has.len' hs137) h147 (K := ([.r (A12) (((([] : List Int)) ++ (subl p0 0 (w64 (((((p0).length : Nat) : Int)) - 4)))).length) (c13) 5 1 (((([] : List Int)) ++ (subl p0 0 (w64 (((((p0).length : Nat) : Int)) - 4)))).flatMap e_u8)] : List Ent))) rfl ?_)
              rintro _ _ ⟨A149, c150, rfl, rfl, hs151, -⟩
              refine T_app1 ?_
              refine T_val (Ev_assign rfl) rfl ?_
              refine T_nil ?_
              refine T_next ?_
              refine T_seq ?_
              refine T_seq ?_
              refine T_reg ?_
              refine T_val (Ev_move rfl) rfl ?_
              refine T_val (Ev_eql rfl rfl) rfl ?_
              refine T_nil ?_
              refine T_next ?_
              refine T_caseP (s := 81) rfl (fun h152 => ?_) (fun h152 => ?_)
              · have hx153 := ite_t h152 hx148
                refine T_condT rfl ?_
                refine T_seq ?_
                refine T_reg ?_
                refine T_val (Ev_move rfl) rfl ?_
                obtain ⟨r154, h155, hx156⟩ := bnd_some hx153
                refine T_h (Wh_callK rfl (by exact .pick 0 rfl (.refl)) (by exact (SubE.cons2 (i := 2) rfl (SubE.nil))) (lidarref09_reader_number_ok r146.1 false (Has.len' hs151) h155 (K := ([.r (A12) (((([] : List Int)) ++ (subl p0 0 (w64 (((((p0).length : Nat) : Int)) - 4)))).length) (c13) 5 1 (((([] : List Int)) ++ (subl p0 0 (w64 (((((p0).length : Nat) : Int)) - 4)))).flatMap e_u8)] : List Ent))) rfl ?_)
                rintro _ _ ⟨A157, c158, rfl, rfl, hs159, -⟩
                refine T_app1 ?_
                refine T_val (Ev_assign rfl) rfl ?_
                refine T_nil ?_
                refine T_next ?_
                refine T_seq ?_
                refine T_seq ?_
                refine T_reg ?_
                refine T_val (Ev_move rfl) rfl ?_
                refine T_val (Ev_move rfl) rfl ?_
                refine T_val (Ev_field rfl fld26_1 rfl) rfl ?_
                refine T_val (Ev_load1 rfl (i := 2) rfl rfl one24) rfl ?_
                refine T_val (Ev_len rfl 41 Try.underlying24) rfl ?_
                refine T_val (Ev_sub_w64 rfl rfl) rfl ?_
                refine T_val (Ev_gtr rfl rfl) rfl ?_
                refine T_nil ?_
                refine T_next ?_
                refine T_caseP (s := 90) rfl (fun h160 => ?_) (fun h160 => ?_)
                · have hx161 := ite_t h160 hx156
                  refine T_condT rfl ?_
                  refine T_seq ?_
                  refine T_reg ?_
                  refine T_val (Ev_build rfl (bld26_)) rfl ?_
                  refine T_h (Wh_store rfl rfl rfl (.there (.there (.there (.there (.here))))) (.put (.put (.put (.put (.put (.put (.done))))))) rfl (List.cons_ne_nil _ _) agg26.2 ?_)
                  refine T_val (Ev_assign rfl) rfl ?_
                  refine T_nil ?_
                  refine T_next ?_
                  refine T_retc ?_
                  refine T_outR ?_
                  refine T_outR ?_
                  refine T_inR ?_
                  obtain rfl := exit_eq ht135 hx161
                  refine T_outR ?_
                  refine T_inR ?_
                  refine T_outR ?_
                  refine T_none 41 3 ?_
                  obtain rfl := Option.some.inj ho135
                  exact T_retP (rs := [.cell 2 26, .tmp 3]) Try.results47 (.cell rfl (i := 5) rfl rfl agg26 (.tmp rfl (.nil))) (Ln := [.r (none) (0) (0) 41 3 ((([] : List S_api_Cell)).flatMap e_api_Cell)]) ⟨none, 0, rfl, rfl, trivial⟩ (loCons rfl (loNil)) (by exact .pick 0 rfl (.drop 0 rfl (.drop 0 rfl (.drop 0 rfl (.drop 0 rfl (.drop 0 rfl (.refl)))))))
                · have hx162 := ite_f h160 hx156
                  refine T_condF rfl ?_
                  refine T_skip ?_
                  refine T_next ?_
                  obtain ⟨j49, hj49, hx162⟩ := jn_some hx162
                  refine T_cutP (τ := List S_api_Cell) (γ := (Option Addr) × Nat) (J := j49) (out := x135) (fun s49 y49 => [(0, .slice (A0_0) ((p0).length) (c0_0)), (2, .pointer (some ⟨g1, 0, none⟩)), (4, .pointer (some ⟨g14, 0, none⟩)), (5, .pointer (some ⟨g15, 0, none⟩)), (6, .int .i64 (s135.2.2.2)), (7, .int .i64 (w64 (r36.2 * r42.2))), (9, .int .i64 (r154.2))]) (fun s49 y49 => [.m g14 135 [.slice (A157) ((r154.1.rest).length) (c158), .bool (r154.1.bad)], .r (y49.1) ((s49).length) (y49.2) 41 3 ((s49).flatMap e_api_Cell), .m g15 26 [.int .i64 (r18.2), .int .i64 (r24.2), .int .i64 (r30.2), .int .i64 (r36.2), .int .i64 (r42.2), .slice (y49.1) ((s49).length) (y49.2)], .r (A12) (((([] : List Int)) ++ (subl p0 0 (w64 (((((p0).length : Nat) : Int)) - 4)))).length) (c13) 5 1 (((([] : List Int)) ++ (subl p0 0 (w64 (((((p0).length : Nat) : Int)) - 4)))).flatMap e_u8), .m g1 26 [.int .i64 (0), .int .i64 (0), .int .i64 (0), .int .i64 (0), .int .i64 (0), .slice (none) (0) (0)]] ++ [.old w]) (fun s49 y49 => True) ?_ ?_
                  · intro s49 y49 hx181 hG182
                    subst hj49
                    obtain ⟨j57, hj57, hx181⟩ := jn_some hx181
                    refine T_cutP (τ := Bool) (γ := Unit) (J := j57) (out := x135) (fun s57 y57 => [(0, .slice (A0_0) ((p0).length) (c0_0)), (2, .pointer (some ⟨g1, 0, none⟩)), (4, .pointer (some ⟨g14, 0, none⟩)), (5, .pointer (some ⟨g15, 0, none⟩)), (6, .int .i64 (s135.2.2.2)), (7, .int .i64 (w64 (r36.2 * r42.2)))]) (fun s57 y57 => [.m g14 135 [.slice (A157) ((r154.1.rest).length) (c158), .bool (s57)], .r (y49.1) ((s49).length) (y49.2) 41 3 ((s49).flatMap e_api_Cell), .m g15 26 [.int .i64 (r18.2), .int .i64 (r24.2), .int .i64 (r30.2), .int .i64 (r36.2), .int .i64 (r42.2), .slice (y49.1) ((s49).length) (y49.2)], .r (A12) (((([] : List Int)) ++ (subl p0 0 (w64 (((((p0).length : Nat) : Int)) - 4)))).length) (c13) 5 1 (((([] : List Int)) ++ (subl p0 0 (w64 (((((p0).length : Nat) : Int)) - 4)))).flatMap e_u8), .m g1 26 [.int .i64 (0), .int .i64 (0), .int .i64 (0), .int .i64 (0), .int .i64 (0), .slice (none) (0) (0)]] ++ [.old w]) (fun s57 y57 => True) ?_ ?_
                    · intro s57 y57 hx186 hG187
                      subst hj57
                      refine T_exit ?_
                      refine T_outX ?_
                      refine T_here ?_
                      exact T_roundP (r154.1.rest, s57, s49, s135.2.2.2) (A157, c158, y49.1, y49.2) hx186 ((by exact ⟨Has.len' hs159, trivial⟩)) (by exact .cons rfl (.cons rfl (.cons rfl (.cons rfl (.cons rfl (.cons rfl (.nil))))))) (by exact .pick 1 rfl (.pick 0 rfl (.pick 0 rfl (.pick 0 rfl (.pick 0 rfl (.refl))))))
                    · skip
                      refine T_reg ?_
                      refine T_val (Ev_move rfl) rfl ?_
                      refine T_val (Ev_move rfl) rfl ?_
                      refine T_val (Ev_nilCheck rfl) rfl ?_
                      refine T_val (Ev_field rfl fld135_1 rfl) rfl ?_
                      refine T_val (Ev_load1 rfl (i := 0) rfl rfl one4) rfl ?_
                      refine T_val (Ev_move rfl) rfl ?_
                      refine T_caseB (s := 108) rfl (fun h183 => ?_) (fun h183 => ?_)
                      · have hx184 := ite_t h183 hx181
                        refine T_skipG rfl rfl rfl rfl rfl ?_
                        refine T_skipG rfl rfl rfl rfl rfl ?_
                        refine T_val (Ev_pickT rfl rfl) rfl ?_
                        refine T_val (Ev_nilCheck rfl) rfl ?_
                        refine T_val (Ev_field rfl fld135_1 rfl) rfl ?_
                        refine T_h (Wh_store rfl rfl rfl (.here) (.skip (.put (.done))) rfl (List.cons_ne_nil _ _) one4.2 ?_)
                        refine T_nil ?_
                        exact T_metP true () hx184 trivial (by exact .cons rfl (.cons rfl (.cons rfl (.cons rfl (.cons rfl (.cons rfl (.nil))))))) (by exact .pick 0 rfl (.pick 0 rfl (.pick 0 rfl (.pick 0 rfl (.pick 0 rfl (.refl))))))
                      · have hx185 := ite_bf h183 hx181
                        refine T_valG rfl rfl rfl (Ev_move rfl) rfl ?_
                        refine T_valG rfl rfl rfl (Ev_eql rfl rfl) rfl ?_
                        refine T_val (Ev_pickF rfl rfl) rfl ?_
                        refine T_val (Ev_nilCheck rfl) rfl ?_
                        refine T_val (Ev_field rfl fld135_1 rfl) rfl ?_
                        refine T_h (Wh_store rfl rfl rfl (.here) (.skip (.put (.done))) rfl (List.cons_ne_nil _ _) one4.2 ?_)
                        refine T_nil ?_
                        exact T_metP (decide (r154.2 = 0)) () hx185 trivial (by exact .cons rfl (.cons rfl (.cons rfl (.cons rfl (.cons rfl (.cons rfl (.nil))))))) (by exact .pick 0 rfl (.pick 0 rfl (.pick 0 rfl (.pick 0 rfl (.pick 0 rfl (.refl))))))
                  · skip
                    refine T_seq ?_
                    refine T_reg ?_
                    refine T_val (Ev_assign rfl) rfl ?_
                    refine T_nil ?_
                    refine T_next ?_
                    refine T_block ?_
                    obtain ⟨t172, hl172, ho172⟩ := bnd_some hx162
                    refine T_loopP (σ := (List S_api_Cell) × Int) (γ := (Option Addr) × Nat) hl172 (fun s172 y172 => [(0, .slice (A0_0) ((p0).length) (c0_0)), (2, .pointer (some ⟨g1, 0, none⟩)), (4, .pointer (some ⟨g14, 0, none⟩)), (5, .pointer (some ⟨g15, 0, none⟩)), (6, .int .i64 (s135.2.2.2)), (7, .int .i64 (w64 (r36.2 * r42.2))), (9, .int .i64 (r154.2)), (10, .int .i64 (s172.2))]) (fun s172 y172 => [.m g14 135 [.slice (A157) ((r154.1.rest).length) (c158), .bool (r154.1.bad)], .r (y172.1) ((s172.1).length) (y172.2) 41 3 ((s172.1).flatMap e_api_Cell), .m g15 26 [.int .i64 (r18.2), .int .i64 (r24.2), .int .i64 (r30.2), .int .i64 (r36.2), .int .i64 (r42.2), .slice (y172.1) ((s172.1).length) (y172.2)], .r (A12) (((([] : List Int)) ++ (subl p0 0 (w64 (((((p0).length : Nat) : Int)) - 4)))).length) (c13) 5 1 (((([] : List Int)) ++ (subl p0 0 (w64 (((((p0).length : Nat) : Int)) - 4)))).flatMap e_u8), .m g1 26 [.int .i64 (0), .int .i64 (0), .int .i64 (0), .int .i64 (0), .int .i64 (0), .slice (none) (0) (0)]] ++ [.old w]) (fun s172 y172 => True) (y135.2.2.1, y135.2.2.2) trivial (by exact .cons rfl (.cons rfl (.cons rfl (.cons rfl (.cons rfl (.cons rfl (.cons rfl (.cons rfl (.nil))))))))) (by exact .pick 0 rfl (.pick 0 rfl (.pick 0 rfl (.pick 0 rfl (.pick 0 rfl (.refl)))))) ?_
                    intro s172 y172 hG172 x172 hx172 ht172
                    unfold lidarref09_Decode_l20 at hx172
                    refine T_seq ?_
                    refine T_seq ?_
                    refine T_reg ?_
                    refine T_val (Ev_move rfl) rfl ?_
                    refine T_val (Ev_move rfl) rfl ?_
                    refine T_val (Ev_lss rfl rfl) rfl ?_
                    refine T_nil ?_
                    refine T_next ?_
                    refine T_caseP (s := 94) rfl (fun h173 => ?_) (fun h173 => ?_)
                    · have hx174 := ite_t h173 hx172
                      refine T_condT rfl ?_
                      refine T_skip ?_
                      refine T_next ?_
                      refine T_seq ?_
                      refine T_block ?_
                      refine T_reg ?_
                      refine T_val (Ev_field rfl fld26_1 rfl) rfl ?_
                      refine T_val (Ev_load1 rfl (i := 2) rfl rfl one24) rfl ?_
                      refine T_val (Ev_build rfl (bld41_0b _)) rfl ?_
                      refine T_x (Wx_buildSlice rfl (bls24_1_0abi64i64 _ _ _) rfl (fun g176 => ?_))
                      obtain ⟨h177, hx178⟩ := gd_some hx174
                      refine T_h (Wh_appendP e_api_Cell (s172.1) [(⟨true, (⟨0, 0⟩ : S_api_Span)⟩ : S_api_Cell)] rfl rfl rfl elm24 (fun _ => rfl) (i' := 0) rfl rfl rfl rfl h177 rfl (fun _ _ => .there (.there (.here))) (fun _ _ => .drop .refl) (by decide) (fun A179 c180 => ?_))
                      refine T_val (Ev_field rfl fld26_1 rfl) rfl ?_
                      refine T_h (Wh_store rfl rfl rfl (.there (.there (.here))) (.skip (.skip (.skip (.skip (.skip (.put (.done))))))) rfl (List.cons_ne_nil _ _) one24.2 ?_)
                      refine T_nil ?_
                      refine T_inN ?_
                      refine T_next ?_
                      refine T_reg ?_
                      refine T_val (Ev_move rfl) rfl ?_
                      refine T_val (Ev_add_w64 rfl rfl) rfl ?_
                      refine T_val (Ev_assign rfl) rfl ?_
                      refine T_nil ?_
                      exact T_roundP (s172.1 ++ [(⟨true, (⟨0, 0⟩ : S_api_Span)⟩ : S_api_Cell)], w64 (s172.2 + 1)) (A179, c180) hx178 trivial (by exact .cons rfl (.cons rfl (.cons rfl (.cons rfl (.cons rfl (.cons rfl (.cons rfl (.cons rfl (.nil))))))))) (by exact .pick 0 rfl (.pick 0 rfl (.pick 0 rfl (.pick 0 rfl (.pick 0 rfl (.refl))))))
                    · have hx175 := ite_f h173 hx172
                      refine T_condF rfl ?_
                      refine T_exit ?_
                      refine T_outX ?_
                      obtain rfl := exit_eq ht172 hx175
                      refine T_outX ?_
                      refine T_here ?_
                      exact T_metP s172.1 (y172.1, y172.2) ho172 trivial (by exact .cons rfl (.cons rfl (.cons rfl (.cons rfl (.cons rfl (.cons rfl (.cons rfl (.nil)))))))) (by exact .pick 0 rfl (.pick 0 rfl (.pick 0 rfl (.pick 0 rfl (.pick 0 rfl (.refl))))))
              · have hx188 := ite_f h152 hx148
                refine T_condF rfl ?_
                refine T_skip ?_
                refine T_next ?_
                refine T_seq ?_
                refine T_reg ?_
                refine T_val (Ev_move rfl) rfl ?_
                obtain ⟨r189, h190, hx191⟩ := bnd_some hx188
                refine T_h (Wh_callK rfl (by exact .pick 0 rfl (.refl)) (by exact (SubE.cons2 (i := 2) rfl (SubE.nil))) (lidarref09_reader_number_ok r146.1 true (Has.len' hs151) h190 (K := ([.r (A12) (((([] : List Int)) ++ (subl p0 0 (w64 (((((p0).length : Nat) : Int)) - 4)))).length) (c13) 5 1 (((([] : List Int)) ++ (subl p0 0 (w64 (((((p0).length : Nat) : Int)) - 4)))).flatMap e_u8)] : List Ent))) rfl ?_)
                rintro _ _ ⟨A192, c193, rfl, rfl, hs194, -⟩
                refine T_app1 ?_
                refine T_val (Ev_assign rfl) rfl ?_
                refine T_nil ?_
                refine T_next ?_
                refine T_seq ?_
                obtain ⟨j60, hj60, hx191⟩ := jn_some hx191
                refine T_cutP (τ := Bool) (γ := Unit) (J := j60) (out := x135) (fun s60 y60 => [(0, .slice (A0_0) ((p0).length) (c0_0)), (2, .pointer (some ⟨g1, 0, none⟩)), (4, .pointer (some ⟨g14, 0, none⟩)), (5, .pointer (some ⟨g15, 0, none⟩)), (6, .int .i64 (s135.2.2.2)), (7, .int .i64 (w64 (r36.2 * r42.2))), (8, .int .i64 (r146.2)), (11, .int .i64 (r189.2)), (125, .bool (s60))]) (fun s60 y60 => [.m g14 135 [.slice (A192) ((r189.1.rest).length) (c193), .bool (r189.1.bad)], .r (y135.2.2.1) ((s135.2.2.1).length) (y135.2.2.2) 41 3 ((s135.2.2.1).flatMap e_api_Cell), .m g15 26 [.int .i64 (r18.2), .int .i64 (r24.2), .int .i64 (r30.2), .int .i64 (r36.2), .int .i64 (r42.2), .slice (y135.2.2.1) ((s135.2.2.1).length) (y135.2.2.2)], .r (A12) (((([] : List Int)) ++ (subl p0 0 (w64 (((((p0).length : Nat) : Int)) - 4)))).length) (c13) 5 1 (((([] : List Int)) ++ (subl p0 0 (w64 (((((p0).length : Nat) : Int)) - 4)))).flatMap e_u8), .m g1 26 [.int .i64 (0), .int .i64 (0), .int .i64 (0), .int .i64 (0), .int .i64 (0), .slice (none) (0) (0)]] ++ [.old w]) (fun s60 y60 => True) ?_ ?_
                · intro s60 y60 hx201 hG202
                  subst hj60
                  refine T_caseB (s := 125) rfl (fun h203 => ?_) (fun h203 => ?_)
                  · have hx204 := ite_t h203 hx201
                    refine T_condT rfl ?_
                    refine T_seq ?_
                    refine T_reg ?_
                    refine T_val (Ev_build rfl (bld26_)) rfl ?_
                    refine T_h (Wh_store rfl rfl rfl (.there (.there (.there (.there (.here))))) (.put (.put (.put (.put (.put (.put (.done))))))) rfl (List.cons_ne_nil _ _) agg26.2 ?_)
                    refine T_val (Ev_assign rfl) rfl ?_
                    refine T_nil ?_
                    refine T_next ?_
                    refine T_retc ?_
                    refine T_outR ?_
                    refine T_inR ?_
                    obtain rfl := exit_eq ht135 hx204
                    refine T_outR ?_
                    refine T_inR ?_
                    refine T_outR ?_
                    refine T_none 41 3 ?_
                    obtain rfl := Option.some.inj ho135
                    exact T_retP (rs := [.cell 2 26, .tmp 3]) Try.results47 (.cell rfl (i := 5) rfl rfl agg26 (.tmp rfl (.nil))) (Ln := [.r (none) (0) (0) 41 3 ((([] : List S_api_Cell)).flatMap e_api_Cell)]) ⟨none, 0, rfl, rfl, trivial⟩ (loCons rfl (loNil)) (by exact .pick 0 rfl (.drop 0 rfl (.drop 0 rfl (.drop 0 rfl (.drop 0 rfl (.drop 0 rfl (.refl)))))))
                  · have hx205 := ite_bf h203 hx201
                    refine T_condF rfl ?_
                    refine T_skip ?_
                    refine T_next ?_
                    refine T_seq ?_
                    refine T_reg ?_
                    refine T_val (Ev_move rfl) rfl ?_
                    refine T_val (Ev_move rfl) rfl ?_
                    refine T_val (Ev_add_w64 rfl rfl) rfl ?_
                    refine T_val (Ev_assign rfl) rfl ?_
                    refine T_nil ?_
                    refine T_next ?_
                    refine T_reg ?_
                    refine T_val (Ev_field rfl fld26_1 rfl) rfl ?_
                    refine T_val (Ev_load1 rfl (i := 2) rfl rfl one24) rfl ?_
                    refine T_val (Ev_move rfl) rfl ?_
                    refine T_val (Ev_move rfl) rfl ?_
                    refine T_val (Ev_move rfl) rfl ?_
                    refine T_val (Ev_add_w64 rfl rfl) rfl ?_
                    refine T_val (Ev_sub_w64 rfl rfl) rfl ?_
                    refine T_val (Ev_build rfl (bld39_0i641i64 _ _)) rfl ?_
                    refine T_val (Ev_build rfl (bld41_1ai64i64 _ _)) rfl ?_
                    refine T_x (Wx_buildSlice rfl (bls24_1_0abi64i64 _ _ _) rfl (fun g206 => ?_))
                    obtain ⟨h207, hx208⟩ := gd_some hx205
                    refine T_h (Wh_appendP e_api_Cell (s135.2.2.1) [(⟨false, (⟨w64 (s135.2.2.2 + r189.2), w64 ((w64 ((w64 (s135.2.2.2 + r189.2)) + r146.2)) - 1)⟩ : S_api_Span)⟩ : S_api_Cell)] rfl rfl rfl elm24 (fun _ => rfl) (i' := 0) rfl rfl rfl rfl h207 rfl (fun _ _ => .there (.there (.here))) (fun _ _ => .drop .refl) (by decide) (fun A209 c210 => ?_))
                    refine T_val (Ev_field rfl fld26_1 rfl) rfl ?_
                    refine T_h (Wh_store rfl rfl rfl (.there (.there (.here))) (.skip (.skip (.skip (.skip (.skip (.put (.done))))))) rfl (List.cons_ne_nil _ _) one24.2 ?_)
                    refine T_nil ?_
                    refine T_inN ?_
                    exact T_roundP (r189.1.rest, r189.1.bad, s135.2.2.1 ++ [(⟨false, (⟨w64 (s135.2.2.2 + r189.2), w64 ((w64 ((w64 (s135.2.2.2 + r189.2)) + r146.2)) - 1)⟩ : S_api_Span)⟩ : S_api_Cell)], w64 (s135.2.2.2 + r189.2)) (A192, c193, A209, c210) hx208 ((by exact ⟨Has.len' hs194, trivial⟩)) (by exact .cons rfl (.cons rfl (.cons rfl (.cons rfl (.cons rfl (.cons rfl (.nil))))))) (by exact .pick 1 rfl (.pick 0 rfl (.pick 0 rfl (.pick 0 rfl (.pick 0 rfl (.refl))))))
                · skip
                  refine T_reg ?_
                  refine T_val (Ev_move rfl) rfl ?_
                  refine T_val (Ev_gtr rfl rfl) rfl ?_
                  refine T_val (Ev_move rfl) rfl ?_
                  refine T_caseP (s := 118) rfl (fun h195 => ?_) (fun h195 => ?_)
                  · have hx196 := ite_t h195 hx191
                    refine T_skipG rfl rfl rfl rfl rfl ?_
                    refine T_skipG rfl rfl rfl rfl rfl ?_
                    refine T_val (Ev_pickT rfl rfl) rfl ?_
                    refine T_val (Ev_move rfl) rfl ?_
                    refine T_skipG rfl rfl rfl rfl rfl ?_
                    refine T_skipG rfl rfl rfl rfl rfl ?_
                    refine T_val (Ev_pickT rfl rfl) rfl ?_
                    refine T_nil ?_
                    exact T_metP true () hx196 trivial (by exact .cons rfl (.cons rfl (.cons rfl (.cons rfl (.cons rfl (.cons rfl (.cons rfl (.cons rfl (.cons rfl (.nil)))))))))) (by exact .pick 0 rfl (.pick 0 rfl (.pick 0 rfl (.pick 0 rfl (.pick 0 rfl (.refl))))))
                  · have hx197 := ite_f h195 hx191
                    refine T_valG rfl rfl rfl (Ev_move rfl) rfl ?_
                    refine T_valG rfl rfl rfl (Ev_lss rfl rfl) rfl ?_
                    refine T_val (Ev_pickF rfl rfl) rfl ?_
                    refine T_val (Ev_move rfl) rfl ?_
                    refine T_caseP (s := 122) rfl (fun h198 => ?_) (fun h198 => ?_)
                    · have hx199 := ite_t h198 hx197
                      refine T_skipG rfl rfl rfl rfl rfl ?_
                      refine T_skipG rfl rfl rfl rfl rfl ?_
                      refine T_val (Ev_pickT rfl rfl) rfl ?_
                      refine T_nil ?_
                      exact T_metP true () hx199 trivial (by exact .cons rfl (.cons rfl (.cons rfl (.cons rfl (.cons rfl (.cons rfl (.cons rfl (.cons rfl (.cons rfl (.nil)))))))))) (by exact .pick 0 rfl (.pick 0 rfl (.pick 0 rfl (.pick 0 rfl (.pick 0 rfl (.refl))))))
                    · have hx200 := ite_f h198 hx197
                      refine T_valG rfl rfl rfl (Ev_move rfl) rfl ?_
                      refine T_valG rfl rfl rfl (Ev_gtr rfl rfl) rfl ?_
                      refine T_val (Ev_pickF rfl rfl) rfl ?_
                      refine T_nil ?_
                      exact T_metP (decide (1073741824 < r189.2)) () hx200 trivial (by exact .cons rfl (.cons rfl (.cons rfl (.cons rfl (.cons rfl (.cons rfl (.cons rfl (.cons rfl (.cons rfl (.nil)))))))))) (by exact .pick 0 rfl (.pick 0 rfl (.pick 0 rfl (.pick 0 rfl (.pick 0 rfl (.refl))))))
            · have hx145 := ite_bf h143 hx141
              refine T_condF rfl ?_
              refine T_exit ?_
              refine T_outX ?_
              obtain rfl := exit_eq ht135 hx145
              refine T_outX ?_
              refine T_here ?_
              exact T_metP (s135.1, s135.2.1, s135.2.2.1) (y135.1, y135.2.1, y135.2.2.1, y135.2.2.2) ho135 ((by exact ⟨Has.len' hs137, trivial⟩)) (by exact .cons rfl (.cons rfl (.cons rfl (.cons rfl (.nil))))) (by exact .pick 0 rfl (.pick 0 rfl (.pick 0 rfl (.pick 0 rfl (.pick 0 rfl (.refl))))))
          · skip
            refine T_reg ?_
            refine T_val (Ev_field rfl fld26_1 rfl) rfl ?_
            refine T_val (Ev_load1 rfl (i := 2) rfl rfl one24) rfl ?_
            refine T_val (Ev_len rfl 41 Try.underlying24) rfl ?_
            refine T_val (Ev_move rfl) rfl ?_
            refine T_val (Ev_lss rfl rfl) rfl ?_
            refine T_val (Ev_move rfl) rfl ?_
            refine T_caseP (s := 71) rfl (fun h138 => ?_) (fun h138 => ?_)
            · have hx139 := ite_t h138 hx135
              refine T_valG rfl rfl rfl (Ev_move rfl) rfl ?_
              refine T_valG rfl rfl rfl (Ev_nilCheck rfl) rfl ?_
              refine T_valG rfl rfl rfl (Ev_field rfl fld135_1 rfl) rfl ?_
              refine T_valG rfl rfl rfl (Ev_load1 rfl (i := 1) rfl rfl one4) rfl ?_
              refine T_valG rfl rfl rfl (Ev_not rfl) rfl ?_
              refine T_val (Ev_pickT rfl rfl) rfl ?_
              refine T_nil ?_
              exact T_metP (!(s135.2.1)) () hx139 trivial (by exact .cons rfl (.cons rfl (.cons rfl (.cons rfl (.cons rfl (.cons rfl (.cons rfl (.nil)))))))) (by exact .pick 0 rfl (.pick 0 rfl (.pick 0 rfl (.pick 0 rfl (.pick 0 rfl (.refl))))))
            · have hx140 := ite_f h138 hx135
              refine T_skipG rfl rfl rfl rfl rfl ?_
              refine T_skipG rfl rfl rfl rfl rfl ?_
              refine T_skipG rfl rfl rfl rfl rfl ?_
              refine T_skipG rfl rfl rfl rfl rfl ?_
              refine T_skipG rfl rfl rfl rfl rfl ?_
              refine T_val (Ev_pickF rfl rfl) rfl ?_
              refine T_nil ?_
              exact T_metP false () hx140 trivial (by exact .cons rfl (.cons rfl (.cons rfl (.cons rfl (.cons rfl (.cons rfl (.cons rfl (.nil)))))))) (by exact .pick 0 rfl (.pick 0 rfl (.pick 0 rfl (.pick 0 rfl (.pick 0 rfl (.refl))))))
    · skip
      refine T_reg ?_
      refine T_val (Ev_move rfl) rfl ?_
      refine T_val (Ev_nilCheck rfl) rfl ?_
      refine T_val (Ev_field rfl fld135_1 rfl) rfl ?_
      refine T_val (Ev_load1 rfl (i := 0) rfl rfl one4) rfl ?_
      refine T_val (Ev_move rfl) rfl ?_
      refine T_caseB (s := 52) rfl (fun h48 => ?_) (fun h48 => ?_)
      · have hx49 := ite_t h48 hx44
        refine T_skipG rfl rfl rfl rfl rfl ?_
        refine T_skipG rfl rfl rfl rfl rfl ?_
        refine T_skipG rfl rfl rfl rfl rfl ?_
        refine T_skipG rfl rfl rfl rfl rfl ?_
        refine T_val (Ev_pickT rfl rfl) rfl ?_
        refine T_nil ?_
        exact T_metP true () hx49 trivial (by exact .cons rfl (.cons rfl (.cons rfl (.cons rfl (.cons rfl (.nil)))))) (by exact .pick 0 rfl (.pick 0 rfl (.pick 0 rfl (.pick 0 rfl (.refl)))))
      · have hx50 := ite_bf h48 hx44
        refine T_valG rfl rfl rfl (Ev_field rfl fld26_0 rfl) rfl ?_
        refine T_valG rfl rfl rfl (Ev_loadK rfl (i := 1) rfl rfl agg23) rfl ?_
        obtain ⟨r51, h52, hx53⟩ := bnd_some hx50
        refine T_xG rfl rfl rfl (Wx_callL rfl (fun w1 hw1 => lidarref09_ValidRaster_ok (⟨r18.2, r24.2, r30.2, r36.2, r42.2⟩ : S_api_Raster)  h52 w1) rfl ?_)
        rintro _ _ hlo ⟨rfl, rfl, -⟩
        refine T_app0 ?_
        refine T_valG rfl rfl rfl (Ev_not rfl) rfl ?_
        refine T_val (Ev_pickF rfl rfl) rfl ?_
        refine T_nil ?_
        exact T_metP (!(r51)) () hx53 trivial (by exact .cons rfl (.cons rfl (.cons rfl (.cons rfl (.cons rfl (.nil)))))) (by exact .pick 0 rfl (.pick 0 rfl (.pick 0 rfl (.pick 0 rfl (.refl)))))
set_option maxRecDepth 100000 in
theorem lidarlaw09_ModelDecodes_ok (p0 : List Int) {K : List Ent} {A0_0 : Option Addr} {c0_0 : Nat} (ha0 : Has K A0_0 (p0).length c0_0 1 e_u8 (p0)) {r : Bool} (hx : lidarlaw09_ModelDecodes p0 = some r) (w : World) (hK : ∀ e ∈ K, Ent.ok w e) : CtL Try.prog 11 [.slice (A0_0) ((p0).length) (c0_0)] w fun v Ln => v = .bool (r) ∧ Ln = [] ∧ True := by
  have ha0' := Has.up0 ha0
  refine CtL.mk 32 Try.func11 rfl Try.ntmps11 (by kernel_rfl) rfl ?_
  show T 32 _ [(0, .slice (A0_0) ((p0).length) (c0_0))] _
  unfold lidarlaw09_ModelDecodes at hx
  refine T_seq ?_
  refine T_reg ?_
  refine T_val (Ev_assign rfl) rfl ?_
  refine T_nil ?_
  refine T_next ?_
  refine T_seq ?_
  refine T_seq ?_
  refine T_reg ?_
  refine T_val (Ev_move rfl) rfl ?_
  refine T_val (Ev_len rfl 5 Try.underlying73) rfl ?_
  refine T_val (Ev_gtr rfl rfl) rfl ?_
  refine T_nil ?_
  refine T_next ?_
  refine T_caseP (s := 9) rfl (fun h1 => ?_) (fun h1 => ?_)
  · have hx2 := ite_t h1 hx
    refine T_condT rfl ?_
    refine T_seq ?_
    refine T_reg ?_
    obtain ⟨r3, h4, hx5⟩ := bnd_some hx2
    refine T_x (Wx_callL rfl (fun w1 hw1 => lidarlaw09_first_ok  h4 w1) rfl ?_)
    rintro _ _ hlo ⟨rfl, rfl, -⟩
    refine T_app0 ?_
    refine T_val (Ev_assign rfl) rfl ?_
    refine T_nil ?_
    refine T_next ?_
    refine T_retc ?_
    refine T_outR ?_
    obtain rfl := Option.some.inj hx5
    exact T_retP (rs := [.tmp 2]) Try.results11 (.tmp rfl (.nil)) (Ln := []) ⟨rfl, rfl, trivial⟩ (loNil) (by exact .refl)
  · have hx6 := ite_f h1 hx
    refine T_condF rfl ?_
    refine T_skip ?_
    refine T_next ?_
    refine T_seq ?_
    refine T_reg ?_
    refine T_val (Ev_move rfl) rfl ?_
    obtain ⟨r7, h8, hx9⟩ := bnd_some hx6
    refine T_x (Wx_callL rfl (fun w1 hw1 => model_Decode_ok p0 (Has.len' ha0') h8 w1 (okApp (K := K) (K2 := []) hK (by exact (SubE.cons2 (i := 0) rfl (SubE.nil))) (by exact (SubE.nil)) hw1)) rfl ?_)
    rintro _ _ hlo ⟨A10, c11, rfl, rfl, -⟩
    refine T_app1 ?_
    refine T_val (Ev_move rfl) rfl ?_
    refine T_val (Ev_extract rfl rfl) rfl ?_
    refine T_val (Ev_extract rfl rfl) rfl ?_
    refine T_x (Wx_alloc zer26 rfl (fun g12 => ?_))
    refine T_h (Wh_store rfl rfl rfl (.here) (.put (.put (.put (.put (.put (.put (.done))))))) rfl (List.cons_ne_nil _ _) agg26.2 ?_)
    refine T_val (Ev_assign rfl) rfl ?_
    refine T_nil ?_
    refine T_next ?_
    refine T_seq ?_
    refine T_reg ?_
    refine T_val (Ev_move rfl) rfl ?_
    obtain ⟨r13, h14, hx15⟩ := bnd_some hx9
    refine T_x (Wx_callL rfl (fun w1 hw1 => lidarref09_Decode_ok p0 (Has.len' ha0') h14 w1 (okApp (K := K) (K2 := []) hK (by exact (SubE.cons2 (i := 2) rfl (SubE.nil))) (by exact (SubE.nil)) hw1)) rfl ?_)
    rintro _ _ hlo ⟨A16, c17, rfl, rfl, -⟩
    refine T_app1 ?_
    refine T_val (Ev_move rfl) rfl ?_
    refine T_val (Ev_extract rfl rfl) rfl ?_
    refine T_val (Ev_extract rfl rfl) rfl ?_
    refine T_x (Wx_alloc zer26 rfl (fun g18 => ?_))
    refine T_h (Wh_store rfl rfl rfl (.here) (.put (.put (.put (.put (.put (.put (.done))))))) rfl (List.cons_ne_nil _ _) agg26.2 ?_)
    refine T_val (Ev_assign rfl) rfl ?_
    refine T_nil ?_
    refine T_next ?_
    obtain ⟨j7, hj7, hx15⟩ := jn_some hx15
    refine T_cutP (τ := Bool) (γ := Unit) (J := j7) (out := r) (fun s7 y7 => [(2, .bool (s7))]) (fun s7 y7 => [] ++ [.old w]) (fun s7 y7 => True) ?_ ?_
    · intro s7 y7 hx35 hG36
      subst hj7
      refine T_retc ?_
      obtain rfl := Option.some.inj hx35
      exact T_retP (rs := [.tmp 2]) Try.results11 (.tmp rfl (.nil)) (Ln := []) ⟨rfl, rfl, trivial⟩ (loNil) (by exact .refl)
    · skip
      refine T_reg ?_
      refine T_val (Ev_move rfl) rfl ?_
      refine T_val (Ev_move rfl) rfl ?_
      refine T_val (Ev_eql rfl rfl) rfl ?_
      refine T_val (Ev_move rfl) rfl ?_
      refine T_caseP (s := 24) rfl (fun h19 => ?_) (fun h19 => ?_)
      · have hx20 := ite_t h19 hx15
        refine T_valG rfl rfl rfl (Ev_loadK rfl (i := 2) rfl rfl agg26) rfl ?_
        refine T_valG rfl rfl rfl (Ev_loadK rfl (i := 0) rfl rfl agg26) rfl ?_
        refine T_rowP (k := 3) rfl (by decide) (fun _ => rfl) (fun hn21 hs22 => ?_)
        refine T_rowP (k := 1) rfl (by decide) (fun _ => rfl) (fun hn23 hs24 => ?_)
        obtain ⟨r25, h26, hx27⟩ := bnd_some hx20
        refine T_xG rfl rfl rfl (Wx_callL rfl (fun w1 hw1 => lidarlaw09_Same_ok r7.1 r13.1 (Has.len' (Has.up (L := ([.r (A10) ((r7.1.Cells).length) (c11) 41 3 ((r7.1.Cells).flatMap e_api_Cell), .r (A16) ((r13.1.Cells).length) (c17) 41 3 ((r13.1.Cells).flatMap e_api_Cell)] : List Ent)) hs22 (SubE.cons2 (i := 0) rfl (SubE.nil)))) (Has.len' (Has.up (L := ([.r (A10) ((r7.1.Cells).length) (c11) 41 3 ((r7.1.Cells).flatMap e_api_Cell), .r (A16) ((r13.1.Cells).length) (c17) 41 3 ((r13.1.Cells).flatMap e_api_Cell)] : List Ent)) hs24 (SubE.cons2 (i := 1) rfl (SubE.nil)))) h26 w1 (okAll (K := ([.r (A10) ((r7.1.Cells).length) (c11) 41 3 ((r7.1.Cells).flatMap e_api_Cell), .r (A16) ((r13.1.Cells).length) (c17) 41 3 ((r13.1.Cells).flatMap e_api_Cell)] : List Ent)) (by exact (SubE.cons2 (i := 3) rfl (SubE.cons2 (i := 1) rfl (SubE.nil)))) hw1)) rfl ?_)
        rintro _ _ hlo ⟨rfl, rfl, -⟩
        refine T_app0 ?_
        refine T_val (Ev_pickT rfl rfl) rfl ?_
        refine T_val (Ev_move rfl) rfl ?_
        refine T_caseB (s := 29) rfl (fun h28 => ?_) (fun h28 => ?_)
        · have hx29 := ite_t h28 hx27
          obtain ⟨r30, h31, hx32⟩ := bnd_some hx29
          refine T_xG rfl rfl rfl (Wx_callL rfl (fun w1 hw1 => lidarlaw09_first_ok  h31 w1) rfl ?_)
          rintro _ _ hlo ⟨rfl, rfl, -⟩
          refine T_app0 ?_
          refine T_val (Ev_pickT rfl rfl) rfl ?_
          refine T_val (Ev_assign rfl) rfl ?_
          refine T_nil ?_
          exact T_metP r30 () hx32 trivial (by exact .cons rfl (.nil)) (by exact .drop 0 rfl (.drop 0 rfl (.drop 0 rfl (.drop 0 rfl (.refl)))))
        · have hx33 := ite_bf h28 hx27
          refine T_skipG rfl rfl rfl rfl rfl ?_
          refine T_val (Ev_pickF rfl rfl) rfl ?_
          refine T_val (Ev_assign rfl) rfl ?_
          refine T_nil ?_
          exact T_metP false () hx33 trivial (by exact .cons rfl (.nil)) (by exact .drop 0 rfl (.drop 0 rfl (.drop 0 rfl (.drop 0 rfl (.refl)))))
      · have hx34 := ite_f h19 hx15
        refine T_skipG rfl rfl rfl rfl rfl ?_
        refine T_skipG rfl rfl rfl rfl rfl ?_
        refine T_skipG rfl rfl rfl rfl rfl ?_
        refine T_val (Ev_pickF rfl rfl) rfl ?_
        refine T_val (Ev_move rfl) rfl ?_
        refine T_skipG rfl rfl rfl rfl rfl ?_
        refine T_val (Ev_pickF rfl rfl) rfl ?_
        refine T_val (Ev_assign rfl) rfl ?_
        refine T_nil ?_
        exact T_metP false () hx34 trivial (by exact .cons rfl (.nil)) (by exact .drop 0 rfl (.drop 0 rfl (.drop 0 rfl (.drop 0 rfl (.refl)))))
set_option maxRecDepth 100000 in
theorem lidarlaw09_ModelReturns_ok (p0 : S_api_Grid) {K : List Ent} {A0_0 : Option Addr} {c0_0 : Nat} (ha0 : Has K A0_0 (p0.Cells).length c0_0 3 e_api_Cell (p0.Cells)) {r : Bool} (hx : lidarlaw09_ModelReturns p0 = some r) (w : World) (hK : ∀ e ∈ K, Ent.ok w e) : CtL Try.prog 12 [.agg #[.int .i64 (p0.Raster.X0), .int .i64 (p0.Raster.Y0), .int .i64 (p0.Raster.Step), .int .i64 (p0.Raster.NX), .int .i64 (p0.Raster.NY), .slice (A0_0) ((p0.Cells).length) (c0_0)]] w fun v Ln => v = .bool (r) ∧ Ln = [] ∧ True := by
  have ha0' := Has.up0 ha0
  refine CtL.mk 65 Try.func12 rfl Try.ntmps12 (by kernel_rfl) rfl ?_
  show T 65 _ [(0, .agg #[.int .i64 (p0.Raster.X0), .int .i64 (p0.Raster.Y0), .int .i64 (p0.Raster.Step), .int .i64 (p0.Raster.NX), .int .i64 (p0.Raster.NY), .slice (A0_0) ((p0.Cells).length) (c0_0)])] _
  unfold lidarlaw09_ModelReturns at hx
  refine T_seq ?_
  refine T_reg ?_
  refine T_x (Wx_box rfl rfl rfl (fun g1 => ?_))
  refine T_val (Ev_assign rfl) rfl ?_
  refine T_nil ?_
  refine T_next ?_
  refine T_seq ?_
  refine T_seq ?_
  refine T_reg ?_
  refine T_val (Ev_loadK rfl (i := 0) rfl rfl agg26) rfl ?_
  obtain ⟨r2, h3, hx4⟩ := bnd_some hx
  refine T_x (Wx_callL rfl (fun w1 hw1 => lidarlaw09_good_ok p0 (Has.len' ha0') h3 w1 (okApp (K := K) (K2 := []) hK (by exact (SubE.cons2 (i := 1) rfl (SubE.nil))) (by exact (SubE.nil)) hw1)) rfl ?_)
  rintro _ _ hlo ⟨rfl, rfl, -⟩
  refine T_app0 ?_
  refine T_val (Ev_not rfl) rfl ?_
  refine T_nil ?_
  refine T_next ?_
  refine T_caseNB (s := 9) rfl (fun h5 => ?_) (fun h5 => ?_)
  · have hx6 := ite_bf h5 hx4
    refine T_condT rfl ?_
    refine T_seq ?_
    refine T_reg ?_
    obtain ⟨r7, h8, hx9⟩ := bnd_some hx6
    refine T_x (Wx_callL rfl (fun w1 hw1 => lidarlaw09_first_ok  h8 w1) rfl ?_)
    rintro _ _ hlo ⟨rfl, rfl, -⟩
    refine T_app0 ?_
    refine T_val (Ev_assign rfl) rfl ?_
    refine T_nil ?_
    refine T_next ?_
    refine T_retc ?_
    refine T_outR ?_
    obtain rfl := Option.some.inj hx9
    exact T_retP (rs := [.tmp 2]) Try.results12 (.tmp rfl (.nil)) (Ln := []) ⟨rfl, rfl, trivial⟩ (loNil) (by exact .drop 0 rfl (.refl))
  · have hx10 := ite_t h5 hx4
    refine T_condF rfl ?_
    refine T_skip ?_
    refine T_next ?_
    refine T_seq ?_
    refine T_reg ?_
    refine T_val (Ev_loadK rfl (i := 0) rfl rfl agg26) rfl ?_
    obtain ⟨r11, h12, hx13⟩ := bnd_some hx10
    refine T_x (Wx_callL rfl (fun w1 hw1 => model_Encode_ok p0 (Has.len' ha0') h12 w1 (okApp (K := K) (K2 := []) hK (by exact (SubE.cons2 (i := 1) rfl (SubE.nil))) (by exact (SubE.nil)) hw1)) rfl ?_)
    rintro _ _ hlo ⟨A14, c15, rfl, rfl, -⟩
    refine T_app1 ?_
    refine T_val (Ev_move rfl) rfl ?_
    refine T_val (Ev_extract rfl rfl) rfl ?_
    refine T_val (Ev_extract rfl rfl) rfl ?_
    refine T_val (Ev_assign rfl) rfl ?_
    refine T_val (Ev_assign rfl) rfl ?_
    refine T_nil ?_
    refine T_next ?_
    refine T_seq ?_
    refine T_reg ?_
    refine T_val (Ev_move rfl) rfl ?_
    refine T_rowP (k := 0) rfl (by decide) (fun _ => rfl) (fun hn16 hs17 => ?_)
    obtain ⟨r18, h19, hx20⟩ := bnd_some hx13
    refine T_x (Wx_callL rfl (fun w1 hw1 => model_Decode_ok r11.1 (Has.len' hs17) h19 w1 (okAll (K := ([.r (A14) ((r11.1).length) (c15) 5 1 ((r11.1).flatMap e_u8)] : List Ent)) (by exact (SubE.cons2 (i := 0) rfl (SubE.nil))) hw1)) rfl ?_)
    rintro _ _ hlo ⟨A21, c22, rfl, rfl, -⟩
    refine T_app1 ?_
    refine T_val (Ev_move rfl) rfl ?_
    refine T_val (Ev_extract rfl rfl) rfl ?_
    refine T_val (Ev_extract rfl rfl) rfl ?_
    refine T_x (Wx_alloc zer26 rfl (fun g23 => ?_))
    refine T_h (Wh_store rfl rfl rfl (.here) (.put (.put (.put (.put (.put (.put (.done))))))) rfl (List.cons_ne_nil _ _) agg26.2 ?_)
    refine T_val (Ev_assign rfl) rfl ?_
    refine T_nil ?_
    refine T_next ?_
    refine T_seq ?_
    obtain ⟨j8, hj8, hx20⟩ := jn_some hx20
    refine T_cutP (τ := Bool) (γ := Unit) (J := j8) (out := r) (fun s8 y8 => [(3, .slice (A14) ((r11.1).length) (c15)), (37, .bool (s8))]) (fun s8 y8 => [.r (A14) ((r11.1).length) (c15) 5 1 ((r11.1).flatMap e_u8)] ++ [.old w]) (fun s8 y8 => True) ?_ ?_
    · intro s8 y8 hx38 hG39
      subst hj8
      refine T_caseB (s := 37) rfl (fun h40 => ?_) (fun h40 => ?_)
      · have hx41 := ite_t h40 hx38
        refine T_condT rfl ?_
        refine T_seq ?_
        refine T_reg ?_
        refine T_val (Ev_assign rfl) rfl ?_
        refine T_nil ?_
        refine T_next ?_
        refine T_retc ?_
        refine T_outR ?_
        obtain rfl := Option.some.inj hx41
        exact T_retP (rs := [.tmp 2]) Try.results12 (.tmp rfl (.nil)) (Ln := []) ⟨rfl, rfl, trivial⟩ (loNil) (by exact .drop 0 rfl (.refl))
      · have hx42 := ite_bf h40 hx38
        refine T_condF rfl ?_
        refine T_skip ?_
        refine T_next ?_
        refine T_seq ?_
        refine T_reg ?_
        refine T_x (Wx_buildSlice rfl (bls73_0_) rfl (fun g43 => ?_))
        refine T_val (Ev_move rfl) rfl ?_
        refine T_mr (enc := e_u8) (sz := 1) (([] : List Int)) (.here) rfl rfl (fun _ => rfl) (by decide) ?_
        refine T_rowP (k := 1) rfl (by decide) (fun _ => rfl) (fun hn44 hs45 => ?_)
        obtain ⟨h46, hx47⟩ := gd_some hx42
        refine T_h (Wh_appendH e_u8 (([] : List Int)) (r11.1) rfl rfl elm73 (fun _ => rfl) hs45 (SubE.cons2 (i := 1) rfl (SubE.nil)) (fun _ => rfl) h46 rfl (fun _ _ => .here) (by decide) (fun A48 c49 => ?_))
        refine T_x (Wx_buildSlice rfl (bls73_1_0u8 _) rfl (fun g50 => ?_))
        obtain ⟨h51, hx52⟩ := gd_some hx47
        refine T_h (Wh_appendP e_u8 ((([] : List Int)) ++ r11.1) [0] rfl rfl rfl elm73 (fun _ => rfl) (i' := 0) rfl rfl rfl rfl h51 rfl (fun _ _ => .there (.here)) (fun _ _ => .drop .refl) (by decide) (fun A53 c54 => ?_))
        refine T_rowP (k := 0) rfl (by decide) (fun _ => rfl) (fun hn55 hs56 => ?_)
        obtain ⟨r57, h58, hx59⟩ := bnd_some hx52
        refine T_x (Wx_callL rfl (fun w1 hw1 => model_Decode_ok (((([] : List Int)) ++ r11.1) ++ [0]) (Has.len' hs56) h58 w1 (okAll (K := ([.r (A53) ((((([] : List Int)) ++ r11.1) ++ [0]).length) (c54) 5 1 ((((([] : List Int)) ++ r11.1) ++ [0]).flatMap e_u8)] : List Ent)) (by exact (SubE.cons2 (i := 0) rfl (SubE.nil))) hw1)) rfl ?_)
        rintro _ _ hlo ⟨A60, c61, rfl, rfl, -⟩
        refine T_app1 ?_
        refine T_val (Ev_move rfl) rfl ?_
        refine T_val (Ev_extract rfl rfl) rfl ?_
        refine T_val (Ev_extract rfl rfl) rfl ?_
        refine T_val (Ev_assign rfl) rfl ?_
        refine T_nil ?_
        refine T_next ?_
        refine T_seq ?_
        refine T_reg ?_
        refine T_val (Ev_move rfl) rfl ?_
        refine T_val (Ev_move rfl) rfl ?_
        refine T_val (Ev_len rfl 5 Try.underlying73) rfl ?_
        refine T_val (Ev_sub_w64 rfl rfl) rfl ?_
        refine T_rowP (k := 2) rfl (by decide) (fun _ => rfl) (fun hn62 hs63 => ?_)
        obtain ⟨h65, hx66⟩ := gd_some hx59
        have hs64 := Has.subH hs63 h65.1 h65.2
        refine T_val (Ev_subH rfl rfl slc73 h65.1 (by have := Has.nc hs63; omega)) rfl ?_
        refine T_slot (s := 52) (v' := .slice (A14) ((subl r11.1 0 (w64 (((((r11.1).length : Nat) : Int)) - 1))).length) (c15)) rfl (by have hn67 : (Int.toNat (w64 (((((r11.1).length : Nat) : Int)) - 1))) = (subl r11.1 0 (w64 (((((r11.1).length : Nat) : Int)) - 1))).length := (Has.len hs64).symm; first | (rw [← hn67]; done) | rfl) ?_
        obtain ⟨r68, h69, hx70⟩ := bnd_some hx66
        refine T_x (Wx_callL rfl (fun w1 hw1 => model_Decode_ok (subl r11.1 0 (w64 (((((r11.1).length : Nat) : Int)) - 1))) (Has.len' hs64) h69 w1 (okAll (K := ([.r (A14) ((r11.1).length) (c15) 5 1 ((r11.1).flatMap e_u8)] : List Ent)) (by exact (SubE.cons2 (i := 2) rfl (SubE.nil))) hw1)) rfl ?_)
        rintro _ _ hlo ⟨A71, c72, rfl, rfl, -⟩
        refine T_app1 ?_
        refine T_val (Ev_move rfl) rfl ?_
        refine T_val (Ev_extract rfl rfl) rfl ?_
        refine T_val (Ev_extract rfl rfl) rfl ?_
        refine T_val (Ev_assign rfl) rfl ?_
        refine T_nil ?_
        refine T_next ?_
        obtain ⟨j12, hj12, hx70⟩ := jn_some hx70
        refine T_cutP (τ := Bool) (γ := Unit) (J := j12) (out := r) (fun s12 y12 => [(2, .bool (s12))]) (fun s12 y12 => [] ++ [.old w]) (fun s12 y12 => True) ?_ ?_
        · intro s12 y12 hx82 hG83
          subst hj12
          refine T_retc ?_
          obtain rfl := Option.some.inj hx82
          exact T_retP (rs := [.tmp 2]) Try.results12 (.tmp rfl (.nil)) (Ln := []) ⟨rfl, rfl, trivial⟩ (loNil) (by exact .refl)
        · skip
          refine T_reg ?_
          refine T_val (Ev_move rfl) rfl ?_
          refine T_val (Ev_eql rfl rfl) rfl ?_
          refine T_val (Ev_move rfl) rfl ?_
          refine T_caseP (s := 58) rfl (fun h73 => ?_) (fun h73 => ?_)
          · have hx74 := ite_t h73 hx70
            refine T_valG rfl rfl rfl (Ev_move rfl) rfl ?_
            refine T_valG rfl rfl rfl (Ev_eql rfl rfl) rfl ?_
            refine T_val (Ev_pickT rfl rfl) rfl ?_
            refine T_val (Ev_move rfl) rfl ?_
            refine T_caseP (s := 62) rfl (fun h75 => ?_) (fun h75 => ?_)
            · have hx76 := ite_t h75 hx74
              obtain ⟨r77, h78, hx79⟩ := bnd_some hx76
              refine T_xG rfl rfl rfl (Wx_callL rfl (fun w1 hw1 => lidarlaw09_first_ok  h78 w1) rfl ?_)
              rintro _ _ hlo ⟨rfl, rfl, -⟩
              refine T_app0 ?_
              refine T_val (Ev_pickT rfl rfl) rfl ?_
              refine T_val (Ev_assign rfl) rfl ?_
              refine T_nil ?_
              exact T_metP r77 () hx79 trivial (by exact .cons rfl (.nil)) (by exact .drop 0 rfl (.drop 0 rfl (.drop 0 rfl (.drop 0 rfl (.refl)))))
            · have hx80 := ite_f h75 hx74
              refine T_skipG rfl rfl rfl rfl rfl ?_
              refine T_val (Ev_pickF rfl rfl) rfl ?_
              refine T_val (Ev_assign rfl) rfl ?_
              refine T_nil ?_
              exact T_metP false () hx80 trivial (by exact .cons rfl (.nil)) (by exact .drop 0 rfl (.drop 0 rfl (.drop 0 rfl (.drop 0 rfl (.refl)))))
          · have hx81 := ite_f h73 hx70
            refine T_skipG rfl rfl rfl rfl rfl ?_
            refine T_skipG rfl rfl rfl rfl rfl ?_
            refine T_val (Ev_pickF rfl rfl) rfl ?_
            refine T_val (Ev_move rfl) rfl ?_
            refine T_skipG rfl rfl rfl rfl rfl ?_
            refine T_val (Ev_pickF rfl rfl) rfl ?_
            refine T_val (Ev_assign rfl) rfl ?_
            refine T_nil ?_
            exact T_metP false () hx81 trivial (by exact .cons rfl (.nil)) (by exact .drop 0 rfl (.drop 0 rfl (.drop 0 rfl (.drop 0 rfl (.refl)))))
    · skip
      refine T_reg ?_
      refine T_val (Ev_move rfl) rfl ?_
      refine T_val (Ev_neq rfl rfl) rfl ?_
      refine T_val (Ev_move rfl) rfl ?_
      refine T_caseNP (s := 23) rfl (fun h24 => ?_) (fun h24 => ?_)
      · have hx25 := ite_f h24 hx20
        refine T_skipG rfl rfl rfl rfl rfl ?_
        refine T_skipG rfl rfl rfl rfl rfl ?_
        refine T_val (Ev_pickT rfl rfl) rfl ?_
        refine T_val (Ev_move rfl) rfl ?_
        refine T_skipG rfl rfl rfl rfl rfl ?_
        refine T_skipG rfl rfl rfl rfl rfl ?_
        refine T_skipG rfl rfl rfl rfl rfl ?_
        refine T_skipG rfl rfl rfl rfl rfl ?_
        refine T_val (Ev_pickT rfl rfl) rfl ?_
        refine T_val (Ev_move rfl) rfl ?_
        refine T_skipG rfl rfl rfl rfl rfl ?_
        refine T_skipG rfl rfl rfl rfl rfl ?_
        refine T_skipG rfl rfl rfl rfl rfl ?_
        refine T_val (Ev_pickT rfl rfl) rfl ?_
        refine T_nil ?_
        exact T_metP true () hx25 trivial (by exact .cons rfl (.cons rfl (.nil))) (by exact .pick 2 rfl (.drop 0 rfl (.drop 0 rfl (.drop 0 rfl (.refl)))))
      · have hx26 := ite_t h24 hx20
        refine T_valG rfl rfl rfl (Ev_move rfl) rfl ?_
        refine T_valG rfl rfl rfl (Ev_neq rfl rfl) rfl ?_
        refine T_val (Ev_pickF rfl rfl) rfl ?_
        refine T_val (Ev_move rfl) rfl ?_
        refine T_caseNP (s := 27) rfl (fun h27 => ?_) (fun h27 => ?_)
        · have hx28 := ite_f h27 hx26
          refine T_skipG rfl rfl rfl rfl rfl ?_
          refine T_skipG rfl rfl rfl rfl rfl ?_
          refine T_skipG rfl rfl rfl rfl rfl ?_
          refine T_skipG rfl rfl rfl rfl rfl ?_
          refine T_val (Ev_pickT rfl rfl) rfl ?_
          refine T_val (Ev_move rfl) rfl ?_
          refine T_skipG rfl rfl rfl rfl rfl ?_
          refine T_skipG rfl rfl rfl rfl rfl ?_
          refine T_skipG rfl rfl rfl rfl rfl ?_
          refine T_val (Ev_pickT rfl rfl) rfl ?_
          refine T_nil ?_
          exact T_metP true () hx28 trivial (by exact .cons rfl (.cons rfl (.nil))) (by exact .pick 2 rfl (.drop 0 rfl (.drop 0 rfl (.drop 0 rfl (.refl)))))
        · have hx29 := ite_t h27 hx26
          refine T_valG rfl rfl rfl (Ev_loadK rfl (i := 3) rfl rfl agg26) rfl ?_
          refine T_valG rfl rfl rfl (Ev_loadK rfl (i := 0) rfl rfl agg26) rfl ?_
          refine T_rowP (k := 1) rfl (by decide) (fun _ => rfl) (fun hn30 hs31 => ?_)
          obtain ⟨r32, h33, hx34⟩ := bnd_some hx29
          refine T_xG rfl rfl rfl (Wx_callL rfl (fun w1 hw1 => lidarlaw09_Same_ok p0 r18.1 (Has.len' (Has.up (L := (K ++ [.r (A21) ((r18.1.Cells).length) (c22) 41 3 ((r18.1.Cells).flatMap e_api_Cell)])) ha0' (SubE.app2 SubE.nil))) (Has.len' (Has.up (L := (K ++ [.r (A21) ((r18.1.Cells).length) (c22) 41 3 ((r18.1.Cells).flatMap e_api_Cell)])) hs31 (SubE.appR2 (SubE.cons2 (i := 0) rfl (SubE.nil))))) h33 w1 (okApp (K := K) (K2 := [.r (A21) ((r18.1.Cells).length) (c22) 41 3 ((r18.1.Cells).flatMap e_api_Cell)]) hK (by exact (SubE.cons2 (i := 4) rfl (SubE.nil))) (by exact (SubE.cons2 (i := 1) rfl (SubE.nil))) hw1)) rfl ?_)
          rintro _ _ hlo ⟨rfl, rfl, -⟩
          refine T_app0 ?_
          refine T_valG rfl rfl rfl (Ev_not rfl) rfl ?_
          refine T_val (Ev_pickF rfl rfl) rfl ?_
          refine T_val (Ev_move rfl) rfl ?_
          refine T_caseNB (s := 33) rfl (fun h35 => ?_) (fun h35 => ?_)
          · have hx36 := ite_bf h35 hx34
            refine T_skipG rfl rfl rfl rfl rfl ?_
            refine T_skipG rfl rfl rfl rfl rfl ?_
            refine T_skipG rfl rfl rfl rfl rfl ?_
            refine T_val (Ev_pickT rfl rfl) rfl ?_
            refine T_nil ?_
            exact T_metP true () hx36 trivial (by exact .cons rfl (.cons rfl (.nil))) (by exact .pick 2 rfl (.drop 0 rfl (.drop 0 rfl (.drop 0 rfl (.refl)))))
          · have hx37 := ite_t h35 hx34
            refine T_valG rfl rfl rfl (Ev_move rfl) rfl ?_
            refine T_valG rfl rfl rfl (Ev_len rfl 5 Try.underlying73) rfl ?_
            refine T_valG rfl rfl rfl (Ev_eql rfl rfl) rfl ?_
            refine T_val (Ev_pickF rfl rfl) rfl ?_
            refine T_nil ?_
            exact T_metP (decide (((((r11.1).length : Nat) : Int)) = 0)) () hx37 trivial (by exact .cons rfl (.cons rfl (.nil))) (by exact .pick 2 rfl (.drop 0 rfl (.drop 0 rfl (.drop 0 rfl (.refl)))))
end Go.Proofs.Ytjhknbpiaikblaa
