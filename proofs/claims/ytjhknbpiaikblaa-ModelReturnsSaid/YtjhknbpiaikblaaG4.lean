/- Walks of the program, with their plain functions: the encoding of a grid. -/
import Derived.Test.YtjhknbpiaikblaaG2
import Derived.Test.YtjhknbpiaikblaaFlow4
namespace Go.Proofs.Ytjhknbpiaikblaa
open Go Go.RowKit
theorem bls73_1_0u8 (x0 : Int) : BuildSliceOf Try.prog 73 1 [(0, .int .u8 x0)] 5 [.int .u8 x0] := fun w => by kernel_rfl
theorem elm73 : ElemOf Try.prog 73 5 1 1 := ⟨Try.underlying73, ⟨Try.t5, .int .u8 (0), by kernel_rfl, by kernel_rfl, by kernel_rfl, by kernel_rfl, rfl⟩, by decide⟩
theorem fld155_0 : FieldOf Try.prog 155 0 0 := .mk Try.underlying155 rfl rfl (show Try.prog.info? 73 = some Try.t73 from by kernel_rfl) (show Try.t73.size = 1 from by kernel_rfl) rfl
theorem one73 : OneOf Try.prog 73 := .mk Try.underlying73 rfl (show Try.prog.info? 73 = some Try.t73 from by kernel_rfl) (by kernel_rfl)
theorem zer39 : ZeroOf Try.prog 39 [.int .i64 (0), .int .i64 (0)] := ⟨_, Try.zeroValue39, rfl⟩
theorem slc73 : SliceOf Try.prog 73 5 1 := .mk Try.underlying73 (show Try.prog.info? 5 = some Try.t5 from by kernel_rfl) (by kernel_rfl)
theorem one5 : OneOf Try.prog 5 := .mk Try.underlying5 rfl (show Try.prog.info? 5 = some Try.t5 from by kernel_rfl) (by kernel_rfl)
theorem bld155_  : BuildOf Try.prog 155 [] [.slice (none) (0) (0)] := fun w => by kernel_rfl
theorem bls73_4_0u81u82u83u8 (x0 : Int) (x1 : Int) (x2 : Int) (x3 : Int) : BuildSliceOf Try.prog 73 4 [(0, .int .u8 x0), (1, .int .u8 x1), (2, .int .u8 x2), (3, .int .u8 x3)] 5 [.int .u8 x0, .int .u8 x1, .int .u8 x2, .int .u8 x3] := fun w => by kernel_rfl
theorem slc179 : SliceOf Try.prog 179 73 1 := .mk Try.underlying179 (show Try.prog.info? 73 = some Try.t73 from by kernel_rfl) (by kernel_rfl)
theorem bls179_1_0s (x0 : Option Addr) (x1 : Nat) (x2 : Nat) : BuildSliceOf Try.prog 179 1 [(0, .slice x0 x1 x2)] 73 [.slice x0 x1 x2] := fun w => by kernel_rfl
theorem bls73_0_  : BuildSliceOf Try.prog 73 0 [] 5 [] := fun w => by kernel_rfl
theorem zer23 : ZeroOf Try.prog 23 [.int .i64 (0), .int .i64 (0), .int .i64 (0), .int .i64 (0), .int .i64 (0)] := ⟨_, Try.zeroValue23, rfl⟩
def e_u8 (x : Int) : List Value := [.int .u8 (x)]
theorem e_u8_len (x : Int) : (e_u8 x).length = 1 := rfl
noncomputable def link_Number_l5  : (Int × (List Int)) → Option (Sum (Int × (List Int)) (Int × (List Int))) := fun s25 =>
 if 128 ≤ s25.1 then (gd (((s25.2).length + 1) * 1 ≤ 140737488355328) <|
 some (.inl (shr_ .i64 s25.1 7, s25.2 ++ [bit_or .u8 (wu8 (Int.tmod s25.1 128)) 128])))
 else (some (.inr (s25.1, s25.2)))
noncomputable def link_Number (p0 : List Int) (p1 : Int) : Option ((List Int) × Int) :=
 jn (fun (s3 : Bool) =>
 if s3 = true then (some (([] : List Int), 2))
 else (gd ((0 : Int) ≤ ((((p0).length : Nat) : Int)) ∧ ((((p0).length : Nat) : Int)) ≤ (w64 (((((p0).length : Nat) : Int)) + 9)) ∧ 1 * Int.toNat (w64 (((((p0).length : Nat) : Int)) + 9)) ≤ 140737488355328) <|
 jn (fun (s7 : Int × (List Int)) =>
 gd (((s7.2).length + 1) * 1 ≤ 140737488355328) <|
 some (s7.2 ++ [wu8 (s7.1)], 0))
 (fun j7 => bnd (lfix (link_Number_l5) (p1, cpy (List.replicate (Int.toNat ((((p0).length : Nat) : Int))) (0 : Int)) 0 p0)) fun t25 =>
 j7 t25)))
 (fun j3 => if p1 < 0 then (j3 true)
 else (j3 (decide (4611686018427387903 < p1))))
noncomputable def link_Signed (p0 : List Int) (p1 : Int) : Option ((List Int) × Int) :=
 jn (fun (s3 : Bool) =>
 if s3 = true then (some (([] : List Int), 2))
 else (if p1 < 0 then (bnd (link_Number p0 (w64 ((w64 ((-2) * (w64 (p1 + 1)))) + 1))) fun r11 =>
 some (r11.1, r11.2))
 else (bnd (link_Number p0 (w64 (2 * p1))) fun r17 =>
 some (r17.1, r17.2))))
 (fun j3 => if p1 < (-2305843009213693952) then (j3 true)
 else (j3 (decide (2305843009213693952 ≤ p1))))
structure S_model_writer where
  b : List Int
noncomputable def model_writer_signed (p0 : S_model_writer) (p1 : Int) : Option S_model_writer :=
 bnd (link_Signed p0.b p1) fun r3 =>
 some (⟨r3.1⟩ : S_model_writer)
noncomputable def model_writer_number (p0 : S_model_writer) (p1 : Int) : Option S_model_writer :=
 bnd (link_Number p0.b p1) fun r3 =>
 some (⟨r3.1⟩ : S_model_writer)
noncomputable def model_writer_cells_l3 (s86 : (List Int) × (List S_api_Cell) × Int) : Int → Option (Sum Int Int) := fun s110 =>
 jn (fun (s26 : Bool) =>
 if s26 = true then (some (.inl (w64 (s110 + 1))))
 else (some (.inr s110)))
 (fun j26 => if s110 < ((((s86.2.1).length : Nat) : Int)) then (bnd (idx s86.2.1 s110) fun x113 =>
 j26 x113.Void)
 else (j26 false))
noncomputable def model_writer_cells_l1  : ((List Int) × (List S_api_Cell) × Int) → Option (Sum ((List Int) × (List S_api_Cell) × Int) S_model_writer) := fun s86 =>
 if 0 < ((((s86.2.1).length : Nat) : Int)) then (jn (fun (s22 : Int) =>
 if 0 < s22 then (bnd (model_writer_number (⟨s86.1⟩ : S_model_writer) 0) fun r133 =>
 bnd (model_writer_number r133 s22) fun r138 =>
 gd (0 ≤ s22 ∧ s22 ≤ (((s86.2.1).length : Nat) : Int)) <|
 some (.inl (r138.b, subl s86.2.1 s22 (((s86.2.1).length : Nat) : Int), s86.2.2)))
 else (bnd (idx s86.2.1 0) fun x148 =>
 bnd (model_writer_number (⟨s86.1⟩ : S_model_writer) (w64 ((w64 (1 + x148.Z.Hi)) - x148.Z.Lo))) fun r159 =>
 bnd (model_writer_signed r159 (w64 (x148.Z.Lo - s86.2.2))) fun r164 =>
 gd ((0 : Int) ≤ 1 ∧ 1 ≤ (((s86.2.1).length : Nat) : Int)) <|
 some (.inl (r164.b, subl s86.2.1 1 (((s86.2.1).length : Nat) : Int), x148.Z.Lo))))
 (fun j22 => bnd (lfix (model_writer_cells_l3 s86) 0) fun t110 =>
 j22 t110))
 else (some (.inr (⟨s86.1⟩ : S_model_writer)))
noncomputable def model_writer_cells (p0 : S_model_writer) (p1 : List S_api_Cell) : Option S_model_writer :=
 bnd (lfix (model_writer_cells_l1) (p0.b, p1, 0)) fun t86 =>
 some t86
noncomputable def link_Checksum_l7  : (Int × Int) → Option (Sum (Int × Int) Int) := fun s60 =>
 if s60.2 < 8 then (jn (fun (s31 : Int) =>
 some (.inl (s31, w64 (s60.2 + 1))))
 (fun j31 => if (bit_and .u32 s60.1 1) = 1 then (j31 (bit_xor .u32 (shr_ .u32 s60.1 1) 3988292384))
 else (j31 (shr_ .u32 s60.1 1))))
 else (some (.inr s60.1))
noncomputable def link_Checksum_l3 (p0 : List Int) : (Int × Int) → Option (Sum (Int × Int) Int) := fun s36 =>
 if s36.2 < ((((p0).length : Nat) : Int)) then (jn (fun (s21 : Int) =>
 some (.inl (s21, w64 (s36.2 + 1))))
 (fun j21 => bnd (idx p0 s36.2) fun x40 =>
 bnd (lfix (link_Checksum_l7) (bit_xor .u32 s36.1 (wu32 (x40)), 0)) fun t60 =>
 j21 t60))
 else (some (.inr s36.1))
noncomputable def link_Checksum (p0 : List Int) : Option Int :=
 jn (fun (s3 : Int) =>
 some (bit_xor .u32 (if IntKind.signed .u32 then -1 else IntKind.max .u32) s3))
 (fun j3 => bnd (lfix (link_Checksum_l3 p0) (4294967295, 0)) fun t36 =>
 j3 t36)
noncomputable def model_encode (p0 : S_api_Grid) : Option (List Int) :=
 bnd (model_writer_signed (⟨([] : List Int)⟩ : S_model_writer) p0.Raster.X0) fun r3 =>
 bnd (model_writer_signed r3 p0.Raster.Y0) fun r8 =>
 bnd (model_writer_number r8 p0.Raster.Step) fun r13 =>
 bnd (model_writer_number r13 p0.Raster.NX) fun r18 =>
 bnd (model_writer_number r18 p0.Raster.NY) fun r23 =>
 bnd (model_writer_cells r23 p0.Cells) fun r28 =>
 bnd (link_Checksum r28.b) fun r36 =>
 gd (((r28.b).length + 4) * 1 ≤ 140737488355328) <|
 some (r28.b ++ [wu8 (shr_ .u32 r36 24), wu8 (shr_ .u32 r36 16), wu8 (shr_ .u32 r36 8), wu8 (r36)])
noncomputable def model_Encode (p0 : S_api_Grid) : Option ((List Int) × Int) :=
 bnd (model_Valid p0) fun r2 =>
 if r2 = true then (bnd (model_encode p0) fun r8 =>
 some (r8, 0))
 else (some (([] : List Int), 90))
def n_List_Int (K : List Ent) (x : List Int) (ys : List Value) : Prop := ∃ (A0 : Option Addr) (c0 : Nat), ys = [.slice (A0) ((x).length) (c0)] ∧ Has K A0 (x).length c0 1 e_u8 (x)
theorem n_List_Int_mono {K L : List Ent} {x : List Int} {ys : List Value} (hK : SubE K L) (h : n_List_Int K x ys) : n_List_Int L x ys := by
  obtain ⟨A0, c0, h0, h1⟩ := h
  exact ⟨A0, c0, h0, Has.up h1 hK⟩
noncomputable def lidarref02_joined_l3 (p0 : List (List Int)) : ((List Int) × Int) → Option (Sum ((List Int) × Int) (List Int)) := fun s27 =>
 if s27.2 < ((((p0).length : Nat) : Int)) then (bnd (idx p0 s27.2) fun x32 =>
 gd (((s27.1).length + (x32).length) * 1 ≤ 140737488355328) <|
 some (.inl (s27.1 ++ x32, w64 (s27.2 + 1))))
 else (some (.inr s27.1))
noncomputable def lidarref02_joined (p0 : List (List Int)) : Option (List Int) :=
 jn (fun (s3 : List Int) =>
 some s3)
 (fun j3 => bnd (lfix (lidarref02_joined_l3 p0) (([] : List Int), 0)) fun t27 =>
 j3 t27)
noncomputable def lidarref02_Number_l4  : (Int × (List Int)) → Option (Sum (Int × (List Int)) (Int × (List Int))) := fun s25 =>
 if 128 ≤ s25.1 then (gd (((s25.2).length + 1) * 1 ≤ 140737488355328) <|
 some (.inl (w64 (Int.tdiv s25.1 128), s25.2 ++ [wu8 (w64 ((Int.tmod s25.1 128) + 128))])))
 else (some (.inr (s25.1, s25.2)))
noncomputable def lidarref02_Number (p0 : List Int) (p1 : Int) : Option ((List Int) × Int) :=
 jn (fun (s3 : Bool) =>
 if s3 = true then (some (([] : List Int), 2))
 else (bnd (lidarref02_joined ([p0])) fun r11 =>
 jn (fun (s6 : Int × (List Int)) =>
 gd (((s6.2).length + 1) * 1 ≤ 140737488355328) <|
 some (s6.2 ++ [wu8 (s6.1)], 0))
 (fun j6 => bnd (lfix (lidarref02_Number_l4) (p1, r11)) fun t25 =>
 j6 t25)))
 (fun j3 => if p1 < 0 then (j3 true)
 else (j3 (decide (4611686018427387903 < p1))))
noncomputable def lidarref02_Signed (p0 : List Int) (p1 : Int) : Option ((List Int) × Int) :=
 jn (fun (s3 : Bool) =>
 if s3 = true then (some (([] : List Int), 2))
 else (if p1 < 0 then (bnd (lidarref02_Number p0 (w64 ((w64 ((-2) * p1)) - 1))) fun r11 =>
 some (r11.1, r11.2))
 else (bnd (lidarref02_Number p0 (w64 (2 * p1))) fun r17 =>
 some (r17.1, r17.2))))
 (fun j3 => if p1 < (-2305843009213693952) then (j3 true)
 else (j3 (decide (2305843009213693951 < p1))))
noncomputable def lidarref02_Checksum_l6 (p0 : List Int) (s51 : Int × Int) : (Int × Int) → Option (Sum (Int × Int) Int) := fun s77 =>
 if s77.2 < 8 then (jn (fun (s38 : Int) =>
 some (.inl (s38, w64 (s77.2 + 1))))
 (fun j38 => bnd (idx p0 s51.2) fun x81 =>
 gd (0 ≤ s77.2) <|
 if (bit_and .u32 (wu32 (shr_ .u8 x81 s77.2)) 1) = (shr_ .u32 s77.1 31) then (j38 (shl_ .u32 s77.1 1))
 else (j38 (bit_xor .u32 (shl_ .u32 s77.1 1) 79764919))))
 else (some (.inr s77.1))
noncomputable def lidarref02_Checksum_l3 (p0 : List Int) : (Int × Int) → Option (Sum (Int × Int) Int) := fun s51 =>
 if s51.2 < ((((p0).length : Nat) : Int)) then (jn (fun (s26 : Int) =>
 some (.inl (s26, w64 (s51.2 + 1))))
 (fun j26 => bnd (lfix (lidarref02_Checksum_l6 p0 s51) (s51.1, 0)) fun t77 =>
 j26 t77))
 else (some (.inr s51.1))
noncomputable def lidarref02_Checksum_l16  : (Int × Int × Int) → Option (Sum (Int × Int × Int) Int) := fun s107 =>
 if s107.2.2 < 32 then (some (.inl (shr_ .u32 s107.1 1, bit_or .u32 (shl_ .u32 s107.2.1 1) (bit_and .u32 s107.1 1), w64 (s107.2.2 + 1))))
 else (some (.inr s107.2.1))
noncomputable def lidarref02_Checksum (p0 : List Int) : Option Int :=
 jn (fun (s3 : Int) =>
 jn (fun (s44 : Int) =>
 some (bit_xor .u32 (if IntKind.signed .u32 then -1 else IntKind.max .u32) s44))
 (fun j44 => bnd (lfix (lidarref02_Checksum_l16) (s3, 0, 0)) fun t107 =>
 j44 t107))
 (fun j3 => bnd (lfix (lidarref02_Checksum_l3 p0) (4294967295, 0)) fun t51 =>
 j3 t51)
noncomputable def lidarref09_Sealed (p0 : List Int) : Option (List Int) :=
 bnd (lidarref02_Checksum p0) fun r1 =>
 gd (((([] : List Int)).length + (p0).length) * 1 ≤ 140737488355328) <|
 gd ((((([] : List Int)) ++ p0).length + 4) * 1 ≤ 140737488355328) <|
 some (((([] : List Int)) ++ p0) ++ [wu8 (shr_ .u32 r1 24), wu8 (shr_ .u32 r1 16), wu8 (shr_ .u32 r1 8), wu8 (r1)])
noncomputable def lidarref09_Encode_l13 (s131 : (List Int) × Int × Int) (p0 : S_api_Grid) : Int → Option (Sum Int Int) := fun s155 =>
 jn (fun (s38 : Bool) =>
 if s38 = true then (some (.inl (w64 (s155 + 1))))
 else (some (.inr s155)))
 (fun j38 => if (w64 (s131.2.2 + s155)) < ((((p0.Cells).length : Nat) : Int)) then (bnd (idx p0.Cells (w64 (s131.2.2 + s155))) fun x158 =>
 j38 x158.Void)
 else (j38 false))
noncomputable def lidarref09_Encode_l11 (p0 : S_api_Grid) : ((List Int) × Int × Int) → Option (Sum ((List Int) × Int × Int) (List Int)) := fun s131 =>
 if s131.2.2 < ((((p0.Cells).length : Nat) : Int)) then (jn (fun (s34 : Int) =>
 if 0 < s34 then (bnd (lidarref02_Number s131.1 0) fun r181 =>
 bnd (lidarref02_Number r181.1 s34) fun r188 =>
 some (.inl (r188.1, s131.2.1, w64 (s131.2.2 + s34))))
 else (bnd (idx p0.Cells s131.2.2) fun x194 =>
 bnd (lidarref02_Number s131.1 (w64 ((w64 (1 + x194.Z.Hi)) - x194.Z.Lo))) fun r208 =>
 bnd (lidarref02_Signed r208.1 (w64 (x194.Z.Lo - s131.2.1))) fun r215 =>
 some (.inl (r215.1, x194.Z.Lo, w64 (s131.2.2 + 1)))))
 (fun j34 => bnd (lfix (lidarref09_Encode_l13 s131 p0) 0) fun t155 =>
 j34 t155))
 else (some (.inr s131.1))
noncomputable def lidarref09_Encode (p0 : S_api_Grid) : Option ((List Int) × Int) :=
 bnd (lidarref09_Valid p0) fun r2 =>
 if r2 = true then (bnd (lidarref02_Signed ([] : List Int) p0.Raster.X0) fun r9 =>
 bnd (lidarref02_Signed r9.1 p0.Raster.Y0) fun r16 =>
 bnd (lidarref02_Number r16.1 p0.Raster.Step) fun r23 =>
 bnd (lidarref02_Number r23.1 p0.Raster.NX) fun r30 =>
 bnd (lidarref02_Number r30.1 p0.Raster.NY) fun r37 =>
 jn (fun (s12 : List Int) =>
 bnd (lidarref09_Sealed s12) fun r224 =>
 some (r224, 0))
 (fun j12 => bnd (lfix (lidarref09_Encode_l11 p0) (r37.1, 0, 0)) fun t131 =>
 j12 t131))
 else (some (([] : List Int), 90))
noncomputable def lidarlaw09_sameBytes_l4 (p0 : List Int) (p1 : List Int) : Int → Option (Sum Int (Sum Unit Bool)) := fun s33 =>
 if s33 < ((((p0).length : Nat) : Int)) then (bnd (idx p0 s33) fun x37 =>
 bnd (idx p1 s33) fun x48 =>
 if x37 = x48 then (some (.inl (w64 (s33 + 1))))
 else (some (.inr (.inr (false)))))
 else (some (.inr (.inl ())))
noncomputable def lidarlaw09_sameBytes (p0 : List Int) (p1 : List Int) : Option Bool :=
 if ((((p0).length : Nat) : Int)) = ((((p1).length : Nat) : Int)) then (jn (fun (s5 : Unit) =>
 some true)
 (fun j5 => bnd (lfix (lidarlaw09_sameBytes_l4 p0 p1) 0) fun t33 =>
 (match t33 with
 | (.inl z33) => j5 z33
 | (.inr (z33)) => some z33
 )))
 else (some false)
noncomputable def lidarlaw09_ModelEncodes (p0 : S_api_Grid) : Option Bool :=
 bnd (lidarlaw09_heavy p0) fun r2 =>
 if r2 = true then (bnd (lidarlaw09_first) fun r7 =>
 some r7)
 else (bnd (model_Encode p0) fun r11 =>
 bnd (lidarref09_Encode p0) fun r16 =>
 jn (fun (s7 : Bool) =>
 some s7)
 (fun j7 => if r11.2 = r16.2 then (bnd (lidarlaw09_sameBytes r11.1 r16.1) fun r27 =>
 if r27 = true then (bnd (lidarlaw09_first) fun r32 =>
 j7 r32)
 else (j7 false))
 else (j7 false)))
set_option maxRecDepth 100000 in
theorem link_Number_ok (p0 : List Int) (p1 : Int) {K : List Ent} {A0_0 : Option Addr} {c0_0 : Nat} (ha0 : Has K A0_0 (p0).length c0_0 1 e_u8 (p0)) {r : (List Int) × Int} (hx : link_Number p0 p1 = some r) (w : World) (hK : ∀ e ∈ K, Ent.ok w e) : CtL Try.prog 139 [.slice (A0_0) ((p0).length) (c0_0), .int .i64 (p1)] w fun v Ln => ∃ (A0 : Option Addr) (c0 : Nat), v = .tuple #[.slice (A0) ((r.1).length) (c0), .int .i64 (r.2)] ∧ Ln = [.r A0 (r.1).length c0 5 1 ((r.1).flatMap e_u8)] ∧ True := by
  have ha0' := Has.up0 ha0
  refine CtL.mk 38 Try.func139 rfl Try.ntmps139 (by kernel_rfl) rfl ?_
  show T 38 _ [(0, .slice (A0_0) ((p0).length) (c0_0)), (1, .int .i64 (p1))] _
  unfold link_Number at hx
  refine T_seq ?_
  refine T_reg ?_
  refine T_val (Ev_assign rfl) rfl ?_
  refine T_val (Ev_assign rfl) rfl ?_
  refine T_nil ?_
  refine T_next ?_
  refine T_seq ?_
  obtain ⟨j3, hj3, hx⟩ := jn_some hx
  refine T_cutP (τ := Bool) (γ := Unit) (J := j3) (out := r) (fun s3 y3 => [(0, .slice (A0_0) ((p0).length) (c0_0)), (1, .int .i64 (p1)), (12, .bool (s3))]) (fun s3 y3 => [] ++ [.old w]) (fun s3 y3 => True) ?_ ?_
  · intro s3 y3 hx4 hG5
    subst hj3
    refine T_caseB (s := 12) rfl (fun h6 => ?_) (fun h6 => ?_)
    · have hx7 := ite_t h6 hx4
      refine T_condT rfl ?_
      refine T_seq ?_
      refine T_reg ?_
      refine T_val (Ev_assign rfl) rfl ?_
      refine T_val (Ev_assign rfl) rfl ?_
      refine T_nil ?_
      refine T_next ?_
      refine T_retc ?_
      refine T_outR ?_
      refine T_none 5 1 ?_
      obtain rfl := Option.some.inj hx7
      exact T_retP (rs := [.tmp 4, .tmp 5]) Try.results139 (.tmp rfl (.tmp rfl (.nil))) (Ln := [.r (none) (0) (0) 5 1 ((([] : List Int)).flatMap e_u8)]) ⟨none, 0, rfl, rfl, trivial⟩ (loCons rfl (loNil)) (by exact .pick 0 rfl (.refl))
    · have hx8 := ite_bf h6 hx4
      refine T_condF rfl ?_
      refine T_skip ?_
      refine T_next ?_
      refine T_seq ?_
      refine T_reg ?_
      refine T_val (Ev_move rfl) rfl ?_
      refine T_val (Ev_len rfl 5 Try.underlying73) rfl ?_
      refine T_val (Ev_move rfl) rfl ?_
      refine T_val (Ev_len rfl 5 Try.underlying73) rfl ?_
      refine T_val (Ev_add_w64 rfl rfl) rfl ?_
      obtain ⟨h10, hx11⟩ := gd_some hx8
      refine T_x (Wx_makeC e_u8 (0) (z := .int .u8 (0)) rfl rfl h10.1 h10.2.1 Try.underlying73 (show Try.prog.info? 5 = some Try.t5 from by kernel_rfl) (by kernel_rfl) rfl rfl (by kernel_rfl) (show 1 * _ ≤ _ from h10.2.2) (by decide) rfl (fun A9 c12 => ?_))
      refine T_val (Ev_assign rfl) rfl ?_
      refine T_nil ?_
      refine T_next ?_
      refine T_seq ?_
      refine T_reg ?_
      refine T_val (Ev_move rfl) rfl ?_
      refine T_val (Ev_move rfl) rfl ?_
      have hw13 := Has.low (E := []) ha0' hK
      refine T_h (Wh_copyW e_u8 (List.replicate (Int.toNat ((((p0).length : Nat) : Int))) (0 : Int)) (p0) 0 rfl rfl hw13 (SubE.cons2 (i := 1) rfl (SubE.nil)) rfl (Nat.zero_le _) (fun _ h hc => win_all h hc) (.here) Try.underlying73 (by kernel_rfl) (by decide) (fun _ => rfl) (fun _ => rfl) rfl ?_)
      refine T_nil ?_
      refine T_next ?_
      obtain ⟨j7, hj7, hx11⟩ := jn_some hx11
      refine T_cutP (τ := Int × (List Int)) (γ := (Option Addr) × Nat) (J := j7) (out := r) (fun s7 y7 => [(1, .int .i64 (s7.1)), (6, .slice (y7.1) ((s7.2).length) (y7.2))]) (fun s7 y7 => [.r (y7.1) ((s7.2).length) (y7.2) 5 1 ((s7.2).flatMap e_u8)] ++ [.old w]) (fun s7 y7 => True) ?_ ?_
      · intro s7 y7 hx36 hG37
        subst hj7
        refine T_seq ?_
        refine T_reg ?_
        refine T_val (Ev_move rfl) rfl ?_
        refine T_val (Ev_move rfl) rfl ?_
        refine T_val (Ev_conv_wu8 rfl (by kernel_rfl) Try.underlying5) rfl ?_
        refine T_x (Wx_buildSlice rfl (bls73_1_0u8 _) rfl (fun g38 => ?_))
        obtain ⟨h39, hx40⟩ := gd_some hx36
        refine T_h (Wh_appendP e_u8 (s7.2) [wu8 (s7.1)] rfl rfl rfl elm73 (fun _ => rfl) (i' := 0) rfl rfl rfl rfl h39 rfl (fun _ _ => .there (.here)) (fun _ _ => .drop .refl) (by decide) (fun A41 c42 => ?_))
        refine T_val (Ev_assign rfl) rfl ?_
        refine T_val (Ev_assign rfl) rfl ?_
        refine T_nil ?_
        refine T_next ?_
        refine T_retc ?_
        obtain rfl := Option.some.inj hx40
        exact T_retP (rs := [.tmp 4, .tmp 5]) Try.results139 (.tmp rfl (.tmp rfl (.nil))) (Ln := [.r (A41) ((s7.2 ++ [wu8 (s7.1)]).length) (c42) 5 1 ((s7.2 ++ [wu8 (s7.1)]).flatMap e_u8)]) ⟨A41, c42, rfl, rfl, trivial⟩ (loCons rfl (loNil)) (by exact .pick 0 rfl (.refl))
      · skip
        refine T_block ?_
        obtain ⟨t25, hl25, ho25⟩ := bnd_some hx11
        have hn26 : (List.replicate (Int.toNat ((((p0).length : Nat) : Int))) (0 : Int)).length = (cpy (List.replicate (Int.toNat ((((p0).length : Nat) : Int))) (0 : Int)) 0 p0).length := (cpy_len (Nat.zero_le _)).symm
        refine T_ent (.here) (e' := .r (A9) ((cpy (List.replicate (Int.toNat ((((p0).length : Nat) : Int))) (0 : Int)) 0 p0).length) (c12) 5 1 ((cpy (List.replicate (Int.toNat ((((p0).length : Nat) : Int))) (0 : Int)) 0 p0).flatMap e_u8)) (by first | (rw [← hn26]; done) | rfl) ?_
        refine T_slot (s := 6) (v' := .slice (A9) ((cpy (List.replicate (Int.toNat ((((p0).length : Nat) : Int))) (0 : Int)) 0 p0).length) (c12)) rfl (by have hn27 : ((List.replicate (Int.toNat ((((p0).length : Nat) : Int))) (0 : Int)).length) = (cpy (List.replicate (Int.toNat ((((p0).length : Nat) : Int))) (0 : Int)) 0 p0).length := (cpy_len (Nat.zero_le _)).symm; first | (rw [← hn27]; done) | rfl) ?_
        refine T_loopP (σ := Int × (List Int)) (γ := (Option Addr) × Nat) hl25 (fun s25 y25 => [(1, .int .i64 (s25.1)), (6, .slice (y25.1) ((s25.2).length) (y25.2))]) (fun s25 y25 => [.r (y25.1) ((s25.2).length) (y25.2) 5 1 ((s25.2).flatMap e_u8)] ++ [.old w]) (fun s25 y25 => True) (A9, c12) trivial (by exact .cons rfl (.cons rfl (.nil))) (by exact .pick 0 rfl (.refl)) ?_
        intro s25 y25 hG25 x25 hx25 ht25
        unfold link_Number_l5 at hx25
        refine T_seq ?_
        refine T_seq ?_
        refine T_reg ?_
        refine T_val (Ev_move rfl) rfl ?_
        refine T_val (Ev_geq rfl rfl) rfl ?_
        refine T_nil ?_
        refine T_next ?_
        refine T_caseP (s := 23) rfl (fun h28 => ?_) (fun h28 => ?_)
        · have hx29 := ite_t h28 hx25
          refine T_condT rfl ?_
          refine T_skip ?_
          refine T_next ?_
          refine T_block ?_
          refine T_seq ?_
          refine T_reg ?_
          refine T_val (Ev_move rfl) rfl ?_
          refine T_val (Ev_move rfl) rfl ?_
          refine T_val (Ev_rem rfl rfl (by decide)) rfl ?_
          refine T_val (Ev_conv_wu8 rfl (by kernel_rfl) Try.underlying5) rfl ?_
          refine T_val (Ev_bitW_or rfl rfl) rfl ?_
          refine T_x (Wx_buildSlice rfl (bls73_1_0u8 _) rfl (fun g31 => ?_))
          obtain ⟨h32, hx33⟩ := gd_some hx29
          refine T_h (Wh_appendP e_u8 (s25.2) [bit_or .u8 (wu8 (Int.tmod s25.1 128)) 128] rfl rfl rfl elm73 (fun _ => rfl) (i' := 0) rfl rfl rfl rfl h32 rfl (fun _ _ => .there (.here)) (fun _ _ => .drop .refl) (by decide) (fun A34 c35 => ?_))
          refine T_val (Ev_assign rfl) rfl ?_
          refine T_nil ?_
          refine T_next ?_
          refine T_reg ?_
          refine T_val (Ev_move rfl) rfl ?_
          refine T_val (Ev_shrW rfl rfl (by decide)) rfl ?_
          refine T_val (Ev_assign rfl) rfl ?_
          refine T_nil ?_
          refine T_inN ?_
          exact T_roundP (shr_ .i64 s25.1 7, s25.2 ++ [bit_or .u8 (wu8 (Int.tmod s25.1 128)) 128]) (A34, c35) hx33 trivial (by exact .cons rfl (.cons rfl (.nil))) (by exact .pick 0 rfl (.refl))
        · have hx30 := ite_f h28 hx25
          refine T_condF rfl ?_
          refine T_exit ?_
          refine T_outX ?_
          obtain rfl := exit_eq ht25 hx30
          refine T_outX ?_
          refine T_here ?_
          exact T_metP (s25.1, s25.2) (y25.1, y25.2) ho25 trivial (by exact .cons rfl (.cons rfl (.nil))) (by exact .pick 0 rfl (.refl))
  · skip
    refine T_reg ?_
    refine T_val (Ev_move rfl) rfl ?_
    refine T_val (Ev_lss rfl rfl) rfl ?_
    refine T_val (Ev_move rfl) rfl ?_
    refine T_caseP (s := 9) rfl (fun h1 => ?_) (fun h1 => ?_)
    · have hx2 := ite_t h1 hx
      refine T_skipG rfl rfl rfl rfl rfl ?_
      refine T_skipG rfl rfl rfl rfl rfl ?_
      refine T_val (Ev_pickT rfl rfl) rfl ?_
      refine T_nil ?_
      exact T_metP true () hx2 trivial (by exact .cons rfl (.cons rfl (.cons rfl (.nil)))) (by exact .refl)
    · have hx3 := ite_f h1 hx
      refine T_valG rfl rfl rfl (Ev_move rfl) rfl ?_
      refine T_valG rfl rfl rfl (Ev_gtr rfl rfl) rfl ?_
      refine T_val (Ev_pickF rfl rfl) rfl ?_
      refine T_nil ?_
      exact T_metP (decide (4611686018427387903 < p1)) () hx3 trivial (by exact .cons rfl (.cons rfl (.cons rfl (.nil)))) (by exact .refl)
set_option maxRecDepth 100000 in
theorem link_Signed_ok (p0 : List Int) (p1 : Int) {K : List Ent} {A0_0 : Option Addr} {c0_0 : Nat} (ha0 : Has K A0_0 (p0).length c0_0 1 e_u8 (p0)) {r : (List Int) × Int} (hx : link_Signed p0 p1 = some r) (w : World) (hK : ∀ e ∈ K, Ent.ok w e) : CtL Try.prog 138 [.slice (A0_0) ((p0).length) (c0_0), .int .i64 (p1)] w fun v Ln => ∃ (A0 : Option Addr) (c0 : Nat), v = .tuple #[.slice (A0) ((r.1).length) (c0), .int .i64 (r.2)] ∧ Ln = [.r A0 (r.1).length c0 5 1 ((r.1).flatMap e_u8)] ∧ True := by
  have ha0' := Has.up0 ha0
  refine CtL.mk 28 Try.func138 rfl Try.ntmps138 (by kernel_rfl) rfl ?_
  show T 28 _ [(0, .slice (A0_0) ((p0).length) (c0_0)), (1, .int .i64 (p1))] _
  unfold link_Signed at hx
  refine T_seq ?_
  refine T_reg ?_
  refine T_val (Ev_assign rfl) rfl ?_
  refine T_val (Ev_assign rfl) rfl ?_
  refine T_nil ?_
  refine T_next ?_
  refine T_seq ?_
  obtain ⟨j3, hj3, hx⟩ := jn_some hx
  refine T_cutP (τ := Bool) (γ := Unit) (J := j3) (out := r) (fun s3 y3 => [(0, .slice (A0_0) ((p0).length) (c0_0)), (1, .int .i64 (p1)), (11, .bool (s3))]) (fun s3 y3 => [] ++ [.old w]) (fun s3 y3 => True) ?_ ?_
  · intro s3 y3 hx4 hG5
    subst hj3
    refine T_caseB (s := 11) rfl (fun h6 => ?_) (fun h6 => ?_)
    · have hx7 := ite_t h6 hx4
      refine T_condT rfl ?_
      refine T_seq ?_
      refine T_reg ?_
      refine T_val (Ev_assign rfl) rfl ?_
      refine T_val (Ev_assign rfl) rfl ?_
      refine T_nil ?_
      refine T_next ?_
      refine T_retc ?_
      refine T_outR ?_
      refine T_none 5 1 ?_
      obtain rfl := Option.some.inj hx7
      exact T_retP (rs := [.tmp 4, .tmp 5]) Try.results138 (.tmp rfl (.tmp rfl (.nil))) (Ln := [.r (none) (0) (0) 5 1 ((([] : List Int)).flatMap e_u8)]) ⟨none, 0, rfl, rfl, trivial⟩ (loCons rfl (loNil)) (by exact .pick 0 rfl (.refl))
    · have hx8 := ite_bf h6 hx4
      refine T_condF rfl ?_
      refine T_skip ?_
      refine T_next ?_
      refine T_seq ?_
      refine T_seq ?_
      refine T_reg ?_
      refine T_val (Ev_move rfl) rfl ?_
      refine T_val (Ev_lss rfl rfl) rfl ?_
      refine T_nil ?_
      refine T_next ?_
      refine T_caseP (s := 13) rfl (fun h9 => ?_) (fun h9 => ?_)
      · have hx10 := ite_t h9 hx8
        refine T_condT rfl ?_
        refine T_seq ?_
        refine T_reg ?_
        refine T_val (Ev_move rfl) rfl ?_
        refine T_val (Ev_move rfl) rfl ?_
        refine T_val (Ev_add_w64 rfl rfl) rfl ?_
        refine T_val (Ev_mul_w64 rfl rfl) rfl ?_
        refine T_val (Ev_add_w64 rfl rfl) rfl ?_
        obtain ⟨r11, h12, hx13⟩ := bnd_some hx10
        refine T_x (Wx_callL rfl (fun w1 hw1 => link_Number_ok p0 (w64 ((w64 ((-2) * (w64 (p1 + 1)))) + 1)) (Has.len' ha0') h12 w1 (okApp (K := K) (K2 := []) hK (by exact (SubE.cons2 (i := 0) rfl (SubE.nil))) (by exact (SubE.nil)) hw1)) rfl ?_)
        rintro _ _ hlo ⟨A14, c15, rfl, rfl, -⟩
        refine T_app1 ?_
        refine T_val (Ev_extract rfl rfl) rfl ?_
        refine T_val (Ev_extract rfl rfl) rfl ?_
        refine T_val (Ev_assign rfl) rfl ?_
        refine T_val (Ev_assign rfl) rfl ?_
        refine T_nil ?_
        refine T_next ?_
        refine T_retc ?_
        refine T_outR ?_
        obtain rfl := Option.some.inj hx13
        exact T_retP (rs := [.tmp 4, .tmp 5]) Try.results138 (.tmp rfl (.tmp rfl (.nil))) (Ln := [.r (A14) ((r11.1).length) (c15) 5 1 ((r11.1).flatMap e_u8)]) ⟨A14, c15, rfl, rfl, trivial⟩ (loCons rfl (loNil)) (by exact .pick 0 rfl (.refl))
      · have hx16 := ite_f h9 hx8
        refine T_condF rfl ?_
        refine T_skip ?_
        refine T_next ?_
        refine T_seq ?_
        refine T_reg ?_
        refine T_val (Ev_move rfl) rfl ?_
        refine T_val (Ev_move rfl) rfl ?_
        refine T_val (Ev_mul_w64 rfl rfl) rfl ?_
        obtain ⟨r17, h18, hx19⟩ := bnd_some hx16
        refine T_x (Wx_callL rfl (fun w1 hw1 => link_Number_ok p0 (w64 (2 * p1)) (Has.len' ha0') h18 w1 (okApp (K := K) (K2 := []) hK (by exact (SubE.cons2 (i := 0) rfl (SubE.nil))) (by exact (SubE.nil)) hw1)) rfl ?_)
        rintro _ _ hlo ⟨A20, c21, rfl, rfl, -⟩
        refine T_app1 ?_
        refine T_val (Ev_extract rfl rfl) rfl ?_
        refine T_val (Ev_extract rfl rfl) rfl ?_
        refine T_val (Ev_assign rfl) rfl ?_
        refine T_val (Ev_assign rfl) rfl ?_
        refine T_nil ?_
        refine T_next ?_
        refine T_retc ?_
        obtain rfl := Option.some.inj hx19
        exact T_retP (rs := [.tmp 4, .tmp 5]) Try.results138 (.tmp rfl (.tmp rfl (.nil))) (Ln := [.r (A20) ((r17.1).length) (c21) 5 1 ((r17.1).flatMap e_u8)]) ⟨A20, c21, rfl, rfl, trivial⟩ (loCons rfl (loNil)) (by exact .pick 0 rfl (.refl))
  · skip
    refine T_reg ?_
    refine T_val (Ev_move rfl) rfl ?_
    refine T_val (Ev_lss rfl rfl) rfl ?_
    refine T_val (Ev_move rfl) rfl ?_
    refine T_caseP (s := 8) rfl (fun h1 => ?_) (fun h1 => ?_)
    · have hx2 := ite_t h1 hx
      refine T_skipG rfl rfl rfl rfl rfl ?_
      refine T_skipG rfl rfl rfl rfl rfl ?_
      refine T_val (Ev_pickT rfl rfl) rfl ?_
      refine T_nil ?_
      exact T_metP true () hx2 trivial (by exact .cons rfl (.cons rfl (.cons rfl (.nil)))) (by exact .refl)
    · have hx3 := ite_f h1 hx
      refine T_valG rfl rfl rfl (Ev_move rfl) rfl ?_
      refine T_valG rfl rfl rfl (Ev_geq rfl rfl) rfl ?_
      refine T_val (Ev_pickF rfl rfl) rfl ?_
      refine T_nil ?_
      exact T_metP (decide (2305843009213693952 ≤ p1)) () hx3 trivial (by exact .cons rfl (.cons rfl (.cons rfl (.nil)))) (by exact .refl)
set_option maxRecDepth 100000 in
theorem model_writer_signed_ok (p0 : S_model_writer) (p1 : Int) {g0_0 : Nat} {B0_0 : Option Addr} {d0_0 : Nat} {K : List Ent} {r : S_model_writer} (hx : model_writer_signed p0 p1 = some r) : CtK Try.prog 111 [.pointer (some ⟨g0_0, 0, none⟩), .int .i64 (p1)] K [.m g0_0 155 [.slice (B0_0) ((p0.b).length) (d0_0)], .r (B0_0) ((p0.b).length) (d0_0) 5 1 ((p0.b).flatMap e_u8)] fun v Ln => ∃ (A0 : Option Addr) (c0 : Nat), v = .tuple #[] ∧ Ln = [.m g0_0 155 [.slice (A0) ((r.b).length) (c0)], .r A0 (r.b).length c0 5 1 ((r.b).flatMap e_u8)] ∧ True := by
  refine CtK.mk 16 Try.func111 rfl Try.ntmps111 (by kernel_rfl) rfl ?_
  intro Lf hKf
  show T 16 _ [(0, .pointer (some ⟨g0_0, 0, none⟩)), (1, .int .i64 (p1))] ([.m g0_0 155 [.slice (B0_0) ((p0.b).length) (d0_0)], .r (B0_0) ((p0.b).length) (d0_0) 5 1 ((p0.b).flatMap e_u8)] ++ Lf)
  unfold model_writer_signed at hx
  refine T_reg ?_
  refine T_val (Ev_move rfl) rfl ?_
  refine T_val (Ev_move rfl) rfl ?_
  refine T_val (Ev_nilCheck rfl) rfl ?_
  refine T_val (Ev_field rfl fld155_0 rfl) rfl ?_
  refine T_val (Ev_load1 rfl (i := 0) rfl rfl one73) rfl ?_
  refine T_val (Ev_move rfl) rfl ?_
  refine T_rowP (k := 1) rfl (by decide) (fun _ => rfl) (fun hn1 hs2 => ?_)
  obtain ⟨r3, h4, hx5⟩ := bnd_some hx
  refine T_x (Wx_callL rfl (fun w1 hw1 => link_Signed_ok p0.b p1 (Has.len' hs2) h4 w1 (okAll (K := ([.r (B0_0) ((p0.b).length) (d0_0) 5 1 ((p0.b).flatMap e_u8)] : List Ent)) (by exact (SubE.cons2 (i := 1) rfl (SubE.nil))) hw1)) rfl ?_)
  rintro _ _ hlo ⟨A6, c7, rfl, rfl, -⟩
  refine T_app1 ?_
  refine T_val (Ev_move rfl) rfl ?_
  refine T_val (Ev_extract rfl rfl) rfl ?_
  refine T_val (Ev_extract rfl rfl) rfl ?_
  refine T_val (Ev_nilCheck rfl) rfl ?_
  refine T_val (Ev_field rfl fld155_0 rfl) rfl ?_
  refine T_h (Wh_store rfl rfl rfl (.there (.here)) (.put (.done)) rfl (List.cons_ne_nil _ _) one73.2 ?_)
  refine T_nil ?_
  obtain rfl := Option.some.inj hx5
  exact T_endK (rs := []) Try.results111 (.nil) (Ln := [.m g0_0 155 [.slice (A6) ((r3.1).length) (c7)], .r (A6) ((r3.1).length) (c7) 5 1 ((r3.1).flatMap e_u8)]) ⟨A6, c7, rfl, rfl, trivial⟩ (by exact .pick 1 rfl (.pick 0 rfl (.drop 0 rfl (.refl))))
set_option maxRecDepth 100000 in
theorem model_writer_number_ok (p0 : S_model_writer) (p1 : Int) {g0_0 : Nat} {B0_0 : Option Addr} {d0_0 : Nat} {K : List Ent} {r : S_model_writer} (hx : model_writer_number p0 p1 = some r) : CtK Try.prog 112 [.pointer (some ⟨g0_0, 0, none⟩), .int .i64 (p1)] K [.m g0_0 155 [.slice (B0_0) ((p0.b).length) (d0_0)], .r (B0_0) ((p0.b).length) (d0_0) 5 1 ((p0.b).flatMap e_u8)] fun v Ln => ∃ (A0 : Option Addr) (c0 : Nat), v = .tuple #[] ∧ Ln = [.m g0_0 155 [.slice (A0) ((r.b).length) (c0)], .r A0 (r.b).length c0 5 1 ((r.b).flatMap e_u8)] ∧ True := by
  refine CtK.mk 16 Try.func112 rfl Try.ntmps112 (by kernel_rfl) rfl ?_
  intro Lf hKf
  show T 16 _ [(0, .pointer (some ⟨g0_0, 0, none⟩)), (1, .int .i64 (p1))] ([.m g0_0 155 [.slice (B0_0) ((p0.b).length) (d0_0)], .r (B0_0) ((p0.b).length) (d0_0) 5 1 ((p0.b).flatMap e_u8)] ++ Lf)
  unfold model_writer_number at hx
  refine T_reg ?_
  refine T_val (Ev_move rfl) rfl ?_
  refine T_val (Ev_move rfl) rfl ?_
  refine T_val (Ev_nilCheck rfl) rfl ?_
  refine T_val (Ev_field rfl fld155_0 rfl) rfl ?_
  refine T_val (Ev_load1 rfl (i := 0) rfl rfl one73) rfl ?_
  refine T_val (Ev_move rfl) rfl ?_
  refine T_rowP (k := 1) rfl (by decide) (fun _ => rfl) (fun hn1 hs2 => ?_)
  obtain ⟨r3, h4, hx5⟩ := bnd_some hx
  refine T_x (Wx_callL rfl (fun w1 hw1 => link_Number_ok p0.b p1 (Has.len' hs2) h4 w1 (okAll (K := ([.r (B0_0) ((p0.b).length) (d0_0) 5 1 ((p0.b).flatMap e_u8)] : List Ent)) (by exact (SubE.cons2 (i := 1) rfl (SubE.nil))) hw1)) rfl ?_)
  rintro _ _ hlo ⟨A6, c7, rfl, rfl, -⟩
  refine T_app1 ?_
  refine T_val (Ev_move rfl) rfl ?_
  refine T_val (Ev_extract rfl rfl) rfl ?_
  refine T_val (Ev_extract rfl rfl) rfl ?_
  refine T_val (Ev_nilCheck rfl) rfl ?_
  refine T_val (Ev_field rfl fld155_0 rfl) rfl ?_
  refine T_h (Wh_store rfl rfl rfl (.there (.here)) (.put (.done)) rfl (List.cons_ne_nil _ _) one73.2 ?_)
  refine T_nil ?_
  obtain rfl := Option.some.inj hx5
  exact T_endK (rs := []) Try.results112 (.nil) (Ln := [.m g0_0 155 [.slice (A6) ((r3.1).length) (c7)], .r (A6) ((r3.1).length) (c7) 5 1 ((r3.1).flatMap e_u8)]) ⟨A6, c7, rfl, rfl, trivial⟩ (by exact .pick 1 rfl (.pick 0 rfl (.drop 0 rfl (.refl))))
set_option maxRecDepth 100000 in
theorem model_writer_cells_ok (p0 : S_model_writer) (p1 : List S_api_Cell) {g0_0 : Nat} {B0_0 : Option Addr} {d0_0 : Nat} {K : List Ent} {A0_0 : Option Addr} {c0_0 : Nat} (ha0 : Has K A0_0 (p1).length c0_0 3 e_api_Cell (p1)) {r : S_model_writer} (hx : model_writer_cells p0 p1 = some r) : CtK Try.prog 113 [.pointer (some ⟨g0_0, 0, none⟩), .slice (A0_0) ((p1).length) (c0_0)] K [.m g0_0 155 [.slice (B0_0) ((p0.b).length) (d0_0)], .r (B0_0) ((p0.b).length) (d0_0) 5 1 ((p0.b).flatMap e_u8)] fun v Ln => ∃ (A0 : Option Addr) (c0 : Nat), v = .tuple #[] ∧ Ln = [.m g0_0 155 [.slice (A0) ((r.b).length) (c0)], .r A0 (r.b).length c0 5 1 ((r.b).flatMap e_u8)] ∧ True := by
  have ha0' := Has.up0 ha0
  refine CtK.mk 55 Try.func113 rfl Try.ntmps113 (by kernel_rfl) rfl ?_
  intro Lf hKf
  show T 55 _ [(0, .pointer (some ⟨g0_0, 0, none⟩)), (1, .slice (A0_0) ((p1).length) (c0_0))] ([.m g0_0 155 [.slice (B0_0) ((p0.b).length) (d0_0)], .r (B0_0) ((p0.b).length) (d0_0) 5 1 ((p0.b).flatMap e_u8)] ++ Lf)
  unfold model_writer_cells at hx
  refine T_seq ?_
  refine T_reg ?_
  refine T_val (Ev_assign rfl) rfl ?_
  refine T_nil ?_
  refine T_next ?_
  refine T_block ?_
  obtain ⟨t86, hl86, ho86⟩ := bnd_some hx
  refine T_loopP (σ := (List Int) × (List S_api_Cell) × Int) (γ := (Option Addr) × Nat × (Option Addr) × Nat) hl86 (fun s86 y86 => [(0, .pointer (some ⟨g0_0, 0, none⟩)), (1, .slice (y86.2.2.1) ((s86.2.1).length) (y86.2.2.2)), (4, .int .i64 (s86.2.2))]) (fun s86 y86 => [.m g0_0 155 [.slice (y86.1) ((s86.1).length) (y86.2.1)], .r (y86.1) ((s86.1).length) (y86.2.1) 5 1 ((s86.1).flatMap e_u8)] ++ Lf) (fun s86 y86 => Has (K ++ []) (y86.2.2.1) ((s86.2.1).length) (y86.2.2.2) 3 e_api_Cell (s86.2.1) ∧ True) (B0_0, d0_0, A0_0, c0_0) ((by exact ⟨Has.len' ha0', trivial⟩)) (by exact .cons rfl (.cons rfl (.cons rfl (.nil)))) (by exact .pick 0 rfl (.pick 0 rfl (.refl))) ?_
  intro s86 y86 hG86 x86 hx86 ht86
  unfold model_writer_cells_l1 at hx86
  obtain ⟨hs87, -⟩ := hG86
  refine T_seq ?_
  refine T_seq ?_
  refine T_reg ?_
  refine T_val (Ev_move rfl) rfl ?_
  refine T_val (Ev_len rfl 41 Try.underlying24) rfl ?_
  refine T_val (Ev_gtr rfl rfl) rfl ?_
  refine T_nil ?_
  refine T_next ?_
  refine T_caseP (s := 9) rfl (fun h88 => ?_) (fun h88 => ?_)
  · have hx89 := ite_t h88 hx86
    refine T_condT rfl ?_
    refine T_skip ?_
    refine T_next ?_
    refine T_block ?_
    refine T_seq ?_
    refine T_reg ?_
    refine T_val (Ev_assign rfl) rfl ?_
    refine T_nil ?_
    refine T_next ?_
    obtain ⟨j22, hj22, hx89⟩ := jn_some hx89
    refine T_cutP (τ := Int) (γ := Unit) (J := j22) (out := x86) (fun s22 y22 => [(0, .pointer (some ⟨g0_0, 0, none⟩)), (1, .slice (y86.2.2.1) ((s86.2.1).length) (y86.2.2.2)), (4, .int .i64 (s86.2.2)), (5, .int .i64 (s22))]) (fun s22 y22 => [.m g0_0 155 [.slice (y86.1) ((s86.1).length) (y86.2.1)], .r (y86.1) ((s86.1).length) (y86.2.1) 5 1 ((s86.1).flatMap e_u8)] ++ Lf) (fun s22 y22 => True) ?_ ?_
    · intro s22 y22 hx129 hG130
      subst hj22
      refine T_seq ?_
      refine T_seq ?_
      refine T_reg ?_
      refine T_val (Ev_move rfl) rfl ?_
      refine T_val (Ev_gtr rfl rfl) rfl ?_
      refine T_nil ?_
      refine T_next ?_
      refine T_caseP (s := 24) rfl (fun h131 => ?_) (fun h131 => ?_)
      · have hx132 := ite_t h131 hx129
        refine T_condT rfl ?_
        refine T_seq ?_
        refine T_reg ?_
        refine T_val (Ev_move rfl) rfl ?_
        obtain ⟨r133, h134, hx135⟩ := bnd_some hx132
        refine T_h (Wh_callK rfl (by exact .pick 0 rfl (.pick 0 rfl (.refl))) (by exact (SubE.nil)) (model_writer_number_ok (⟨s86.1⟩ : S_model_writer) 0  h134 (K := ([] : List Ent))) rfl ?_)
        rintro _ _ ⟨A136, c137, rfl, rfl, -⟩
        refine T_app2 ?_
        refine T_nil ?_
        refine T_next ?_
        refine T_seq ?_
        refine T_reg ?_
        refine T_val (Ev_move rfl) rfl ?_
        refine T_val (Ev_move rfl) rfl ?_
        obtain ⟨r138, h139, hx140⟩ := bnd_some hx135
        refine T_h (Wh_callK rfl (by exact .pick 0 rfl (.pick 0 rfl (.refl))) (by exact (SubE.nil)) (model_writer_number_ok r133 s22  h139 (K := ([] : List Ent))) rfl ?_)
        rintro _ _ ⟨A141, c142, rfl, rfl, -⟩
        refine T_app2 ?_
        refine T_nil ?_
        refine T_next ?_
        refine T_seq ?_
        refine T_reg ?_
        refine T_val (Ev_move rfl) rfl ?_
        refine T_val (Ev_move rfl) rfl ?_
        obtain ⟨h144, hx145⟩ := gd_some hx140
        have hs143 := Has.subL hs87 h144.1 h144.2
        refine T_val (Ev_subL rfl rfl slc24 h144.1 h144.2) rfl ?_
        refine T_val (Ev_assign rfl) rfl ?_
        refine T_nil ?_
        refine T_next ?_
        refine T_exit ?_
        refine T_outX ?_
        refine T_here ?_
        refine T_slot (s := 1) (v' := .slice (slA (y86.2.2.1) (y86.2.2.2) (Int.toNat s22) 3) ((subl s86.2.1 s22 (((s86.2.1).length : Nat) : Int)).length) (y86.2.2.2 - Int.toNat s22)) rfl (by have hn146 : (((s86.2.1).length) - Int.toNat s22) = (subl s86.2.1 s22 (((s86.2.1).length : Nat) : Int)).length := (Has.len hs143).symm; first | (rw [← hn146]; done) | rfl) ?_
        exact T_roundP (r138.b, subl s86.2.1 s22 (((s86.2.1).length : Nat) : Int), s86.2.2) (A141, c142, slA (y86.2.2.1) (y86.2.2.2) (Int.toNat s22) 3, y86.2.2.2 - Int.toNat s22) hx145 ((by exact ⟨Has.len' hs143, trivial⟩)) (by exact .cons rfl (.cons rfl (.cons rfl (.nil)))) (by exact .pick 0 rfl (.pick 0 rfl (.refl)))
      · have hx147 := ite_f h131 hx129
        refine T_condF rfl ?_
        refine T_skip ?_
        refine T_next ?_
        refine T_seq ?_
        refine T_reg ?_
        refine T_val (Ev_move rfl) rfl ?_
        obtain ⟨x148, h149, hx150⟩ := bnd_some hx147
        obtain ⟨b151, o152, j153, hA154, hj155, hl156, hp157⟩ := Has.at_idx hs87 h149
        refine T_val (Ev_index rfl rfl hA154 (j := j153) hj155 hl156 slc24) rfl ?_
        refine T_val (Ev_field rfl fld41_1 rfl) rfl ?_
        refine T_val (Ev_loadPK (d := 1) rfl hp157 (SubE.appC (SubE.tail (SubE.tail (hKf))) (SubE.nil)) rfl agg39) rfl ?_
        refine T_x (Wx_alloc zer39 rfl (fun g158 => ?_))
        refine T_h (Wh_store rfl rfl rfl (.here) (.put (.put (.done))) rfl (List.cons_ne_nil _ _) agg39.2 ?_)
        refine T_nil ?_
        refine T_next ?_
        refine T_seq ?_
        refine T_reg ?_
        refine T_val (Ev_move rfl) rfl ?_
        refine T_val (Ev_field rfl fld39_1 rfl) rfl ?_
        refine T_val (Ev_load1 rfl (i := 0) rfl rfl one3) rfl ?_
        refine T_val (Ev_add_w64 rfl rfl) rfl ?_
        refine T_val (Ev_field rfl fld39_0 rfl) rfl ?_
        refine T_val (Ev_load1 rfl (i := 0) rfl rfl one3) rfl ?_
        refine T_val (Ev_sub_w64 rfl rfl) rfl ?_
        obtain ⟨r159, h160, hx161⟩ := bnd_some hx150
        refine T_h (Wh_callK rfl (by exact .pick 1 rfl (.pick 1 rfl (.refl))) (by exact (SubE.nil)) (model_writer_number_ok (⟨s86.1⟩ : S_model_writer) (w64 ((w64 (1 + x148.Z.Hi)) - x148.Z.Lo))  h160 (K := ([] : List Ent))) rfl ?_)
        rintro _ _ ⟨A162, c163, rfl, rfl, -⟩
        refine T_app2 ?_
        refine T_nil ?_
        refine T_next ?_
        refine T_seq ?_
        refine T_reg ?_
        refine T_val (Ev_move rfl) rfl ?_
        refine T_val (Ev_field rfl fld39_0 rfl) rfl ?_
        refine T_val (Ev_load1 rfl (i := 2) rfl rfl one3) rfl ?_
        refine T_val (Ev_move rfl) rfl ?_
        refine T_val (Ev_sub_w64 rfl rfl) rfl ?_
        obtain ⟨r164, h165, hx166⟩ := bnd_some hx161
        refine T_h (Wh_callK rfl (by exact .pick 0 rfl (.pick 0 rfl (.refl))) (by exact (SubE.nil)) (model_writer_signed_ok r159 (w64 (x148.Z.Lo - s86.2.2))  h165 (K := ([] : List Ent))) rfl ?_)
        rintro _ _ ⟨A167, c168, rfl, rfl, -⟩
        refine T_app2 ?_
        refine T_nil ?_
        refine T_next ?_
        refine T_seq ?_
        refine T_reg ?_
        refine T_val (Ev_field rfl fld39_0 rfl) rfl ?_
        refine T_val (Ev_load1 rfl (i := 2) rfl rfl one3) rfl ?_
        refine T_val (Ev_assign rfl) rfl ?_
        refine T_nil ?_
        refine T_next ?_
        refine T_reg ?_
        refine T_val (Ev_move rfl) rfl ?_
        obtain ⟨h170, hx171⟩ := gd_some hx166
        have hs169 := Has.subL hs87 h170.1 h170.2
        refine T_val (Ev_subL rfl rfl slc24 h170.1 h170.2) rfl ?_
        refine T_val (Ev_assign rfl) rfl ?_
        refine T_nil ?_
        refine T_inN ?_
        refine T_slot (s := 1) (v' := .slice (slA (y86.2.2.1) (y86.2.2.2) (Int.toNat 1) 3) ((subl s86.2.1 1 (((s86.2.1).length : Nat) : Int)).length) (y86.2.2.2 - Int.toNat 1)) rfl (by have hn172 : (((s86.2.1).length) - Int.toNat 1) = (subl s86.2.1 1 (((s86.2.1).length : Nat) : Int)).length := (Has.len hs169).symm; first | (rw [← hn172]; done) | rfl) ?_
        exact T_roundP (r164.b, subl s86.2.1 1 (((s86.2.1).length : Nat) : Int), x148.Z.Lo) (A167, c168, slA (y86.2.2.1) (y86.2.2.2) (Int.toNat 1) 3, y86.2.2.2 - Int.toNat 1) hx171 ((by exact ⟨Has.len' hs169, trivial⟩)) (by exact .cons rfl (.cons rfl (.cons rfl (.nil)))) (by exact .pick 0 rfl (.pick 0 rfl (.drop 0 rfl (.refl))))
    · skip
      refine T_block ?_
      obtain ⟨t110, hl110, ho110⟩ := bnd_some hx89
      refine T_loopP (σ := Int) (γ := Unit) hl110 (fun s110 y110 => [(0, .pointer (some ⟨g0_0, 0, none⟩)), (1, .slice (y86.2.2.1) ((s86.2.1).length) (y86.2.2.2)), (4, .int .i64 (s86.2.2)), (5, .int .i64 (s110))]) (fun s110 y110 => [.m g0_0 155 [.slice (y86.1) ((s86.1).length) (y86.2.1)], .r (y86.1) ((s86.1).length) (y86.2.1) 5 1 ((s86.1).flatMap e_u8)] ++ Lf) (fun s110 y110 => True) () trivial (by exact .cons rfl (.cons rfl (.cons rfl (.cons rfl (.nil))))) (by exact .pick 0 rfl (.pick 0 rfl (.refl))) ?_
      intro s110 y110 hG110 x110 hx110 ht110
      unfold model_writer_cells_l3 at hx110
      refine T_seq ?_
      obtain ⟨j26, hj26, hx110⟩ := jn_some hx110
      refine T_cutP (τ := Bool) (γ := Unit) (J := j26) (out := x110) (fun s26 y26 => [(0, .pointer (some ⟨g0_0, 0, none⟩)), (1, .slice (y86.2.2.1) ((s86.2.1).length) (y86.2.2.2)), (4, .int .i64 (s86.2.2)), (5, .int .i64 (s110)), (20, .bool (s26))]) (fun s26 y26 => [.m g0_0 155 [.slice (y86.1) ((s86.1).length) (y86.2.1)], .r (y86.1) ((s86.1).length) (y86.2.1) 5 1 ((s86.1).flatMap e_u8)] ++ Lf) (fun s26 y26 => True) ?_ ?_
      · intro s26 y26 hx124 hG125
        subst hj26
        refine T_caseB (s := 20) rfl (fun h126 => ?_) (fun h126 => ?_)
        · have hx127 := ite_t h126 hx124
          refine T_condT rfl ?_
          refine T_skip ?_
          refine T_next ?_
          refine T_block ?_
          refine T_reg ?_
          refine T_val (Ev_move rfl) rfl ?_
          refine T_val (Ev_add_w64 rfl rfl) rfl ?_
          refine T_val (Ev_assign rfl) rfl ?_
          refine T_nil ?_
          refine T_inN ?_
          exact T_roundP (w64 (s110 + 1)) () hx127 trivial (by exact .cons rfl (.cons rfl (.cons rfl (.cons rfl (.nil))))) (by exact .pick 0 rfl (.pick 0 rfl (.refl)))
        · have hx128 := ite_bf h126 hx124
          refine T_condF rfl ?_
          refine T_exit ?_
          refine T_outX ?_
          obtain rfl := exit_eq ht110 hx128
          refine T_outX ?_
          refine T_here ?_
          exact T_metP s110 () ho110 trivial (by exact .cons rfl (.cons rfl (.cons rfl (.cons rfl (.nil))))) (by exact .pick 0 rfl (.pick 0 rfl (.refl)))
      · skip
        refine T_reg ?_
        refine T_val (Ev_move rfl) rfl ?_
        refine T_val (Ev_move rfl) rfl ?_
        refine T_val (Ev_len rfl 41 Try.underlying24) rfl ?_
        refine T_val (Ev_lss rfl rfl) rfl ?_
        refine T_val (Ev_move rfl) rfl ?_
        refine T_caseP (s := 14) rfl (fun h111 => ?_) (fun h111 => ?_)
        · have hx112 := ite_t h111 hx110
          refine T_valG rfl rfl rfl (Ev_move rfl) rfl ?_
          refine T_valG rfl rfl rfl (Ev_move rfl) rfl ?_
          obtain ⟨x113, h114, hx115⟩ := bnd_some hx112
          obtain ⟨b116, o117, j118, hA119, hj120, hl121, hp122⟩ := Has.at_idx hs87 h114
          refine T_valG rfl rfl rfl (Ev_index rfl rfl hA119 (j := j118) hj120 hl121 slc24) rfl ?_
          refine T_valG rfl rfl rfl (Ev_field rfl fld41_0 rfl) rfl ?_
          refine T_valG rfl rfl rfl (Ev_loadP1 (d := 0) rfl hp122 (SubE.appC (SubE.tail (SubE.tail (hKf))) (SubE.nil)) rfl one4) rfl ?_
          refine T_val (Ev_pickT rfl rfl) rfl ?_
          refine T_nil ?_
          exact T_metP x113.Void () hx115 trivial (by exact .cons rfl (.cons rfl (.cons rfl (.cons rfl (.cons rfl (.nil)))))) (by exact .pick 0 rfl (.pick 0 rfl (.refl)))
        · have hx123 := ite_f h111 hx110
          refine T_skipG rfl rfl rfl rfl rfl ?_
          refine T_skipG rfl rfl rfl rfl rfl ?_
          refine T_skipG rfl rfl rfl rfl rfl ?_
          refine T_skipG rfl rfl rfl rfl rfl ?_
          refine T_skipG rfl rfl rfl rfl rfl ?_
          refine T_val (Ev_pickF rfl rfl) rfl ?_
          refine T_nil ?_
          exact T_metP false () hx123 trivial (by exact .cons rfl (.cons rfl (.cons rfl (.cons rfl (.cons rfl (.nil)))))) (by exact .pick 0 rfl (.pick 0 rfl (.refl)))
  · have hx90 := ite_f h88 hx86
    refine T_condF rfl ?_
    refine T_exit ?_
    refine T_outX ?_
    obtain rfl := exit_eq ht86 hx90
    refine T_outX ?_
    refine T_here ?_
    obtain rfl := Option.some.inj ho86
    exact T_endK (rs := []) Try.results113 (.nil) (Ln := [.m g0_0 155 [.slice (y86.1) ((s86.1).length) (y86.2.1)], .r (y86.1) ((s86.1).length) (y86.2.1) 5 1 ((s86.1).flatMap e_u8)]) ⟨y86.1, y86.2.1, rfl, rfl, trivial⟩ (by exact .pick 0 rfl (.pick 0 rfl (.refl)))
set_option maxRecDepth 100000 in
theorem link_Checksum_ok (p0 : List Int) {K : List Ent} {A0_0 : Option Addr} {c0_0 : Nat} (ha0 : Has K A0_0 (p0).length c0_0 1 e_u8 (p0)) {r : Int} (hx : link_Checksum p0 = some r) (w : World) (hK : ∀ e ∈ K, Ent.ok w e) : CtL Try.prog 114 [.slice (A0_0) ((p0).length) (c0_0)] w fun v Ln => v = .int .u32 (r) ∧ Ln = [] ∧ True := by
  have ha0' := Has.up0 ha0
  refine CtL.mk 30 Try.func114 rfl Try.ntmps114 (by kernel_rfl) rfl ?_
  show T 30 _ [(0, .slice (A0_0) ((p0).length) (c0_0))] _
  unfold link_Checksum at hx
  refine T_seq ?_
  refine T_reg ?_
  refine T_val (Ev_assign rfl) rfl ?_
  refine T_nil ?_
  refine T_next ?_
  refine T_seq ?_
  refine T_reg ?_
  refine T_val (Ev_assign rfl) rfl ?_
  refine T_nil ?_
  refine T_next ?_
  obtain ⟨j3, hj3, hx⟩ := jn_some hx
  refine T_cutP (τ := Int) (γ := Unit) (J := j3) (out := r) (fun s3 y3 => [(3, .int .u32 (s3))]) (fun s3 y3 => [] ++ [.old w]) (fun s3 y3 => True) ?_ ?_
  · intro s3 y3 hx71 hG72
    subst hj3
    refine T_seq ?_
    refine T_reg ?_
    refine T_val (Ev_move rfl) rfl ?_
    refine T_val (Ev_xorW rfl) rfl ?_
    refine T_val (Ev_assign rfl) rfl ?_
    refine T_nil ?_
    refine T_next ?_
    refine T_retc ?_
    obtain rfl := Option.some.inj hx71
    exact T_retP (rs := [.tmp 2]) Try.results114 (.tmp rfl (.nil)) (Ln := []) ⟨rfl, rfl, trivial⟩ (loNil) (by exact .refl)
  · skip
    refine T_seq ?_
    refine T_reg ?_
    refine T_val (Ev_move rfl) rfl ?_
    refine T_val (Ev_len rfl 5 Try.underlying73) rfl ?_
    refine T_val (Ev_move rfl) rfl ?_
    refine T_nil ?_
    refine T_next ?_
    refine T_block ?_
    obtain ⟨t36, hl36, ho36⟩ := bnd_some hx
    refine T_loopP (σ := Int × Int) (γ := Unit) hl36 (fun s36 y36 => [(3, .int .u32 (s36.1)), (6, .slice (A0_0) ((p0).length) (c0_0)), (7, .int .i64 ((((p0).length : Nat) : Int))), (8, .int .i64 (s36.2))]) (fun s36 y36 => [] ++ [.old w]) (fun s36 y36 => True) () trivial (by exact .cons rfl (.cons rfl (.cons rfl (.cons rfl (.nil))))) (by exact .refl) ?_
    intro s36 y36 hG36 x36 hx36 ht36
    unfold link_Checksum_l3 at hx36
    refine T_seq ?_
    refine T_reg ?_
    refine T_val (Ev_lss rfl rfl) rfl ?_
    refine T_nil ?_
    refine T_next ?_
    refine T_seq ?_
    refine T_caseP (s := 9) rfl (fun h37 => ?_) (fun h37 => ?_)
    · have hx38 := ite_t h37 hx36
      refine T_condT rfl ?_
      refine T_skip ?_
      refine T_next ?_
      obtain ⟨j21, hj21, hx38⟩ := jn_some hx38
      refine T_cutP (τ := Int) (γ := Unit) (J := j21) (out := x36) (fun s21 y21 => [(3, .int .u32 (s21)), (6, .slice (A0_0) ((p0).length) (c0_0)), (7, .int .i64 ((((p0).length : Nat) : Int))), (8, .int .i64 (s36.2))]) (fun s21 y21 => [] ++ [.old w]) (fun s21 y21 => True) ?_ ?_
      · intro s21 y21 hx69 hG70
        subst hj21
        refine T_reg ?_
        refine T_val (Ev_add_w64 rfl rfl) rfl ?_
        refine T_val (Ev_move rfl) rfl ?_
        refine T_nil ?_
        exact T_roundP (s21, w64 (s36.2 + 1)) () hx69 trivial (by exact .cons rfl (.cons rfl (.cons rfl (.cons rfl (.nil))))) (by exact .refl)
      · skip
        refine T_block ?_
        refine T_seq ?_
        refine T_reg ?_
        obtain ⟨x40, h41, hx42⟩ := bnd_some hx38
        have hw50 := Has.low (E := []) ha0' hK
        obtain ⟨b43, o44, j45, hA46, hj47, hl48, hp49⟩ := Has.at_idx hw50 h41
        refine T_val (Ev_index rfl rfl hA46 (j := j45) hj47 hl48 slc73) rfl ?_
        refine T_val (Ev_loadP0 rfl hp49 (SubE.cons2 (i := 0) rfl (SubE.nil)) rfl one5) rfl ?_
        refine T_val (Ev_assign rfl) rfl ?_
        refine T_nil ?_
        refine T_next ?_
        refine T_seq ?_
        refine T_reg ?_
        refine T_val (Ev_move rfl) rfl ?_
        refine T_val (Ev_move rfl) rfl ?_
        refine T_val (Ev_conv_wu32 rfl (by kernel_rfl) Try.underlying105) rfl ?_
        refine T_val (Ev_bitW_xor rfl rfl) rfl ?_
        refine T_val (Ev_assign rfl) rfl ?_
        refine T_nil ?_
        refine T_next ?_
        refine T_seq ?_
        refine T_reg ?_
        refine T_val (Ev_move rfl) rfl ?_
        refine T_nil ?_
        refine T_next ?_
        refine T_block ?_
        obtain ⟨t60, hl60, ho60⟩ := bnd_some hx42
        refine T_loopP (σ := Int × Int) (γ := Unit) hl60 (fun s60 y60 => [(3, .int .u32 (s60.1)), (6, .slice (A0_0) ((p0).length) (c0_0)), (7, .int .i64 ((((p0).length : Nat) : Int))), (8, .int .i64 (s36.2)), (16, .int .i64 (s60.2))]) (fun s60 y60 => [] ++ [.old w]) (fun s60 y60 => True) () trivial (by exact .cons rfl (.cons rfl (.cons rfl (.cons rfl (.cons rfl (.nil)))))) (by exact .refl) ?_
        intro s60 y60 hG60 x60 hx60 ht60
        unfold link_Checksum_l7 at hx60
        refine T_seq ?_
        refine T_reg ?_
        refine T_val (Ev_lss rfl rfl) rfl ?_
        refine T_nil ?_
        refine T_next ?_
        refine T_seq ?_
        refine T_caseP (s := 17) rfl (fun h61 => ?_) (fun h61 => ?_)
        · have hx62 := ite_t h61 hx60
          refine T_condT rfl ?_
          refine T_skip ?_
          refine T_next ?_
          obtain ⟨j31, hj31, hx62⟩ := jn_some hx62
          refine T_cutP (τ := Int) (γ := Unit) (J := j31) (out := x60) (fun s31 y31 => [(3, .int .u32 (s31)), (6, .slice (A0_0) ((p0).length) (c0_0)), (7, .int .i64 ((((p0).length : Nat) : Int))), (8, .int .i64 (s36.2)), (16, .int .i64 (s60.2))]) (fun s31 y31 => [] ++ [.old w]) (fun s31 y31 => True) ?_ ?_
          · intro s31 y31 hx67 hG68
            subst hj31
            refine T_reg ?_
            refine T_val (Ev_add_w64 rfl rfl) rfl ?_
            refine T_val (Ev_move rfl) rfl ?_
            refine T_nil ?_
            exact T_roundP (s31, w64 (s60.2 + 1)) () hx67 trivial (by exact .cons rfl (.cons rfl (.cons rfl (.cons rfl (.cons rfl (.nil)))))) (by exact .refl)
          · skip
            refine T_block ?_
            refine T_seq ?_
            refine T_reg ?_
            refine T_val (Ev_move rfl) rfl ?_
            refine T_val (Ev_bitW_and rfl rfl) rfl ?_
            refine T_val (Ev_eql rfl rfl) rfl ?_
            refine T_nil ?_
            refine T_next ?_
            refine T_caseP (s := 20) rfl (fun h64 => ?_) (fun h64 => ?_)
            · have hx65 := ite_t h64 hx62
              refine T_condT rfl ?_
              refine T_reg ?_
              refine T_val (Ev_move rfl) rfl ?_
              refine T_val (Ev_shrW rfl rfl (by decide)) rfl ?_
              refine T_val (Ev_bitW_xor rfl rfl) rfl ?_
              refine T_val (Ev_assign rfl) rfl ?_
              refine T_nil ?_
              refine T_inN ?_
              exact T_metP (bit_xor .u32 (shr_ .u32 s60.1 1) 3988292384) () hx65 trivial (by exact .cons rfl (.cons rfl (.cons rfl (.cons rfl (.cons rfl (.nil)))))) (by exact .refl)
            · have hx66 := ite_f h64 hx62
              refine T_condF rfl ?_
              refine T_reg ?_
              refine T_val (Ev_move rfl) rfl ?_
              refine T_val (Ev_shrW rfl rfl (by decide)) rfl ?_
              refine T_val (Ev_assign rfl) rfl ?_
              refine T_nil ?_
              refine T_inN ?_
              exact T_metP (shr_ .u32 s60.1 1) () hx66 trivial (by exact .cons rfl (.cons rfl (.cons rfl (.cons rfl (.cons rfl (.nil)))))) (by exact .refl)
        · have hx63 := ite_f h61 hx60
          refine T_condF rfl ?_
          refine T_exit ?_
          refine T_outX ?_
          obtain rfl := exit_eq ht60 hx63
          refine T_outX ?_
          refine T_here ?_
          refine T_inN ?_
          exact T_metP s60.1 () ho60 trivial (by exact .cons rfl (.cons rfl (.cons rfl (.cons rfl (.nil))))) (by exact .refl)
    · have hx39 := ite_f h37 hx36
      refine T_condF rfl ?_
      refine T_exit ?_
      refine T_outX ?_
      obtain rfl := exit_eq ht36 hx39
      refine T_outX ?_
      refine T_here ?_
      exact T_metP s36.1 () ho36 trivial (by exact .cons rfl (.nil)) (by exact .refl)
set_option maxRecDepth 100000 in
theorem model_encode_ok (p0 : S_api_Grid) {K : List Ent} {A0_0 : Option Addr} {c0_0 : Nat} (ha0 : Has K A0_0 (p0.Cells).length c0_0 3 e_api_Cell (p0.Cells)) {r : List Int} (hx : model_encode p0 = some r) (w : World) (hK : ∀ e ∈ K, Ent.ok w e) : CtL Try.prog 77 [.agg #[.int .i64 (p0.Raster.X0), .int .i64 (p0.Raster.Y0), .int .i64 (p0.Raster.Step), .int .i64 (p0.Raster.NX), .int .i64 (p0.Raster.NY), .slice (A0_0) ((p0.Cells).length) (c0_0)]] w fun v Ln => ∃ (A0 : Option Addr) (c0 : Nat), v = .slice (A0) ((r).length) (c0) ∧ Ln = [.r A0 (r).length c0 5 1 ((r).flatMap e_u8)] ∧ True := by
  have ha0' := Has.up0 ha0
  refine CtL.mk 58 Try.func77 rfl Try.ntmps77 (by kernel_rfl) rfl ?_
  show T 58 _ [(0, .agg #[.int .i64 (p0.Raster.X0), .int .i64 (p0.Raster.Y0), .int .i64 (p0.Raster.Step), .int .i64 (p0.Raster.NX), .int .i64 (p0.Raster.NY), .slice (A0_0) ((p0.Cells).length) (c0_0)])] _
  unfold model_encode at hx
  refine T_seq ?_
  refine T_reg ?_
  refine T_x (Wx_box rfl rfl rfl (fun g1 => ?_))
  refine T_val (Ev_assign rfl) rfl ?_
  refine T_nil ?_
  refine T_next ?_
  refine T_seq ?_
  refine T_reg ?_
  refine T_val (Ev_build rfl (bld155_)) rfl ?_
  refine T_x (Wx_box rfl rfl rfl (fun g2 => ?_))
  refine T_val (Ev_assign rfl) rfl ?_
  refine T_nil ?_
  refine T_next ?_
  refine T_seq ?_
  refine T_reg ?_
  refine T_val (Ev_move rfl) rfl ?_
  refine T_val (Ev_field rfl fld26_0 rfl) rfl ?_
  refine T_val (Ev_field rfl fld23_0 rfl) rfl ?_
  refine T_val (Ev_load1 rfl (i := 1) rfl rfl one3) rfl ?_
  refine T_none 5 1 ?_
  obtain ⟨r3, h4, hx5⟩ := bnd_some hx
  refine T_h (Wh_callK rfl (by exact .pick 1 rfl (.pick 0 rfl (.refl))) (by exact (SubE.nil)) (model_writer_signed_ok (⟨([] : List Int)⟩ : S_model_writer) p0.Raster.X0  h4 (K := ([] : List Ent))) rfl ?_)
  rintro _ _ ⟨A6, c7, rfl, rfl, -⟩
  refine T_app2 ?_
  refine T_nil ?_
  refine T_next ?_
  refine T_seq ?_
  refine T_reg ?_
  refine T_val (Ev_move rfl) rfl ?_
  refine T_val (Ev_field rfl fld26_0 rfl) rfl ?_
  refine T_val (Ev_field rfl fld23_1 rfl) rfl ?_
  refine T_val (Ev_load1 rfl (i := 2) rfl rfl one3) rfl ?_
  obtain ⟨r8, h9, hx10⟩ := bnd_some hx5
  refine T_h (Wh_callK rfl (by exact .pick 0 rfl (.pick 0 rfl (.refl))) (by exact (SubE.nil)) (model_writer_signed_ok r3 p0.Raster.Y0  h9 (K := ([] : List Ent))) rfl ?_)
  rintro _ _ ⟨A11, c12, rfl, rfl, -⟩
  refine T_app2 ?_
  refine T_nil ?_
  refine T_next ?_
  refine T_seq ?_
  refine T_reg ?_
  refine T_val (Ev_move rfl) rfl ?_
  refine T_val (Ev_field rfl fld26_0 rfl) rfl ?_
  refine T_val (Ev_field rfl fld23_2 rfl) rfl ?_
  refine T_val (Ev_load1 rfl (i := 2) rfl rfl one3) rfl ?_
  obtain ⟨r13, h14, hx15⟩ := bnd_some hx10
  refine T_h (Wh_callK rfl (by exact .pick 0 rfl (.pick 0 rfl (.refl))) (by exact (SubE.nil)) (model_writer_number_ok r8 p0.Raster.Step  h14 (K := ([] : List Ent))) rfl ?_)
  rintro _ _ ⟨A16, c17, rfl, rfl, -⟩
  refine T_app2 ?_
  refine T_nil ?_
  refine T_next ?_
  refine T_seq ?_
  refine T_reg ?_
  refine T_val (Ev_move rfl) rfl ?_
  refine T_val (Ev_field rfl fld26_0 rfl) rfl ?_
  refine T_val (Ev_field rfl fld23_3 rfl) rfl ?_
  refine T_val (Ev_load1 rfl (i := 2) rfl rfl one3) rfl ?_
  obtain ⟨r18, h19, hx20⟩ := bnd_some hx15
  refine T_h (Wh_callK rfl (by exact .pick 0 rfl (.pick 0 rfl (.refl))) (by exact (SubE.nil)) (model_writer_number_ok r13 p0.Raster.NX  h19 (K := ([] : List Ent))) rfl ?_)
  rintro _ _ ⟨A21, c22, rfl, rfl, -⟩
  refine T_app2 ?_
  refine T_nil ?_
  refine T_next ?_
  refine T_seq ?_
  refine T_reg ?_
  refine T_val (Ev_move rfl) rfl ?_
  refine T_val (Ev_field rfl fld26_0 rfl) rfl ?_
  refine T_val (Ev_field rfl fld23_4 rfl) rfl ?_
  refine T_val (Ev_load1 rfl (i := 2) rfl rfl one3) rfl ?_
  obtain ⟨r23, h24, hx25⟩ := bnd_some hx20
  refine T_h (Wh_callK rfl (by exact .pick 0 rfl (.pick 0 rfl (.refl))) (by exact (SubE.nil)) (model_writer_number_ok r18 p0.Raster.NY  h24 (K := ([] : List Ent))) rfl ?_)
  rintro _ _ ⟨A26, c27, rfl, rfl, -⟩
  refine T_app2 ?_
  refine T_nil ?_
  refine T_next ?_
  refine T_seq ?_
  refine T_reg ?_
  refine T_val (Ev_move rfl) rfl ?_
  refine T_val (Ev_field rfl fld26_1 rfl) rfl ?_
  refine T_val (Ev_load1 rfl (i := 2) rfl rfl one24) rfl ?_
  obtain ⟨r28, h29, hx30⟩ := bnd_some hx25
  have hw31 := Has.low (K := K) (E := []) (ha0') hK
  refine T_h (Wh_callK rfl (by exact .pick 0 rfl (.pick 0 rfl (.refl))) (by exact (SubE.cons2 (i := 1) rfl (SubE.nil))) (model_writer_cells_ok r23 p0.Cells (Has.len' hw31) h29 (K := (.old w :: []))) rfl ?_)
  rintro _ _ ⟨A32, c33, rfl, rfl, -⟩
  refine T_app2 ?_
  refine T_nil ?_
  refine T_next ?_
  refine T_seq ?_
  refine T_reg ?_
  refine T_val (Ev_move rfl) rfl ?_
  refine T_val (Ev_nilCheck rfl) rfl ?_
  refine T_val (Ev_field rfl fld155_0 rfl) rfl ?_
  refine T_val (Ev_load1 rfl (i := 0) rfl rfl one73) rfl ?_
  refine T_rowP (k := 1) rfl (by decide) (fun _ => rfl) (fun hn34 hs35 => ?_)
  obtain ⟨r36, h37, hx38⟩ := bnd_some hx30
  refine T_x (Wx_callL rfl (fun w1 hw1 => link_Checksum_ok r28.b (Has.len' hs35) h37 w1 (okAll (K := ([.r (A32) ((r28.b).length) (c33) 5 1 ((r28.b).flatMap e_u8)] : List Ent)) (by exact (SubE.cons2 (i := 1) rfl (SubE.nil))) hw1)) rfl ?_)
  rintro _ _ hlo ⟨rfl, rfl, -⟩
  refine T_app0 ?_
  refine T_val (Ev_assign rfl) rfl ?_
  refine T_nil ?_
  refine T_next ?_
  refine T_seq ?_
  refine T_reg ?_
  refine T_val (Ev_move rfl) rfl ?_
  refine T_val (Ev_nilCheck rfl) rfl ?_
  refine T_val (Ev_field rfl fld155_0 rfl) rfl ?_
  refine T_val (Ev_load1 rfl (i := 0) rfl rfl one73) rfl ?_
  refine T_val (Ev_move rfl) rfl ?_
  refine T_val (Ev_shrW rfl rfl (by decide)) rfl ?_
  refine T_val (Ev_conv_wu8 rfl (by kernel_rfl) Try.underlying5) rfl ?_
  refine T_val (Ev_move rfl) rfl ?_
  refine T_val (Ev_shrW rfl rfl (by decide)) rfl ?_
  refine T_val (Ev_conv_wu8 rfl (by kernel_rfl) Try.underlying5) rfl ?_
  refine T_val (Ev_move rfl) rfl ?_
  refine T_val (Ev_shrW rfl rfl (by decide)) rfl ?_
  refine T_val (Ev_conv_wu8 rfl (by kernel_rfl) Try.underlying5) rfl ?_
  refine T_val (Ev_move rfl) rfl ?_
  refine T_val (Ev_conv_wu8 rfl (by kernel_rfl) Try.underlying5) rfl ?_
  refine T_x (Wx_buildSlice rfl (bls73_4_0u81u82u83u8 _ _ _ _) rfl (fun g39 => ?_))
  obtain ⟨h40, hx41⟩ := gd_some hx38
  refine T_h (Wh_appendP e_u8 (r28.b) [wu8 (shr_ .u32 r36 24), wu8 (shr_ .u32 r36 16), wu8 (shr_ .u32 r36 8), wu8 (r36)] rfl rfl rfl elm73 (fun _ => rfl) (i' := 0) rfl rfl rfl rfl h40 rfl (fun _ _ => .there (.there (.here))) (fun _ _ => .drop .refl) (by decide) (fun A42 c43 => ?_))
  refine T_val (Ev_assign rfl) rfl ?_
  refine T_nil ?_
  refine T_next ?_
  refine T_retc ?_
  obtain rfl := Option.some.inj hx41
  exact T_retP (rs := [.tmp 2]) Try.results77 (.tmp rfl (.nil)) (Ln := [.r (A42) ((r28.b ++ [wu8 (shr_ .u32 r36 24), wu8 (shr_ .u32 r36 16), wu8 (shr_ .u32 r36 8), wu8 (r36)]).length) (c43) 5 1 ((r28.b ++ [wu8 (shr_ .u32 r36 24), wu8 (shr_ .u32 r36 16), wu8 (shr_ .u32 r36 8), wu8 (r36)]).flatMap e_u8)]) ⟨A42, c43, rfl, rfl, trivial⟩ (loCons rfl (loNil)) (by exact .pick 1 rfl (.drop 0 rfl (.drop 0 rfl (.refl))))
set_option maxRecDepth 100000 in
theorem model_Encode_ok (p0 : S_api_Grid) {K : List Ent} {A0_0 : Option Addr} {c0_0 : Nat} (ha0 : Has K A0_0 (p0.Cells).length c0_0 3 e_api_Cell (p0.Cells)) {r : (List Int) × Int} (hx : model_Encode p0 = some r) (w : World) (hK : ∀ e ∈ K, Ent.ok w e) : CtL Try.prog 40 [.agg #[.int .i64 (p0.Raster.X0), .int .i64 (p0.Raster.Y0), .int .i64 (p0.Raster.Step), .int .i64 (p0.Raster.NX), .int .i64 (p0.Raster.NY), .slice (A0_0) ((p0.Cells).length) (c0_0)]] w fun v Ln => ∃ (A0 : Option Addr) (c0 : Nat), v = .tuple #[.slice (A0) ((r.1).length) (c0), .int .i64 (r.2)] ∧ Ln = [.r A0 (r.1).length c0 5 1 ((r.1).flatMap e_u8)] ∧ True := by
  have ha0' := Has.up0 ha0
  refine CtL.mk 9 Try.func40 rfl Try.ntmps40 (by kernel_rfl) rfl ?_
  show T 9 _ [(0, .agg #[.int .i64 (p0.Raster.X0), .int .i64 (p0.Raster.Y0), .int .i64 (p0.Raster.Step), .int .i64 (p0.Raster.NX), .int .i64 (p0.Raster.NY), .slice (A0_0) ((p0.Cells).length) (c0_0)])] _
  unfold model_Encode at hx
  refine T_seq ?_
  refine T_reg ?_
  refine T_x (Wx_box rfl rfl rfl (fun g1 => ?_))
  refine T_val (Ev_assign rfl) rfl ?_
  refine T_val (Ev_assign rfl) rfl ?_
  refine T_nil ?_
  refine T_next ?_
  refine T_seq ?_
  refine T_seq ?_
  refine T_reg ?_
  refine T_val (Ev_loadK rfl (i := 0) rfl rfl agg26) rfl ?_
  obtain ⟨r2, h3, hx4⟩ := bnd_some hx
  refine T_x (Wx_callL rfl (fun w1 hw1 => model_Valid_ok p0 (Has.len' ha0') h3 w1 (okApp (K := K) (K2 := []) hK (by exact (SubE.cons2 (i := 1) rfl (SubE.nil))) (by exact (SubE.nil)) hw1)) rfl ?_)
  rintro _ _ hlo ⟨rfl, rfl, -⟩
  refine T_app0 ?_
  refine T_val (Ev_not rfl) rfl ?_
  refine T_nil ?_
  refine T_next ?_
  refine T_caseNB (s := 6) rfl (fun h5 => ?_) (fun h5 => ?_)
  · have hx6 := ite_bf h5 hx4
    refine T_condT rfl ?_
    refine T_seq ?_
    refine T_reg ?_
    refine T_val (Ev_assign rfl) rfl ?_
    refine T_val (Ev_assign rfl) rfl ?_
    refine T_nil ?_
    refine T_next ?_
    refine T_retc ?_
    refine T_outR ?_
    refine T_none 5 1 ?_
    obtain rfl := Option.some.inj hx6
    exact T_retP (rs := [.tmp 2, .tmp 3]) Try.results40 (.tmp rfl (.tmp rfl (.nil))) (Ln := [.r (none) (0) (0) 5 1 ((([] : List Int)).flatMap e_u8)]) ⟨none, 0, rfl, rfl, trivial⟩ (loCons rfl (loNil)) (by exact .pick 0 rfl (.drop 0 rfl (.refl)))
  · have hx7 := ite_t h5 hx4
    refine T_condF rfl ?_
    refine T_skip ?_
    refine T_next ?_
    refine T_seq ?_
    refine T_reg ?_
    refine T_val (Ev_loadK rfl (i := 0) rfl rfl agg26) rfl ?_
    obtain ⟨r8, h9, hx10⟩ := bnd_some hx7
    refine T_x (Wx_callL rfl (fun w1 hw1 => model_encode_ok p0 (Has.len' ha0') h9 w1 (okApp (K := K) (K2 := []) hK (by exact (SubE.cons2 (i := 1) rfl (SubE.nil))) (by exact (SubE.nil)) hw1)) rfl ?_)
    rintro _ _ hlo ⟨A11, c12, rfl, rfl, -⟩
    refine T_app1 ?_
    refine T_val (Ev_assign rfl) rfl ?_
    refine T_val (Ev_assign rfl) rfl ?_
    refine T_nil ?_
    refine T_next ?_
    refine T_retc ?_
    obtain rfl := Option.some.inj hx10
    exact T_retP (rs := [.tmp 2, .tmp 3]) Try.results40 (.tmp rfl (.tmp rfl (.nil))) (Ln := [.r (A11) ((r8).length) (c12) 5 1 ((r8).flatMap e_u8)]) ⟨A11, c12, rfl, rfl, trivial⟩ (loCons rfl (loNil)) (by exact .pick 0 rfl (.drop 0 rfl (.refl)))
set_option maxRecDepth 100000 in
theorem lidarref02_joined_ok (p0 : List (List Int)) {K : List Ent} {A0_0 : Option Addr} {c0_0 : Nat} (ha0 : HasN K A0_0 (p0).length c0_0 1 n_List_Int (p0)) {r : List Int} (hx : lidarref02_joined p0 = some r) (w : World) (hK : ∀ e ∈ K, Ent.ok w e) : CtL Try.prog 115 [.slice (A0_0) ((p0).length) (c0_0)] w fun v Ln => ∃ (A0 : Option Addr) (c0 : Nat), v = .slice (A0) ((r).length) (c0) ∧ Ln = [.r A0 (r).length c0 5 1 ((r).flatMap e_u8)] ∧ True := by
  have ha0' := HasN.up0 ha0
  refine CtL.mk 18 Try.func115 rfl Try.ntmps115 (by kernel_rfl) rfl ?_
  show T 18 _ [(0, .slice (A0_0) ((p0).length) (c0_0))] _
  unfold lidarref02_joined at hx
  refine T_seq ?_
  refine T_reg ?_
  refine T_val (Ev_assign rfl) rfl ?_
  refine T_nil ?_
  refine T_next ?_
  refine T_seq ?_
  refine T_reg ?_
  refine T_val (Ev_assign rfl) rfl ?_
  refine T_nil ?_
  refine T_next ?_
  obtain ⟨j3, hj3, hx⟩ := jn_some hx
  refine T_cutP (τ := List Int) (γ := (Option Addr) × Nat) (J := j3) (out := r) (fun s3 y3 => [(3, .slice (y3.1) ((s3).length) (y3.2))]) (fun s3 y3 => [.r (y3.1) ((s3).length) (y3.2) 5 1 ((s3).flatMap e_u8)] ++ [.old w]) (fun s3 y3 => True) ?_ ?_
  · intro s3 y3 hx53 hG54
    subst hj3
    refine T_seq ?_
    refine T_reg ?_
    refine T_val (Ev_move rfl) rfl ?_
    refine T_val (Ev_assign rfl) rfl ?_
    refine T_nil ?_
    refine T_next ?_
    refine T_retc ?_
    obtain rfl := Option.some.inj hx53
    exact T_retP (rs := [.tmp 2]) Try.results115 (.tmp rfl (.nil)) (Ln := [.r (y3.1) ((s3).length) (y3.2) 5 1 ((s3).flatMap e_u8)]) ⟨y3.1, y3.2, rfl, rfl, trivial⟩ (loCons rfl (loNil)) (by exact .pick 0 rfl (.refl))
  · skip
    refine T_seq ?_
    refine T_reg ?_
    refine T_val (Ev_move rfl) rfl ?_
    refine T_val (Ev_len rfl 73 Try.underlying179) rfl ?_
    refine T_val (Ev_move rfl) rfl ?_
    refine T_nil ?_
    refine T_next ?_
    refine T_block ?_
    obtain ⟨t27, hl27, ho27⟩ := bnd_some hx
    refine T_none 5 1 ?_
    have hn28 : 0 = (([] : List Int)).length := by simp [setI_len, cpy_len, List.length_append] <;> omega
    refine T_ent (.here) (e' := .r (none) ((([] : List Int)).length) (0) 5 1 ((([] : List Int)).flatMap e_u8)) (by first | (rw [← hn28]; done) | rfl) ?_
    refine T_loopP (σ := (List Int) × Int) (γ := (Option Addr) × Nat) hl27 (fun s27 y27 => [(0, .slice (A0_0) ((p0).length) (c0_0)), (3, .slice (y27.1) ((s27.1).length) (y27.2)), (6, .int .i64 ((((p0).length : Nat) : Int))), (7, .int .i64 (s27.2))]) (fun s27 y27 => [.r (y27.1) ((s27.1).length) (y27.2) 5 1 ((s27.1).flatMap e_u8)] ++ [.old w]) (fun s27 y27 => True) (none, 0) trivial (by exact .cons rfl (.cons rfl (.cons rfl (.cons rfl (.nil))))) (by exact .pick 0 rfl (.refl)) ?_
    intro s27 y27 hG27 x27 hx27 ht27
    unfold lidarref02_joined_l3 at hx27
    refine T_seq ?_
    refine T_reg ?_
    refine T_val (Ev_lss rfl rfl) rfl ?_
    refine T_nil ?_
    refine T_next ?_
    refine T_seq ?_
    refine T_caseP (s := 8) rfl (fun h29 => ?_) (fun h29 => ?_)
    · have hx30 := ite_t h29 hx27
      refine T_condT rfl ?_
      refine T_skip ?_
      refine T_next ?_
      refine T_seq ?_
      refine T_block ?_
      refine T_seq ?_
      refine T_reg ?_
      refine T_val (Ev_move rfl) rfl ?_
      refine T_val (Ev_assign rfl) rfl ?_
      refine T_nil ?_
      refine T_next ?_
      refine T_reg ?_
      refine T_val (Ev_move rfl) rfl ?_
      refine T_val (Ev_move rfl) rfl ?_
      refine T_val (Ev_move rfl) rfl ?_
      obtain ⟨x32, h33, hx34⟩ := bnd_some hx30
      obtain ⟨b35, o36, j37, ys45, hA38, hj39, hl40, hp41, hr46⟩ := HasN.at_idx ha0' h33
      obtain ⟨A42, c43, rfl, hs44⟩ := hr46
      have hp47 := Pt.low (E := []) hp41 hK
      refine T_val (Ev_index rfl rfl hA38 (j := j37) hj39 hl40 slc179) rfl ?_
      refine T_val (Ev_loadP0 rfl hp47 (SubE.cons2 (i := 1) rfl (SubE.nil)) rfl one73) rfl ?_
      have hw48 := Has.low (E := []) hs44 hK
      obtain ⟨h49, hx50⟩ := gd_some hx34
      refine T_h (Wh_appendH e_u8 (s27.1) (x32) rfl rfl elm73 (fun _ => rfl) hw48 (SubE.cons2 (i := 1) rfl (SubE.nil)) (fun _ => rfl) h49 rfl (fun _ _ => .here) (by decide) (fun A51 c52 => ?_))
      refine T_val (Ev_assign rfl) rfl ?_
      refine T_nil ?_
      refine T_inN ?_
      refine T_next ?_
      refine T_reg ?_
      refine T_val (Ev_add_w64 rfl rfl) rfl ?_
      refine T_val (Ev_move rfl) rfl ?_
      refine T_nil ?_
      exact T_roundP (s27.1 ++ x32, w64 (s27.2 + 1)) (A51, c52) hx50 trivial (by exact .cons rfl (.cons rfl (.cons rfl (.cons rfl (.nil))))) (by exact .pick 0 rfl (.refl))
    · have hx31 := ite_f h29 hx27
      refine T_condF rfl ?_
      refine T_exit ?_
      refine T_outX ?_
      obtain rfl := exit_eq ht27 hx31
      refine T_outX ?_
      refine T_here ?_
      exact T_metP s27.1 (y27.1, y27.2) ho27 trivial (by exact .cons rfl (.nil)) (by exact .pick 0 rfl (.refl))
set_option maxRecDepth 100000 in
theorem lidarref02_Number_ok (p0 : List Int) (p1 : Int) {K : List Ent} {A0_0 : Option Addr} {c0_0 : Nat} (ha0 : Has K A0_0 (p0).length c0_0 1 e_u8 (p0)) {r : (List Int) × Int} (hx : lidarref02_Number p0 p1 = some r) (w : World) (hK : ∀ e ∈ K, Ent.ok w e) : CtL Try.prog 79 [.slice (A0_0) ((p0).length) (c0_0), .int .i64 (p1)] w fun v Ln => ∃ (A0 : Option Addr) (c0 : Nat), v = .tuple #[.slice (A0) ((r.1).length) (c0), .int .i64 (r.2)] ∧ Ln = [.r A0 (r.1).length c0 5 1 ((r.1).flatMap e_u8)] ∧ True := by
  have ha0' := Has.up0 ha0
  refine CtL.mk 32 Try.func79 rfl Try.ntmps79 (by kernel_rfl) rfl ?_
  show T 32 _ [(0, .slice (A0_0) ((p0).length) (c0_0)), (1, .int .i64 (p1))] _
  unfold lidarref02_Number at hx
  refine T_seq ?_
  refine T_reg ?_
  refine T_val (Ev_assign rfl) rfl ?_
  refine T_val (Ev_assign rfl) rfl ?_
  refine T_nil ?_
  refine T_next ?_
  refine T_seq ?_
  obtain ⟨j3, hj3, hx⟩ := jn_some hx
  refine T_cutP (τ := Bool) (γ := Unit) (J := j3) (out := r) (fun s3 y3 => [(0, .slice (A0_0) ((p0).length) (c0_0)), (1, .int .i64 (p1)), (12, .bool (s3))]) (fun s3 y3 => [] ++ [.old w]) (fun s3 y3 => True) ?_ ?_
  · intro s3 y3 hx4 hG5
    subst hj3
    refine T_caseB (s := 12) rfl (fun h6 => ?_) (fun h6 => ?_)
    · have hx7 := ite_t h6 hx4
      refine T_condT rfl ?_
      refine T_seq ?_
      refine T_reg ?_
      refine T_val (Ev_assign rfl) rfl ?_
      refine T_val (Ev_assign rfl) rfl ?_
      refine T_nil ?_
      refine T_next ?_
      refine T_retc ?_
      refine T_outR ?_
      refine T_none 5 1 ?_
      obtain rfl := Option.some.inj hx7
      exact T_retP (rs := [.tmp 4, .tmp 5]) Try.results79 (.tmp rfl (.tmp rfl (.nil))) (Ln := [.r (none) (0) (0) 5 1 ((([] : List Int)).flatMap e_u8)]) ⟨none, 0, rfl, rfl, trivial⟩ (loCons rfl (loNil)) (by exact .pick 0 rfl (.refl))
    · have hx8 := ite_bf h6 hx4
      refine T_condF rfl ?_
      refine T_skip ?_
      refine T_next ?_
      refine T_seq ?_
      refine T_reg ?_
      refine T_val (Ev_move rfl) rfl ?_
      refine T_x (Wx_buildSlice rfl (bls179_1_0s _ _ _) rfl (fun g9 => ?_))
      have hs10 : HasN (K ++ [.m g9 73 [.slice (A0_0) ((p0).length) (c0_0)]]) (some ⟨g9, 0, none⟩) 1 1 1 n_List_Int [p0] := ⟨[[.slice (A0_0) ((p0).length) (c0_0)]], Has.up (L := (K ++ [.m g9 73 [.slice (A0_0) ((p0).length) (c0_0)]])) (Has.ofM (fun x hx => by simp at hx; rcases hx with rfl <;> rfl) rfl (by decide) rfl : Has [.m g9 73 [.slice (A0_0) ((p0).length) (c0_0)]] (some ⟨g9, 0, none⟩) 1 1 1 raw [[.slice (A0_0) ((p0).length) (c0_0)]]) (SubE.appR2 (SubE.cons2 (i := 0) rfl (SubE.nil))), rfl, fun i h h' => match i, h, h' with | 0, _, _ => ⟨A0_0, c0_0, rfl, Has.len' (Has.up (L := (K ++ [.m g9 73 [.slice (A0_0) ((p0).length) (c0_0)]])) ha0' (SubE.app2 SubE.nil))⟩ | j + 1, h, _ => absurd h (by simp)⟩
      obtain ⟨r11, h12, hx13⟩ := bnd_some hx8
      refine T_x (Wx_callL rfl (fun w1 hw1 => lidarref02_joined_ok ([p0]) (HasN.len' hs10) h12 w1 (okApp (K := K) (K2 := [.m g9 73 [.slice (A0_0) ((p0).length) (c0_0)]]) hK (by exact (SubE.cons2 (i := 1) rfl (SubE.nil))) (by exact (SubE.cons2 (i := 0) rfl (SubE.nil))) hw1)) rfl ?_)
      rintro _ _ hlo ⟨A14, c15, rfl, rfl, -⟩
      refine T_app1 ?_
      refine T_val (Ev_assign rfl) rfl ?_
      refine T_nil ?_
      refine T_next ?_
      obtain ⟨j6, hj6, hx13⟩ := jn_some hx13
      refine T_cutP (τ := Int × (List Int)) (γ := (Option Addr) × Nat) (J := j6) (out := r) (fun s6 y6 => [(1, .int .i64 (s6.1)), (6, .slice (y6.1) ((s6.2).length) (y6.2))]) (fun s6 y6 => [.r (y6.1) ((s6.2).length) (y6.2) 5 1 ((s6.2).flatMap e_u8)] ++ [.old w]) (fun s6 y6 => True) ?_ ?_
      · intro s6 y6 hx34 hG35
        subst hj6
        refine T_seq ?_
        refine T_reg ?_
        refine T_val (Ev_move rfl) rfl ?_
        refine T_val (Ev_move rfl) rfl ?_
        refine T_val (Ev_conv_wu8 rfl (by kernel_rfl) Try.underlying5) rfl ?_
        refine T_x (Wx_buildSlice rfl (bls73_1_0u8 _) rfl (fun g36 => ?_))
        obtain ⟨h37, hx38⟩ := gd_some hx34
        refine T_h (Wh_appendP e_u8 (s6.2) [wu8 (s6.1)] rfl rfl rfl elm73 (fun _ => rfl) (i' := 0) rfl rfl rfl rfl h37 rfl (fun _ _ => .there (.here)) (fun _ _ => .drop .refl) (by decide) (fun A39 c40 => ?_))
        refine T_val (Ev_assign rfl) rfl ?_
        refine T_val (Ev_assign rfl) rfl ?_
        refine T_nil ?_
        refine T_next ?_
        refine T_retc ?_
        obtain rfl := Option.some.inj hx38
        exact T_retP (rs := [.tmp 4, .tmp 5]) Try.results79 (.tmp rfl (.tmp rfl (.nil))) (Ln := [.r (A39) ((s6.2 ++ [wu8 (s6.1)]).length) (c40) 5 1 ((s6.2 ++ [wu8 (s6.1)]).flatMap e_u8)]) ⟨A39, c40, rfl, rfl, trivial⟩ (loCons rfl (loNil)) (by exact .pick 0 rfl (.refl))
      · skip
        refine T_block ?_
        obtain ⟨t25, hl25, ho25⟩ := bnd_some hx13
        refine T_loopP (σ := Int × (List Int)) (γ := (Option Addr) × Nat) hl25 (fun s25 y25 => [(1, .int .i64 (s25.1)), (6, .slice (y25.1) ((s25.2).length) (y25.2))]) (fun s25 y25 => [.r (y25.1) ((s25.2).length) (y25.2) 5 1 ((s25.2).flatMap e_u8)] ++ [.old w]) (fun s25 y25 => True) (A14, c15) trivial (by exact .cons rfl (.cons rfl (.nil))) (by exact .pick 0 rfl (.drop 0 rfl (.refl))) ?_
        intro s25 y25 hG25 x25 hx25 ht25
        unfold lidarref02_Number_l4 at hx25
        refine T_seq ?_
        refine T_seq ?_
        refine T_reg ?_
        refine T_val (Ev_move rfl) rfl ?_
        refine T_val (Ev_geq rfl rfl) rfl ?_
        refine T_nil ?_
        refine T_next ?_
        refine T_caseP (s := 17) rfl (fun h26 => ?_) (fun h26 => ?_)
        · have hx27 := ite_t h26 hx25
          refine T_condT rfl ?_
          refine T_skip ?_
          refine T_next ?_
          refine T_block ?_
          refine T_seq ?_
          refine T_reg ?_
          refine T_val (Ev_move rfl) rfl ?_
          refine T_val (Ev_move rfl) rfl ?_
          refine T_val (Ev_rem rfl rfl (by decide)) rfl ?_
          refine T_val (Ev_add_w64 rfl rfl) rfl ?_
          refine T_val (Ev_conv_wu8 rfl (by kernel_rfl) Try.underlying5) rfl ?_
          refine T_x (Wx_buildSlice rfl (bls73_1_0u8 _) rfl (fun g29 => ?_))
          obtain ⟨h30, hx31⟩ := gd_some hx27
          refine T_h (Wh_appendP e_u8 (s25.2) [wu8 (w64 ((Int.tmod s25.1 128) + 128))] rfl rfl rfl elm73 (fun _ => rfl) (i' := 0) rfl rfl rfl rfl h30 rfl (fun _ _ => .there (.here)) (fun _ _ => .drop .refl) (by decide) (fun A32 c33 => ?_))
          refine T_val (Ev_assign rfl) rfl ?_
          refine T_nil ?_
          refine T_next ?_
          refine T_reg ?_
          refine T_val (Ev_move rfl) rfl ?_
          refine T_val (Ev_quo_w64 rfl rfl (by decide)) rfl ?_
          refine T_val (Ev_assign rfl) rfl ?_
          refine T_nil ?_
          refine T_inN ?_
          exact T_roundP (w64 (Int.tdiv s25.1 128), s25.2 ++ [wu8 (w64 ((Int.tmod s25.1 128) + 128))]) (A32, c33) hx31 trivial (by exact .cons rfl (.cons rfl (.nil))) (by exact .pick 0 rfl (.refl))
        · have hx28 := ite_f h26 hx25
          refine T_condF rfl ?_
          refine T_exit ?_
          refine T_outX ?_
          obtain rfl := exit_eq ht25 hx28
          refine T_outX ?_
          refine T_here ?_
          exact T_metP (s25.1, s25.2) (y25.1, y25.2) ho25 trivial (by exact .cons rfl (.cons rfl (.nil))) (by exact .pick 0 rfl (.refl))
  · skip
    refine T_reg ?_
    refine T_val (Ev_move rfl) rfl ?_
    refine T_val (Ev_lss rfl rfl) rfl ?_
    refine T_val (Ev_move rfl) rfl ?_
    refine T_caseP (s := 9) rfl (fun h1 => ?_) (fun h1 => ?_)
    · have hx2 := ite_t h1 hx
      refine T_skipG rfl rfl rfl rfl rfl ?_
      refine T_skipG rfl rfl rfl rfl rfl ?_
      refine T_val (Ev_pickT rfl rfl) rfl ?_
      refine T_nil ?_
      exact T_metP true () hx2 trivial (by exact .cons rfl (.cons rfl (.cons rfl (.nil)))) (by exact .refl)
    · have hx3 := ite_f h1 hx
      refine T_valG rfl rfl rfl (Ev_move rfl) rfl ?_
      refine T_valG rfl rfl rfl (Ev_gtr rfl rfl) rfl ?_
      refine T_val (Ev_pickF rfl rfl) rfl ?_
      refine T_nil ?_
      exact T_metP (decide (4611686018427387903 < p1)) () hx3 trivial (by exact .cons rfl (.cons rfl (.cons rfl (.nil)))) (by exact .refl)
set_option maxRecDepth 100000 in
theorem lidarref02_Signed_ok (p0 : List Int) (p1 : Int) {K : List Ent} {A0_0 : Option Addr} {c0_0 : Nat} (ha0 : Has K A0_0 (p0).length c0_0 1 e_u8 (p0)) {r : (List Int) × Int} (hx : lidarref02_Signed p0 p1 = some r) (w : World) (hK : ∀ e ∈ K, Ent.ok w e) : CtL Try.prog 78 [.slice (A0_0) ((p0).length) (c0_0), .int .i64 (p1)] w fun v Ln => ∃ (A0 : Option Addr) (c0 : Nat), v = .tuple #[.slice (A0) ((r.1).length) (c0), .int .i64 (r.2)] ∧ Ln = [.r A0 (r.1).length c0 5 1 ((r.1).flatMap e_u8)] ∧ True := by
  have ha0' := Has.up0 ha0
  refine CtL.mk 27 Try.func78 rfl Try.ntmps78 (by kernel_rfl) rfl ?_
  show T 27 _ [(0, .slice (A0_0) ((p0).length) (c0_0)), (1, .int .i64 (p1))] _
  unfold lidarref02_Signed at hx
  refine T_seq ?_
  refine T_reg ?_
  refine T_val (Ev_assign rfl) rfl ?_
  refine T_val (Ev_assign rfl) rfl ?_
  refine T_nil ?_
  refine T_next ?_
  refine T_seq ?_
  obtain ⟨j3, hj3, hx⟩ := jn_some hx
  refine T_cutP (τ := Bool) (γ := Unit) (J := j3) (out := r) (fun s3 y3 => [(0, .slice (A0_0) ((p0).length) (c0_0)), (1, .int .i64 (p1)), (11, .bool (s3))]) (fun s3 y3 => [] ++ [.old w]) (fun s3 y3 => True) ?_ ?_
  · intro s3 y3 hx4 hG5
    subst hj3
    refine T_caseB (s := 11) rfl (fun h6 => ?_) (fun h6 => ?_)
    · have hx7 := ite_t h6 hx4
      refine T_condT rfl ?_
      refine T_seq ?_
      refine T_reg ?_
      refine T_val (Ev_assign rfl) rfl ?_
      refine T_val (Ev_assign rfl) rfl ?_
      refine T_nil ?_
      refine T_next ?_
      refine T_retc ?_
      refine T_outR ?_
      refine T_none 5 1 ?_
      obtain rfl := Option.some.inj hx7
      exact T_retP (rs := [.tmp 4, .tmp 5]) Try.results78 (.tmp rfl (.tmp rfl (.nil))) (Ln := [.r (none) (0) (0) 5 1 ((([] : List Int)).flatMap e_u8)]) ⟨none, 0, rfl, rfl, trivial⟩ (loCons rfl (loNil)) (by exact .pick 0 rfl (.refl))
    · have hx8 := ite_bf h6 hx4
      refine T_condF rfl ?_
      refine T_skip ?_
      refine T_next ?_
      refine T_seq ?_
      refine T_seq ?_
      refine T_reg ?_
      refine T_val (Ev_move rfl) rfl ?_
      refine T_val (Ev_lss rfl rfl) rfl ?_
      refine T_nil ?_
      refine T_next ?_
      refine T_caseP (s := 13) rfl (fun h9 => ?_) (fun h9 => ?_)
      · have hx10 := ite_t h9 hx8
        refine T_condT rfl ?_
        refine T_seq ?_
        refine T_reg ?_
        refine T_val (Ev_move rfl) rfl ?_
        refine T_val (Ev_move rfl) rfl ?_
        refine T_val (Ev_mul_w64 rfl rfl) rfl ?_
        refine T_val (Ev_sub_w64 rfl rfl) rfl ?_
        obtain ⟨r11, h12, hx13⟩ := bnd_some hx10
        refine T_x (Wx_callL rfl (fun w1 hw1 => lidarref02_Number_ok p0 (w64 ((w64 ((-2) * p1)) - 1)) (Has.len' ha0') h12 w1 (okApp (K := K) (K2 := []) hK (by exact (SubE.cons2 (i := 0) rfl (SubE.nil))) (by exact (SubE.nil)) hw1)) rfl ?_)
        rintro _ _ hlo ⟨A14, c15, rfl, rfl, -⟩
        refine T_app1 ?_
        refine T_val (Ev_extract rfl rfl) rfl ?_
        refine T_val (Ev_extract rfl rfl) rfl ?_
        refine T_val (Ev_assign rfl) rfl ?_
        refine T_val (Ev_assign rfl) rfl ?_
        refine T_nil ?_
        refine T_next ?_
        refine T_retc ?_
        refine T_outR ?_
        obtain rfl := Option.some.inj hx13
        exact T_retP (rs := [.tmp 4, .tmp 5]) Try.results78 (.tmp rfl (.tmp rfl (.nil))) (Ln := [.r (A14) ((r11.1).length) (c15) 5 1 ((r11.1).flatMap e_u8)]) ⟨A14, c15, rfl, rfl, trivial⟩ (loCons rfl (loNil)) (by exact .pick 0 rfl (.refl))
      · have hx16 := ite_f h9 hx8
        refine T_condF rfl ?_
        refine T_skip ?_
        refine T_next ?_
        refine T_seq ?_
        refine T_reg ?_
        refine T_val (Ev_move rfl) rfl ?_
        refine T_val (Ev_move rfl) rfl ?_
        refine T_val (Ev_mul_w64 rfl rfl) rfl ?_
        obtain ⟨r17, h18, hx19⟩ := bnd_some hx16
        refine T_x (Wx_callL rfl (fun w1 hw1 => lidarref02_Number_ok p0 (w64 (2 * p1)) (Has.len' ha0') h18 w1 (okApp (K := K) (K2 := []) hK (by exact (SubE.cons2 (i := 0) rfl (SubE.nil))) (by exact (SubE.nil)) hw1)) rfl ?_)
        rintro _ _ hlo ⟨A20, c21, rfl, rfl, -⟩
        refine T_app1 ?_
        refine T_val (Ev_extract rfl rfl) rfl ?_
        refine T_val (Ev_extract rfl rfl) rfl ?_
        refine T_val (Ev_assign rfl) rfl ?_
        refine T_val (Ev_assign rfl) rfl ?_
        refine T_nil ?_
        refine T_next ?_
        refine T_retc ?_
        obtain rfl := Option.some.inj hx19
        exact T_retP (rs := [.tmp 4, .tmp 5]) Try.results78 (.tmp rfl (.tmp rfl (.nil))) (Ln := [.r (A20) ((r17.1).length) (c21) 5 1 ((r17.1).flatMap e_u8)]) ⟨A20, c21, rfl, rfl, trivial⟩ (loCons rfl (loNil)) (by exact .pick 0 rfl (.refl))
  · skip
    refine T_reg ?_
    refine T_val (Ev_move rfl) rfl ?_
    refine T_val (Ev_lss rfl rfl) rfl ?_
    refine T_val (Ev_move rfl) rfl ?_
    refine T_caseP (s := 8) rfl (fun h1 => ?_) (fun h1 => ?_)
    · have hx2 := ite_t h1 hx
      refine T_skipG rfl rfl rfl rfl rfl ?_
      refine T_skipG rfl rfl rfl rfl rfl ?_
      refine T_val (Ev_pickT rfl rfl) rfl ?_
      refine T_nil ?_
      exact T_metP true () hx2 trivial (by exact .cons rfl (.cons rfl (.cons rfl (.nil)))) (by exact .refl)
    · have hx3 := ite_f h1 hx
      refine T_valG rfl rfl rfl (Ev_move rfl) rfl ?_
      refine T_valG rfl rfl rfl (Ev_gtr rfl rfl) rfl ?_
      refine T_val (Ev_pickF rfl rfl) rfl ?_
      refine T_nil ?_
      exact T_metP (decide (2305843009213693951 < p1)) () hx3 trivial (by exact .cons rfl (.cons rfl (.cons rfl (.nil)))) (by exact .refl)
set_option maxRecDepth 100000 in
theorem lidarref02_Checksum_ok (p0 : List Int) {K : List Ent} {A0_0 : Option Addr} {c0_0 : Nat} (ha0 : Has K A0_0 (p0).length c0_0 1 e_u8 (p0)) {r : Int} (hx : lidarref02_Checksum p0 = some r) (w : World) (hK : ∀ e ∈ K, Ent.ok w e) : CtL Try.prog 116 [.slice (A0_0) ((p0).length) (c0_0)] w fun v Ln => v = .int .u32 (r) ∧ Ln = [] ∧ True := by
  have ha0' := Has.up0 ha0
  refine CtL.mk 50 Try.func116 rfl Try.ntmps116 (by kernel_rfl) rfl ?_
  show T 50 _ [(0, .slice (A0_0) ((p0).length) (c0_0))] _
  unfold lidarref02_Checksum at hx
  refine T_seq ?_
  refine T_reg ?_
  refine T_val (Ev_assign rfl) rfl ?_
  refine T_nil ?_
  refine T_next ?_
  refine T_seq ?_
  refine T_reg ?_
  refine T_val (Ev_assign rfl) rfl ?_
  refine T_nil ?_
  refine T_next ?_
  obtain ⟨j3, hj3, hx⟩ := jn_some hx
  refine T_cutP (τ := Int) (γ := Unit) (J := j3) (out := r) (fun s3 y3 => [(3, .int .u32 (s3))]) (fun s3 y3 => [] ++ [.old w]) (fun s3 y3 => True) ?_ ?_
  · intro s3 y3 hx101 hG102
    subst hj3
    refine T_seq ?_
    refine T_reg ?_
    refine T_val (Ev_assign rfl) rfl ?_
    refine T_nil ?_
    refine T_next ?_
    obtain ⟨j44, hj44, hx101⟩ := jn_some hx101
    refine T_cutP (τ := Int) (γ := Unit) (J := j44) (out := r) (fun s44 y44 => [(8, .int .u32 (s44))]) (fun s44 y44 => [] ++ [.old w]) (fun s44 y44 => True) ?_ ?_
    · intro s44 y44 hx111 hG112
      subst hj44
      refine T_seq ?_
      refine T_reg ?_
      refine T_val (Ev_move rfl) rfl ?_
      refine T_val (Ev_xorW rfl) rfl ?_
      refine T_val (Ev_assign rfl) rfl ?_
      refine T_nil ?_
      refine T_next ?_
      refine T_retc ?_
      obtain rfl := Option.some.inj hx111
      exact T_retP (rs := [.tmp 2]) Try.results116 (.tmp rfl (.nil)) (Ln := []) ⟨rfl, rfl, trivial⟩ (loNil) (by exact .refl)
    · skip
      refine T_seq ?_
      refine T_reg ?_
      refine T_val (Ev_assign rfl) rfl ?_
      refine T_nil ?_
      refine T_next ?_
      refine T_block ?_
      obtain ⟨t107, hl107, ho107⟩ := bnd_some hx101
      refine T_loopP (σ := Int × Int × Int) (γ := Unit) hl107 (fun s107 y107 => [(3, .int .u32 (s107.1)), (8, .int .u32 (s107.2.1)), (9, .int .i64 (s107.2.2))]) (fun s107 y107 => [] ++ [.old w]) (fun s107 y107 => True) () trivial (by exact .cons rfl (.cons rfl (.cons rfl (.nil)))) (by exact .refl) ?_
      intro s107 y107 hG107 x107 hx107 ht107
      unfold lidarref02_Checksum_l16 at hx107
      refine T_seq ?_
      refine T_seq ?_
      refine T_reg ?_
      refine T_val (Ev_move rfl) rfl ?_
      refine T_val (Ev_lss rfl rfl) rfl ?_
      refine T_nil ?_
      refine T_next ?_
      refine T_caseP (s := 38) rfl (fun h108 => ?_) (fun h108 => ?_)
      · have hx109 := ite_t h108 hx107
        refine T_condT rfl ?_
        refine T_skip ?_
        refine T_next ?_
        refine T_seq ?_
        refine T_block ?_
        refine T_seq ?_
        refine T_reg ?_
        refine T_val (Ev_move rfl) rfl ?_
        refine T_val (Ev_shlW rfl rfl (by decide)) rfl ?_
        refine T_val (Ev_move rfl) rfl ?_
        refine T_val (Ev_bitW_and rfl rfl) rfl ?_
        refine T_val (Ev_bitW_or rfl rfl) rfl ?_
        refine T_val (Ev_assign rfl) rfl ?_
        refine T_nil ?_
        refine T_next ?_
        refine T_reg ?_
        refine T_val (Ev_move rfl) rfl ?_
        refine T_val (Ev_shrW rfl rfl (by decide)) rfl ?_
        refine T_val (Ev_assign rfl) rfl ?_
        refine T_nil ?_
        refine T_inN ?_
        refine T_next ?_
        refine T_reg ?_
        refine T_val (Ev_move rfl) rfl ?_
        refine T_val (Ev_add_w64 rfl rfl) rfl ?_
        refine T_val (Ev_assign rfl) rfl ?_
        refine T_nil ?_
        exact T_roundP (shr_ .u32 s107.1 1, bit_or .u32 (shl_ .u32 s107.2.1 1) (bit_and .u32 s107.1 1), w64 (s107.2.2 + 1)) () hx109 trivial (by exact .cons rfl (.cons rfl (.cons rfl (.nil)))) (by exact .refl)
      · have hx110 := ite_f h108 hx107
        refine T_condF rfl ?_
        refine T_exit ?_
        refine T_outX ?_
        obtain rfl := exit_eq ht107 hx110
        refine T_outX ?_
        refine T_here ?_
        exact T_metP s107.2.1 () ho107 trivial (by exact .cons rfl (.nil)) (by exact .refl)
  · skip
    refine T_seq ?_
    refine T_reg ?_
    refine T_val (Ev_move rfl) rfl ?_
    refine T_val (Ev_len rfl 5 Try.underlying73) rfl ?_
    refine T_val (Ev_move rfl) rfl ?_
    refine T_nil ?_
    refine T_next ?_
    refine T_block ?_
    obtain ⟨t51, hl51, ho51⟩ := bnd_some hx
    refine T_loopP (σ := Int × Int) (γ := Unit) hl51 (fun s51 y51 => [(0, .slice (A0_0) ((p0).length) (c0_0)), (3, .int .u32 (s51.1)), (11, .int .i64 ((((p0).length : Nat) : Int))), (12, .int .i64 (s51.2))]) (fun s51 y51 => [] ++ [.old w]) (fun s51 y51 => True) () trivial (by exact .cons rfl (.cons rfl (.cons rfl (.cons rfl (.nil))))) (by exact .refl) ?_
    intro s51 y51 hG51 x51 hx51 ht51
    unfold lidarref02_Checksum_l3 at hx51
    refine T_seq ?_
    refine T_reg ?_
    refine T_val (Ev_lss rfl rfl) rfl ?_
    refine T_nil ?_
    refine T_next ?_
    refine T_seq ?_
    refine T_caseP (s := 13) rfl (fun h52 => ?_) (fun h52 => ?_)
    · have hx53 := ite_t h52 hx51
      refine T_condT rfl ?_
      refine T_skip ?_
      refine T_next ?_
      obtain ⟨j26, hj26, hx53⟩ := jn_some hx53
      refine T_cutP (τ := Int) (γ := Unit) (J := j26) (out := x51) (fun s26 y26 => [(0, .slice (A0_0) ((p0).length) (c0_0)), (3, .int .u32 (s26)), (11, .int .i64 ((((p0).length : Nat) : Int))), (12, .int .i64 (s51.2))]) (fun s26 y26 => [] ++ [.old w]) (fun s26 y26 => True) ?_ ?_
      · intro s26 y26 hx99 hG100
        subst hj26
        refine T_reg ?_
        refine T_val (Ev_add_w64 rfl rfl) rfl ?_
        refine T_val (Ev_move rfl) rfl ?_
        refine T_nil ?_
        exact T_roundP (s26, w64 (s51.2 + 1)) () hx99 trivial (by exact .cons rfl (.cons rfl (.cons rfl (.cons rfl (.nil))))) (by exact .refl)
      · skip
        refine T_block ?_
        refine T_seq ?_
        refine T_reg ?_
        refine T_val (Ev_move rfl) rfl ?_
        refine T_val (Ev_assign rfl) rfl ?_
        refine T_nil ?_
        refine T_next ?_
        refine T_seq ?_
        refine T_reg ?_
        refine T_val (Ev_assign rfl) rfl ?_
        refine T_nil ?_
        refine T_next ?_
        refine T_block ?_
        obtain ⟨t77, hl77, ho77⟩ := bnd_some hx53
        refine T_loopP (σ := Int × Int) (γ := Unit) hl77 (fun s77 y77 => [(0, .slice (A0_0) ((p0).length) (c0_0)), (3, .int .u32 (s77.1)), (4, .int .i64 (s51.2)), (5, .int .i64 (s77.2)), (11, .int .i64 ((((p0).length : Nat) : Int))), (12, .int .i64 (s51.2))]) (fun s77 y77 => [] ++ [.old w]) (fun s77 y77 => True) () trivial (by exact .cons rfl (.cons rfl (.cons rfl (.cons rfl (.cons rfl (.cons rfl (.nil))))))) (by exact .refl) ?_
        intro s77 y77 hG77 x77 hx77 ht77
        unfold lidarref02_Checksum_l6 at hx77
        refine T_seq ?_
        refine T_seq ?_
        refine T_reg ?_
        refine T_val (Ev_move rfl) rfl ?_
        refine T_val (Ev_lss rfl rfl) rfl ?_
        refine T_nil ?_
        refine T_next ?_
        refine T_caseP (s := 16) rfl (fun h78 => ?_) (fun h78 => ?_)
        · have hx79 := ite_t h78 hx77
          refine T_condT rfl ?_
          refine T_skip ?_
          refine T_next ?_
          obtain ⟨j38, hj38, hx79⟩ := jn_some hx79
          refine T_cutP (τ := Int) (γ := Unit) (J := j38) (out := x77) (fun s38 y38 => [(0, .slice (A0_0) ((p0).length) (c0_0)), (3, .int .u32 (s38)), (4, .int .i64 (s51.2)), (5, .int .i64 (s77.2)), (11, .int .i64 ((((p0).length : Nat) : Int))), (12, .int .i64 (s51.2))]) (fun s38 y38 => [] ++ [.old w]) (fun s38 y38 => True) ?_ ?_
          · intro s38 y38 hx97 hG98
            subst hj38
            refine T_reg ?_
            refine T_val (Ev_move rfl) rfl ?_
            refine T_val (Ev_add_w64 rfl rfl) rfl ?_
            refine T_val (Ev_assign rfl) rfl ?_
            refine T_nil ?_
            exact T_roundP (s38, w64 (s77.2 + 1)) () hx97 trivial (by exact .cons rfl (.cons rfl (.cons rfl (.cons rfl (.cons rfl (.cons rfl (.nil))))))) (by exact .refl)
          · skip
            refine T_block ?_
            refine T_seq ?_
            refine T_reg ?_
            refine T_val (Ev_move rfl) rfl ?_
            refine T_val (Ev_move rfl) rfl ?_
            obtain ⟨x81, h82, hx83⟩ := bnd_some hx79
            have hw91 := Has.low (E := []) ha0' hK
            obtain ⟨b84, o85, j86, hA87, hj88, hl89, hp90⟩ := Has.at_idx hw91 h82
            refine T_val (Ev_index rfl rfl hA87 (j := j86) hj88 hl89 slc73) rfl ?_
            refine T_val (Ev_loadP0 rfl hp90 (SubE.cons2 (i := 0) rfl (SubE.nil)) rfl one5) rfl ?_
            refine T_val (Ev_move rfl) rfl ?_
            obtain ⟨h92, hx93⟩ := gd_some hx83
            refine T_val (Ev_shrW rfl rfl h92) rfl ?_
            refine T_val (Ev_conv_wu32 rfl (by kernel_rfl) Try.underlying105) rfl ?_
            refine T_val (Ev_bitW_and rfl rfl) rfl ?_
            refine T_val (Ev_assign rfl) rfl ?_
            refine T_nil ?_
            refine T_next ?_
            refine T_seq ?_
            refine T_reg ?_
            refine T_val (Ev_move rfl) rfl ?_
            refine T_val (Ev_shrW rfl rfl (by decide)) rfl ?_
            refine T_val (Ev_assign rfl) rfl ?_
            refine T_nil ?_
            refine T_next ?_
            refine T_seq ?_
            refine T_reg ?_
            refine T_val (Ev_move rfl) rfl ?_
            refine T_val (Ev_shlW rfl rfl (by decide)) rfl ?_
            refine T_val (Ev_assign rfl) rfl ?_
            refine T_nil ?_
            refine T_next ?_
            refine T_seq ?_
            refine T_reg ?_
            refine T_val (Ev_move rfl) rfl ?_
            refine T_val (Ev_move rfl) rfl ?_
            refine T_val (Ev_neq rfl rfl) rfl ?_
            refine T_nil ?_
            refine T_next ?_
            refine T_caseNP (s := 33) rfl (fun h94 => ?_) (fun h94 => ?_)
            · have hx95 := ite_f h94 hx93
              refine T_condT rfl ?_
              refine T_reg ?_
              refine T_val (Ev_move rfl) rfl ?_
              refine T_val (Ev_bitW_xor rfl rfl) rfl ?_
              refine T_val (Ev_assign rfl) rfl ?_
              refine T_nil ?_
              refine T_inN ?_
              exact T_metP (bit_xor .u32 (shl_ .u32 s77.1 1) 79764919) () hx95 trivial (by exact .cons rfl (.cons rfl (.cons rfl (.cons rfl (.cons rfl (.cons rfl (.nil))))))) (by exact .refl)
            · have hx96 := ite_t h94 hx93
              refine T_condF rfl ?_
              refine T_skip ?_
              refine T_inN ?_
              exact T_metP (shl_ .u32 s77.1 1) () hx96 trivial (by exact .cons rfl (.cons rfl (.cons rfl (.cons rfl (.cons rfl (.cons rfl (.nil))))))) (by exact .refl)
        · have hx80 := ite_f h78 hx77
          refine T_condF rfl ?_
          refine T_exit ?_
          refine T_outX ?_
          obtain rfl := exit_eq ht77 hx80
          refine T_outX ?_
          refine T_here ?_
          refine T_inN ?_
          exact T_metP s77.1 () ho77 trivial (by exact .cons rfl (.cons rfl (.cons rfl (.cons rfl (.nil))))) (by exact .refl)
    · have hx54 := ite_f h52 hx51
      refine T_condF rfl ?_
      refine T_exit ?_
      refine T_outX ?_
      obtain rfl := exit_eq ht51 hx54
      refine T_outX ?_
      refine T_here ?_
      exact T_metP s51.1 () ho51 trivial (by exact .cons rfl (.nil)) (by exact .refl)
set_option maxRecDepth 100000 in
theorem lidarref09_Sealed_ok (p0 : List Int) {K : List Ent} {A0_0 : Option Addr} {c0_0 : Nat} (ha0 : Has K A0_0 (p0).length c0_0 1 e_u8 (p0)) {r : List Int} (hx : lidarref09_Sealed p0 = some r) (w : World) (hK : ∀ e ∈ K, Ent.ok w e) : CtL Try.prog 80 [.slice (A0_0) ((p0).length) (c0_0)] w fun v Ln => ∃ (A0 : Option Addr) (c0 : Nat), v = .slice (A0) ((r).length) (c0) ∧ Ln = [.r A0 (r).length c0 5 1 ((r).flatMap e_u8)] ∧ True := by
  have ha0' := Has.up0 ha0
  refine CtL.mk 22 Try.func80 rfl Try.ntmps80 (by kernel_rfl) rfl ?_
  show T 22 _ [(0, .slice (A0_0) ((p0).length) (c0_0))] _
  unfold lidarref09_Sealed at hx
  refine T_seq ?_
  refine T_reg ?_
  refine T_val (Ev_assign rfl) rfl ?_
  refine T_nil ?_
  refine T_next ?_
  refine T_seq ?_
  refine T_reg ?_
  refine T_val (Ev_move rfl) rfl ?_
  obtain ⟨r1, h2, hx3⟩ := bnd_some hx
  refine T_x (Wx_callL rfl (fun w1 hw1 => lidarref02_Checksum_ok p0 (Has.len' ha0') h2 w1 (okApp (K := K) (K2 := []) hK (by exact (SubE.cons2 (i := 0) rfl (SubE.nil))) (by exact (SubE.nil)) hw1)) rfl ?_)
  rintro _ _ hlo ⟨rfl, rfl, -⟩
  refine T_app0 ?_
  refine T_val (Ev_assign rfl) rfl ?_
  refine T_nil ?_
  refine T_next ?_
  refine T_seq ?_
  refine T_reg ?_
  refine T_x (Wx_buildSlice rfl (bls73_0_) rfl (fun g4 => ?_))
  refine T_val (Ev_move rfl) rfl ?_
  refine T_mr (enc := e_u8) (sz := 1) (([] : List Int)) (.here) rfl rfl (fun _ => rfl) (by decide) ?_
  have hw5 := Has.low (E := []) ha0' hK
  obtain ⟨h6, hx7⟩ := gd_some hx3
  refine T_h (Wh_appendH e_u8 (([] : List Int)) (p0) rfl rfl elm73 (fun _ => rfl) hw5 (SubE.cons2 (i := 1) rfl (SubE.nil)) (fun _ => rfl) h6 rfl (fun _ _ => .here) (by decide) (fun A8 c9 => ?_))
  refine T_val (Ev_move rfl) rfl ?_
  refine T_val (Ev_shrW rfl rfl (by decide)) rfl ?_
  refine T_val (Ev_conv_wu8 rfl (by kernel_rfl) Try.underlying5) rfl ?_
  refine T_val (Ev_move rfl) rfl ?_
  refine T_val (Ev_shrW rfl rfl (by decide)) rfl ?_
  refine T_val (Ev_conv_wu8 rfl (by kernel_rfl) Try.underlying5) rfl ?_
  refine T_val (Ev_move rfl) rfl ?_
  refine T_val (Ev_shrW rfl rfl (by decide)) rfl ?_
  refine T_val (Ev_conv_wu8 rfl (by kernel_rfl) Try.underlying5) rfl ?_
  refine T_val (Ev_move rfl) rfl ?_
  refine T_val (Ev_conv_wu8 rfl (by kernel_rfl) Try.underlying5) rfl ?_
  refine T_x (Wx_buildSlice rfl (bls73_4_0u81u82u83u8 _ _ _ _) rfl (fun g10 => ?_))
  obtain ⟨h11, hx12⟩ := gd_some hx7
  refine T_h (Wh_appendP e_u8 ((([] : List Int)) ++ p0) [wu8 (shr_ .u32 r1 24), wu8 (shr_ .u32 r1 16), wu8 (shr_ .u32 r1 8), wu8 (r1)] rfl rfl rfl elm73 (fun _ => rfl) (i' := 0) rfl rfl rfl rfl h11 rfl (fun _ _ => .there (.here)) (fun _ _ => .drop .refl) (by decide) (fun A13 c14 => ?_))
  refine T_val (Ev_assign rfl) rfl ?_
  refine T_nil ?_
  refine T_next ?_
  refine T_retc ?_
  obtain rfl := Option.some.inj hx12
  exact T_retP (rs := [.tmp 2]) Try.results80 (.tmp rfl (.nil)) (Ln := [.r (A13) ((((([] : List Int)) ++ p0) ++ [wu8 (shr_ .u32 r1 24), wu8 (shr_ .u32 r1 16), wu8 (shr_ .u32 r1 8), wu8 (r1)]).length) (c14) 5 1 ((((([] : List Int)) ++ p0) ++ [wu8 (shr_ .u32 r1 24), wu8 (shr_ .u32 r1 16), wu8 (shr_ .u32 r1 8), wu8 (r1)]).flatMap e_u8)]) ⟨A13, c14, rfl, rfl, trivial⟩ (loCons rfl (loNil)) (by exact .pick 0 rfl (.refl))
set_option maxRecDepth 100000 in
theorem lidarref09_Encode_ok (p0 : S_api_Grid) {K : List Ent} {A0_0 : Option Addr} {c0_0 : Nat} (ha0 : Has K A0_0 (p0.Cells).length c0_0 3 e_api_Cell (p0.Cells)) {r : (List Int) × Int} (hx : lidarref09_Encode p0 = some r) (w : World) (hK : ∀ e ∈ K, Ent.ok w e) : CtL Try.prog 41 [.agg #[.int .i64 (p0.Raster.X0), .int .i64 (p0.Raster.Y0), .int .i64 (p0.Raster.Step), .int .i64 (p0.Raster.NX), .int .i64 (p0.Raster.NY), .slice (A0_0) ((p0.Cells).length) (c0_0)]] w fun v Ln => ∃ (A0 : Option Addr) (c0 : Nat), v = .tuple #[.slice (A0) ((r.1).length) (c0), .int .i64 (r.2)] ∧ Ln = [.r A0 (r.1).length c0 5 1 ((r.1).flatMap e_u8)] ∧ True := by
  have ha0' := Has.up0 ha0
  refine CtL.mk 122 Try.func41 rfl Try.ntmps41 (by kernel_rfl) rfl ?_
  show T 122 _ [(0, .agg #[.int .i64 (p0.Raster.X0), .int .i64 (p0.Raster.Y0), .int .i64 (p0.Raster.Step), .int .i64 (p0.Raster.NX), .int .i64 (p0.Raster.NY), .slice (A0_0) ((p0.Cells).length) (c0_0)])] _
  unfold lidarref09_Encode at hx
  refine T_seq ?_
  refine T_reg ?_
  refine T_x (Wx_box rfl rfl rfl (fun g1 => ?_))
  refine T_val (Ev_assign rfl) rfl ?_
  refine T_val (Ev_assign rfl) rfl ?_
  refine T_nil ?_
  refine T_next ?_
  refine T_seq ?_
  refine T_seq ?_
  refine T_reg ?_
  refine T_val (Ev_loadK rfl (i := 0) rfl rfl agg26) rfl ?_
  obtain ⟨r2, h3, hx4⟩ := bnd_some hx
  refine T_x (Wx_callL rfl (fun w1 hw1 => lidarref09_Valid_ok p0 (Has.len' ha0') h3 w1 (okApp (K := K) (K2 := []) hK (by exact (SubE.cons2 (i := 1) rfl (SubE.nil))) (by exact (SubE.nil)) hw1)) rfl ?_)
  rintro _ _ hlo ⟨rfl, rfl, -⟩
  refine T_app0 ?_
  refine T_val (Ev_not rfl) rfl ?_
  refine T_nil ?_
  refine T_next ?_
  refine T_caseNB (s := 13) rfl (fun h5 => ?_) (fun h5 => ?_)
  · have hx6 := ite_bf h5 hx4
    refine T_condT rfl ?_
    refine T_seq ?_
    refine T_reg ?_
    refine T_val (Ev_assign rfl) rfl ?_
    refine T_val (Ev_assign rfl) rfl ?_
    refine T_nil ?_
    refine T_next ?_
    refine T_retc ?_
    refine T_outR ?_
    refine T_none 5 1 ?_
    obtain rfl := Option.some.inj hx6
    exact T_retP (rs := [.tmp 2, .tmp 3]) Try.results41 (.tmp rfl (.tmp rfl (.nil))) (Ln := [.r (none) (0) (0) 5 1 ((([] : List Int)).flatMap e_u8)]) ⟨none, 0, rfl, rfl, trivial⟩ (loCons rfl (loNil)) (by exact .pick 0 rfl (.drop 0 rfl (.refl)))
  · have hx7 := ite_t h5 hx4
    refine T_condF rfl ?_
    refine T_skip ?_
    refine T_next ?_
    refine T_seq ?_
    refine T_reg ?_
    refine T_val (Ev_field rfl fld26_0 rfl) rfl ?_
    refine T_val (Ev_loadK rfl (i := 0) rfl rfl agg23) rfl ?_
    refine T_x (Wx_alloc zer23 rfl (fun g8 => ?_))
    refine T_h (Wh_store rfl rfl rfl (.here) (.put (.put (.put (.put (.put (.done)))))) rfl (List.cons_ne_nil _ _) agg23.2 ?_)
    refine T_nil ?_
    refine T_next ?_
    refine T_seq ?_
    refine T_reg ?_
    refine T_val (Ev_field rfl fld23_0 rfl) rfl ?_
    refine T_val (Ev_load1 rfl (i := 0) rfl rfl one3) rfl ?_
    obtain ⟨r9, h10, hx11⟩ := bnd_some hx7
    refine T_x (Wx_callL rfl (fun w1 hw1 => lidarref02_Signed_ok ([] : List Int) p0.Raster.X0 (Has.nil (K := ([] : List Ent))) h10 w1 (okAll (K := ([] : List Ent)) (by exact (SubE.nil)) hw1)) rfl ?_)
    rintro _ _ hlo ⟨A12, c13, rfl, rfl, -⟩
    refine T_app1 ?_
    refine T_val (Ev_move rfl) rfl ?_
    refine T_val (Ev_extract rfl rfl) rfl ?_
    refine T_val (Ev_extract rfl rfl) rfl ?_
    refine T_val (Ev_assign rfl) rfl ?_
    refine T_val (Ev_assign rfl) rfl ?_
    refine T_nil ?_
    refine T_next ?_
    refine T_seq ?_
    refine T_reg ?_
    refine T_val (Ev_move rfl) rfl ?_
    refine T_val (Ev_field rfl fld23_1 rfl) rfl ?_
    refine T_val (Ev_load1 rfl (i := 1) rfl rfl one3) rfl ?_
    refine T_rowP (k := 0) rfl (by decide) (fun _ => rfl) (fun hn14 hs15 => ?_)
    obtain ⟨r16, h17, hx18⟩ := bnd_some hx11
    refine T_x (Wx_callL rfl (fun w1 hw1 => lidarref02_Signed_ok r9.1 p0.Raster.Y0 (Has.len' hs15) h17 w1 (okAll (K := ([.r (A12) ((r9.1).length) (c13) 5 1 ((r9.1).flatMap e_u8)] : List Ent)) (by exact (SubE.cons2 (i := 0) rfl (SubE.nil))) hw1)) rfl ?_)
    rintro _ _ hlo ⟨A19, c20, rfl, rfl, -⟩
    refine T_app1 ?_
    refine T_val (Ev_move rfl) rfl ?_
    refine T_val (Ev_extract rfl rfl) rfl ?_
    refine T_val (Ev_extract rfl rfl) rfl ?_
    refine T_val (Ev_assign rfl) rfl ?_
    refine T_nil ?_
    refine T_next ?_
    refine T_seq ?_
    refine T_reg ?_
    refine T_val (Ev_move rfl) rfl ?_
    refine T_val (Ev_field rfl fld23_2 rfl) rfl ?_
    refine T_val (Ev_load1 rfl (i := 2) rfl rfl one3) rfl ?_
    refine T_rowP (k := 0) rfl (by decide) (fun _ => rfl) (fun hn21 hs22 => ?_)
    obtain ⟨r23, h24, hx25⟩ := bnd_some hx18
    refine T_x (Wx_callL rfl (fun w1 hw1 => lidarref02_Number_ok r16.1 p0.Raster.Step (Has.len' hs22) h24 w1 (okAll (K := ([.r (A19) ((r16.1).length) (c20) 5 1 ((r16.1).flatMap e_u8)] : List Ent)) (by exact (SubE.cons2 (i := 0) rfl (SubE.nil))) hw1)) rfl ?_)
    rintro _ _ hlo ⟨A26, c27, rfl, rfl, -⟩
    refine T_app1 ?_
    refine T_val (Ev_move rfl) rfl ?_
    refine T_val (Ev_extract rfl rfl) rfl ?_
    refine T_val (Ev_extract rfl rfl) rfl ?_
    refine T_val (Ev_assign rfl) rfl ?_
    refine T_nil ?_
    refine T_next ?_
    refine T_seq ?_
    refine T_reg ?_
    refine T_val (Ev_move rfl) rfl ?_
    refine T_val (Ev_field rfl fld23_3 rfl) rfl ?_
    refine T_val (Ev_load1 rfl (i := 3) rfl rfl one3) rfl ?_
    refine T_rowP (k := 0) rfl (by decide) (fun _ => rfl) (fun hn28 hs29 => ?_)
    obtain ⟨r30, h31, hx32⟩ := bnd_some hx25
    refine T_x (Wx_callL rfl (fun w1 hw1 => lidarref02_Number_ok r23.1 p0.Raster.NX (Has.len' hs29) h31 w1 (okAll (K := ([.r (A26) ((r23.1).length) (c27) 5 1 ((r23.1).flatMap e_u8)] : List Ent)) (by exact (SubE.cons2 (i := 0) rfl (SubE.nil))) hw1)) rfl ?_)
    rintro _ _ hlo ⟨A33, c34, rfl, rfl, -⟩
    refine T_app1 ?_
    refine T_val (Ev_move rfl) rfl ?_
    refine T_val (Ev_extract rfl rfl) rfl ?_
    refine T_val (Ev_extract rfl rfl) rfl ?_
    refine T_val (Ev_assign rfl) rfl ?_
    refine T_nil ?_
    refine T_next ?_
    refine T_seq ?_
    refine T_reg ?_
    refine T_val (Ev_move rfl) rfl ?_
    refine T_val (Ev_field rfl fld23_4 rfl) rfl ?_
    refine T_val (Ev_load1 rfl (i := 4) rfl rfl one3) rfl ?_
    refine T_rowP (k := 0) rfl (by decide) (fun _ => rfl) (fun hn35 hs36 => ?_)
    obtain ⟨r37, h38, hx39⟩ := bnd_some hx32
    refine T_x (Wx_callL rfl (fun w1 hw1 => lidarref02_Number_ok r30.1 p0.Raster.NY (Has.len' hs36) h38 w1 (okAll (K := ([.r (A33) ((r30.1).length) (c34) 5 1 ((r30.1).flatMap e_u8)] : List Ent)) (by exact (SubE.cons2 (i := 0) rfl (SubE.nil))) hw1)) rfl ?_)
    rintro _ _ hlo ⟨A40, c41, rfl, rfl, -⟩
    refine T_app1 ?_
    refine T_val (Ev_move rfl) rfl ?_
    refine T_val (Ev_extract rfl rfl) rfl ?_
    refine T_val (Ev_extract rfl rfl) rfl ?_
    refine T_val (Ev_assign rfl) rfl ?_
    refine T_nil ?_
    refine T_next ?_
    refine T_seq ?_
    refine T_reg ?_
    refine T_val (Ev_assign rfl) rfl ?_
    refine T_nil ?_
    refine T_next ?_
    obtain ⟨j12, hj12, hx39⟩ := jn_some hx39
    refine T_cutP (τ := List Int) (γ := (Option Addr) × Nat) (J := j12) (out := r) (fun s12 y12 => [(5, .slice (y12.1) ((s12).length) (y12.2))]) (fun s12 y12 => [.r (y12.1) ((s12).length) (y12.2) 5 1 ((s12).flatMap e_u8)] ++ [.old w]) (fun s12 y12 => True) ?_ ?_
    · intro s12 y12 hx220 hG221
      subst hj12
      refine T_seq ?_
      refine T_reg ?_
      refine T_val (Ev_move rfl) rfl ?_
      refine T_rowP (k := 0) rfl (by decide) (fun _ => rfl) (fun hn222 hs223 => ?_)
      obtain ⟨r224, h225, hx226⟩ := bnd_some hx220
      refine T_x (Wx_callL rfl (fun w1 hw1 => lidarref09_Sealed_ok s12 (Has.len' hs223) h225 w1 (okAll (K := ([.r (y12.1) ((s12).length) (y12.2) 5 1 ((s12).flatMap e_u8)] : List Ent)) (by exact (SubE.cons2 (i := 0) rfl (SubE.nil))) hw1)) rfl ?_)
      rintro _ _ hlo ⟨A227, c228, rfl, rfl, -⟩
      refine T_app1 ?_
      refine T_val (Ev_assign rfl) rfl ?_
      refine T_val (Ev_assign rfl) rfl ?_
      refine T_nil ?_
      refine T_next ?_
      refine T_retc ?_
      obtain rfl := Option.some.inj hx226
      exact T_retP (rs := [.tmp 2, .tmp 3]) Try.results41 (.tmp rfl (.tmp rfl (.nil))) (Ln := [.r (A227) ((r224).length) (c228) 5 1 ((r224).flatMap e_u8)]) ⟨A227, c228, rfl, rfl, trivial⟩ (loCons rfl (loNil)) (by exact .pick 0 rfl (.drop 0 rfl (.refl)))
    · skip
      refine T_seq ?_
      refine T_reg ?_
      refine T_val (Ev_assign rfl) rfl ?_
      refine T_nil ?_
      refine T_next ?_
      refine T_block ?_
      obtain ⟨t131, hl131, ho131⟩ := bnd_some hx39
      refine T_loopP (σ := (List Int) × Int × Int) (γ := (Option Addr) × Nat) hl131 (fun s131 y131 => [(1, .pointer (some ⟨g1, 0, none⟩)), (5, .slice (y131.1) ((s131.1).length) (y131.2)), (7, .int .i64 (s131.2.1)), (8, .int .i64 (s131.2.2))]) (fun s131 y131 => [.r (y131.1) ((s131.1).length) (y131.2) 5 1 ((s131.1).flatMap e_u8), .m g1 26 [.int .i64 (p0.Raster.X0), .int .i64 (p0.Raster.Y0), .int .i64 (p0.Raster.Step), .int .i64 (p0.Raster.NX), .int .i64 (p0.Raster.NY), .slice (A0_0) ((p0.Cells).length) (c0_0)]] ++ [.old w]) (fun s131 y131 => True) (A40, c41) trivial (by exact .cons rfl (.cons rfl (.cons rfl (.cons rfl (.nil))))) (by exact .pick 0 rfl (.pick 5 rfl (.drop 0 rfl (.drop 0 rfl (.drop 0 rfl (.drop 0 rfl (.drop 0 rfl (.refl)))))))) ?_
      intro s131 y131 hG131 x131 hx131 ht131
      unfold lidarref09_Encode_l11 at hx131
      refine T_seq ?_
      refine T_seq ?_
      refine T_reg ?_
      refine T_val (Ev_move rfl) rfl ?_
      refine T_val (Ev_field rfl fld26_1 rfl) rfl ?_
      refine T_val (Ev_load1 rfl (i := 1) rfl rfl one24) rfl ?_
      refine T_val (Ev_len rfl 41 Try.underlying24) rfl ?_
      refine T_val (Ev_lss rfl rfl) rfl ?_
      refine T_nil ?_
      refine T_next ?_
      refine T_caseP (s := 54) rfl (fun h132 => ?_) (fun h132 => ?_)
      · have hx133 := ite_t h132 hx131
        refine T_condT rfl ?_
        refine T_skip ?_
        refine T_next ?_
        refine T_block ?_
        refine T_seq ?_
        refine T_reg ?_
        refine T_val (Ev_assign rfl) rfl ?_
        refine T_nil ?_
        refine T_next ?_
        obtain ⟨j34, hj34, hx133⟩ := jn_some hx133
        refine T_cutP (τ := Int) (γ := Unit) (J := j34) (out := x131) (fun s34 y34 => [(1, .pointer (some ⟨g1, 0, none⟩)), (5, .slice (y131.1) ((s131.1).length) (y131.2)), (7, .int .i64 (s131.2.1)), (8, .int .i64 (s131.2.2)), (9, .int .i64 (s34))]) (fun s34 y34 => [.r (y131.1) ((s131.1).length) (y131.2) 5 1 ((s131.1).flatMap e_u8), .m g1 26 [.int .i64 (p0.Raster.X0), .int .i64 (p0.Raster.Y0), .int .i64 (p0.Raster.Step), .int .i64 (p0.Raster.NX), .int .i64 (p0.Raster.NY), .slice (A0_0) ((p0.Cells).length) (c0_0)]] ++ [.old w]) (fun s34 y34 => True) ?_ ?_
        · intro s34 y34 hx175 hG176
          subst hj34
          refine T_seq ?_
          refine T_seq ?_
          refine T_reg ?_
          refine T_val (Ev_move rfl) rfl ?_
          refine T_val (Ev_gtr rfl rfl) rfl ?_
          refine T_nil ?_
          refine T_next ?_
          refine T_caseP (s := 75) rfl (fun h177 => ?_) (fun h177 => ?_)
          · have hx178 := ite_t h177 hx175
            refine T_condT rfl ?_
            refine T_seq ?_
            refine T_reg ?_
            refine T_val (Ev_move rfl) rfl ?_
            refine T_rowP (k := 0) rfl (by decide) (fun _ => rfl) (fun hn179 hs180 => ?_)
            obtain ⟨r181, h182, hx183⟩ := bnd_some hx178
            refine T_x (Wx_callL rfl (fun w1 hw1 => lidarref02_Number_ok s131.1 0 (Has.len' hs180) h182 w1 (okAll (K := ([.r (y131.1) ((s131.1).length) (y131.2) 5 1 ((s131.1).flatMap e_u8)] : List Ent)) (by exact (SubE.cons2 (i := 0) rfl (SubE.nil))) hw1)) rfl ?_)
            rintro _ _ hlo ⟨A184, c185, rfl, rfl, -⟩
            refine T_app1 ?_
            refine T_val (Ev_move rfl) rfl ?_
            refine T_val (Ev_extract rfl rfl) rfl ?_
            refine T_val (Ev_extract rfl rfl) rfl ?_
            refine T_val (Ev_assign rfl) rfl ?_
            refine T_nil ?_
            refine T_next ?_
            refine T_seq ?_
            refine T_reg ?_
            refine T_val (Ev_move rfl) rfl ?_
            refine T_val (Ev_move rfl) rfl ?_
            refine T_rowP (k := 0) rfl (by decide) (fun _ => rfl) (fun hn186 hs187 => ?_)
            obtain ⟨r188, h189, hx190⟩ := bnd_some hx183
            refine T_x (Wx_callL rfl (fun w1 hw1 => lidarref02_Number_ok r181.1 s34 (Has.len' hs187) h189 w1 (okAll (K := ([.r (A184) ((r181.1).length) (c185) 5 1 ((r181.1).flatMap e_u8)] : List Ent)) (by exact (SubE.cons2 (i := 0) rfl (SubE.nil))) hw1)) rfl ?_)
            rintro _ _ hlo ⟨A191, c192, rfl, rfl, -⟩
            refine T_app1 ?_
            refine T_val (Ev_move rfl) rfl ?_
            refine T_val (Ev_extract rfl rfl) rfl ?_
            refine T_val (Ev_extract rfl rfl) rfl ?_
            refine T_val (Ev_assign rfl) rfl ?_
            refine T_nil ?_
            refine T_next ?_
            refine T_seq ?_
            refine T_reg ?_
            refine T_val (Ev_move rfl) rfl ?_
            refine T_val (Ev_move rfl) rfl ?_
            refine T_val (Ev_add_w64 rfl rfl) rfl ?_
            refine T_val (Ev_assign rfl) rfl ?_
            refine T_nil ?_
            refine T_next ?_
            refine T_exit ?_
            refine T_outX ?_
            refine T_here ?_
            exact T_roundP (r188.1, s131.2.1, w64 (s131.2.2 + s34)) (A191, c192) hx190 trivial (by exact .cons rfl (.cons rfl (.cons rfl (.cons rfl (.nil))))) (by exact .pick 0 rfl (.pick 2 rfl (.drop 0 rfl (.drop 0 rfl (.refl)))))
          · have hx193 := ite_f h177 hx175
            refine T_condF rfl ?_
            refine T_skip ?_
            refine T_next ?_
            refine T_seq ?_
            refine T_reg ?_
            refine T_val (Ev_field rfl fld26_1 rfl) rfl ?_
            refine T_val (Ev_load1 rfl (i := 1) rfl rfl one24) rfl ?_
            refine T_val (Ev_move rfl) rfl ?_
            obtain ⟨x194, h195, hx196⟩ := bnd_some hx193
            have hw204 := Has.low (E := []) ha0' hK
            obtain ⟨b197, o198, j199, hA200, hj201, hl202, hp203⟩ := Has.at_idx hw204 h195
            refine T_val (Ev_index rfl rfl hA200 (j := j199) hj201 hl202 slc24) rfl ?_
            refine T_val (Ev_field rfl fld41_1 rfl) rfl ?_
            refine T_val (Ev_loadPK (d := 1) rfl hp203 (SubE.cons2 (i := 2) rfl (SubE.nil)) rfl agg39) rfl ?_
            refine T_x (Wx_alloc zer39 rfl (fun g205 => ?_))
            refine T_h (Wh_store rfl rfl rfl (.here) (.put (.put (.done))) rfl (List.cons_ne_nil _ _) agg39.2 ?_)
            refine T_nil ?_
            refine T_next ?_
            refine T_seq ?_
            refine T_reg ?_
            refine T_val (Ev_move rfl) rfl ?_
            refine T_val (Ev_field rfl fld39_1 rfl) rfl ?_
            refine T_val (Ev_load1 rfl (i := 0) rfl rfl one3) rfl ?_
            refine T_val (Ev_add_w64 rfl rfl) rfl ?_
            refine T_val (Ev_field rfl fld39_0 rfl) rfl ?_
            refine T_val (Ev_load1 rfl (i := 0) rfl rfl one3) rfl ?_
            refine T_val (Ev_sub_w64 rfl rfl) rfl ?_
            refine T_rowP (k := 1) rfl (by decide) (fun _ => rfl) (fun hn206 hs207 => ?_)
            obtain ⟨r208, h209, hx210⟩ := bnd_some hx196
            refine T_x (Wx_callL rfl (fun w1 hw1 => lidarref02_Number_ok s131.1 (w64 ((w64 (1 + x194.Z.Hi)) - x194.Z.Lo)) (Has.len' hs207) h209 w1 (okAll (K := ([.r (y131.1) ((s131.1).length) (y131.2) 5 1 ((s131.1).flatMap e_u8)] : List Ent)) (by exact (SubE.cons2 (i := 1) rfl (SubE.nil))) hw1)) rfl ?_)
            rintro _ _ hlo ⟨A211, c212, rfl, rfl, -⟩
            refine T_app1 ?_
            refine T_val (Ev_move rfl) rfl ?_
            refine T_val (Ev_extract rfl rfl) rfl ?_
            refine T_val (Ev_extract rfl rfl) rfl ?_
            refine T_val (Ev_assign rfl) rfl ?_
            refine T_nil ?_
            refine T_next ?_
            refine T_seq ?_
            refine T_reg ?_
            refine T_val (Ev_move rfl) rfl ?_
            refine T_val (Ev_field rfl fld39_0 rfl) rfl ?_
            refine T_val (Ev_load1 rfl (i := 1) rfl rfl one3) rfl ?_
            refine T_val (Ev_move rfl) rfl ?_
            refine T_val (Ev_sub_w64 rfl rfl) rfl ?_
            refine T_rowP (k := 0) rfl (by decide) (fun _ => rfl) (fun hn213 hs214 => ?_)
            obtain ⟨r215, h216, hx217⟩ := bnd_some hx210
            refine T_x (Wx_callL rfl (fun w1 hw1 => lidarref02_Signed_ok r208.1 (w64 (x194.Z.Lo - s131.2.1)) (Has.len' hs214) h216 w1 (okAll (K := ([.r (A211) ((r208.1).length) (c212) 5 1 ((r208.1).flatMap e_u8)] : List Ent)) (by exact (SubE.cons2 (i := 0) rfl (SubE.nil))) hw1)) rfl ?_)
            rintro _ _ hlo ⟨A218, c219, rfl, rfl, -⟩
            refine T_app1 ?_
            refine T_val (Ev_move rfl) rfl ?_
            refine T_val (Ev_extract rfl rfl) rfl ?_
            refine T_val (Ev_extract rfl rfl) rfl ?_
            refine T_val (Ev_assign rfl) rfl ?_
            refine T_nil ?_
            refine T_next ?_
            refine T_seq ?_
            refine T_reg ?_
            refine T_val (Ev_field rfl fld39_0 rfl) rfl ?_
            refine T_val (Ev_load1 rfl (i := 2) rfl rfl one3) rfl ?_
            refine T_val (Ev_assign rfl) rfl ?_
            refine T_nil ?_
            refine T_next ?_
            refine T_reg ?_
            refine T_val (Ev_move rfl) rfl ?_
            refine T_val (Ev_add_w64 rfl rfl) rfl ?_
            refine T_val (Ev_assign rfl) rfl ?_
            refine T_nil ?_
            refine T_inN ?_
            exact T_roundP (r215.1, x194.Z.Lo, w64 (s131.2.2 + 1)) (A218, c219) hx217 trivial (by exact .cons rfl (.cons rfl (.cons rfl (.cons rfl (.nil))))) (by exact .pick 0 rfl (.pick 3 rfl (.drop 0 rfl (.drop 0 rfl (.drop 0 rfl (.refl))))))
        · skip
          refine T_block ?_
          obtain ⟨t155, hl155, ho155⟩ := bnd_some hx133
          refine T_loopP (σ := Int) (γ := Unit) hl155 (fun s155 y155 => [(1, .pointer (some ⟨g1, 0, none⟩)), (5, .slice (y131.1) ((s131.1).length) (y131.2)), (7, .int .i64 (s131.2.1)), (8, .int .i64 (s131.2.2)), (9, .int .i64 (s155))]) (fun s155 y155 => [.r (y131.1) ((s131.1).length) (y131.2) 5 1 ((s131.1).flatMap e_u8), .m g1 26 [.int .i64 (p0.Raster.X0), .int .i64 (p0.Raster.Y0), .int .i64 (p0.Raster.Step), .int .i64 (p0.Raster.NX), .int .i64 (p0.Raster.NY), .slice (A0_0) ((p0.Cells).length) (c0_0)]] ++ [.old w]) (fun s155 y155 => True) () trivial (by exact .cons rfl (.cons rfl (.cons rfl (.cons rfl (.cons rfl (.nil)))))) (by exact .pick 0 rfl (.pick 0 rfl (.refl))) ?_
          intro s155 y155 hG155 x155 hx155 ht155
          unfold lidarref09_Encode_l13 at hx155
          refine T_seq ?_
          obtain ⟨j38, hj38, hx155⟩ := jn_some hx155
          refine T_cutP (τ := Bool) (γ := Unit) (J := j38) (out := x155) (fun s38 y38 => [(1, .pointer (some ⟨g1, 0, none⟩)), (5, .slice (y131.1) ((s131.1).length) (y131.2)), (7, .int .i64 (s131.2.1)), (8, .int .i64 (s131.2.2)), (9, .int .i64 (s155)), (71, .bool (s38))]) (fun s38 y38 => [.r (y131.1) ((s131.1).length) (y131.2) 5 1 ((s131.1).flatMap e_u8), .m g1 26 [.int .i64 (p0.Raster.X0), .int .i64 (p0.Raster.Y0), .int .i64 (p0.Raster.Step), .int .i64 (p0.Raster.NX), .int .i64 (p0.Raster.NY), .slice (A0_0) ((p0.Cells).length) (c0_0)]] ++ [.old w]) (fun s38 y38 => True) ?_ ?_
          · intro s38 y38 hx170 hG171
            subst hj38
            refine T_caseB (s := 71) rfl (fun h172 => ?_) (fun h172 => ?_)
            · have hx173 := ite_t h172 hx170
              refine T_condT rfl ?_
              refine T_skip ?_
              refine T_next ?_
              refine T_block ?_
              refine T_reg ?_
              refine T_val (Ev_move rfl) rfl ?_
              refine T_val (Ev_add_w64 rfl rfl) rfl ?_
              refine T_val (Ev_assign rfl) rfl ?_
              refine T_nil ?_
              refine T_inN ?_
              exact T_roundP (w64 (s155 + 1)) () hx173 trivial (by exact .cons rfl (.cons rfl (.cons rfl (.cons rfl (.cons rfl (.nil)))))) (by exact .pick 0 rfl (.pick 0 rfl (.refl)))
            · have hx174 := ite_bf h172 hx170
              refine T_condF rfl ?_
              refine T_exit ?_
              refine T_outX ?_
              obtain rfl := exit_eq ht155 hx174
              refine T_outX ?_
              refine T_here ?_
              exact T_metP s155 () ho155 trivial (by exact .cons rfl (.cons rfl (.cons rfl (.cons rfl (.cons rfl (.nil)))))) (by exact .pick 0 rfl (.pick 0 rfl (.refl)))
          · skip
            refine T_reg ?_
            refine T_val (Ev_move rfl) rfl ?_
            refine T_val (Ev_move rfl) rfl ?_
            refine T_val (Ev_add_w64 rfl rfl) rfl ?_
            refine T_val (Ev_field rfl fld26_1 rfl) rfl ?_
            refine T_val (Ev_load1 rfl (i := 1) rfl rfl one24) rfl ?_
            refine T_val (Ev_len rfl 41 Try.underlying24) rfl ?_
            refine T_val (Ev_lss rfl rfl) rfl ?_
            refine T_val (Ev_move rfl) rfl ?_
            refine T_caseP (s := 62) rfl (fun h156 => ?_) (fun h156 => ?_)
            · have hx157 := ite_t h156 hx155
              refine T_valG rfl rfl rfl (Ev_field rfl fld26_1 rfl) rfl ?_
              refine T_valG rfl rfl rfl (Ev_load1 rfl (i := 1) rfl rfl one24) rfl ?_
              refine T_valG rfl rfl rfl (Ev_move rfl) rfl ?_
              refine T_valG rfl rfl rfl (Ev_move rfl) rfl ?_
              refine T_valG rfl rfl rfl (Ev_add_w64 rfl rfl) rfl ?_
              obtain ⟨x158, h159, hx160⟩ := bnd_some hx157
              have hw168 := Has.low (E := []) ha0' hK
              obtain ⟨b161, o162, j163, hA164, hj165, hl166, hp167⟩ := Has.at_idx hw168 h159
              refine T_valG rfl rfl rfl (Ev_index rfl rfl hA164 (j := j163) hj165 hl166 slc24) rfl ?_
              refine T_valG rfl rfl rfl (Ev_field rfl fld41_0 rfl) rfl ?_
              refine T_valG rfl rfl rfl (Ev_loadP1 (d := 0) rfl hp167 (SubE.cons2 (i := 2) rfl (SubE.nil)) rfl one4) rfl ?_
              refine T_val (Ev_pickT rfl rfl) rfl ?_
              refine T_nil ?_
              exact T_metP x158.Void () hx160 trivial (by exact .cons rfl (.cons rfl (.cons rfl (.cons rfl (.cons rfl (.cons rfl (.nil))))))) (by exact .pick 0 rfl (.pick 0 rfl (.refl)))
            · have hx169 := ite_f h156 hx155
              refine T_skipG rfl rfl rfl rfl rfl ?_
              refine T_skipG rfl rfl rfl rfl rfl ?_
              refine T_skipG rfl rfl rfl rfl rfl ?_
              refine T_skipG rfl rfl rfl rfl rfl ?_
              refine T_skipG rfl rfl rfl rfl rfl ?_
              refine T_skipG rfl rfl rfl rfl rfl ?_
              refine T_skipG rfl rfl rfl rfl rfl ?_
              refine T_skipG rfl rfl rfl rfl rfl ?_
              refine T_val (Ev_pickF rfl rfl) rfl ?_
              refine T_nil ?_
              exact T_metP false () hx169 trivial (by exact .cons rfl (.cons rfl (.cons rfl (.cons rfl (.cons rfl (.cons rfl (.nil))))))) (by exact .pick 0 rfl (.pick 0 rfl (.refl)))
      · have hx134 := ite_f h132 hx131
        refine T_condF rfl ?_
        refine T_exit ?_
        refine T_outX ?_
        obtain rfl := exit_eq ht131 hx134
        refine T_outX ?_
        refine T_here ?_
        exact T_metP s131.1 (y131.1, y131.2) ho131 trivial (by exact .cons rfl (.nil)) (by exact .pick 0 rfl (.drop 0 rfl (.refl)))
set_option maxRecDepth 100000 in
theorem lidarlaw09_sameBytes_ok (p0 : List Int) (p1 : List Int) {K : List Ent} {A0_0 : Option Addr} {c0_0 : Nat} {A0_1 : Option Addr} {c0_1 : Nat} (ha0 : Has K A0_0 (p0).length c0_0 1 e_u8 (p0)) (ha1 : Has K A0_1 (p1).length c0_1 1 e_u8 (p1)) {r : Bool} (hx : lidarlaw09_sameBytes p0 p1 = some r) (w : World) (hK : ∀ e ∈ K, Ent.ok w e) : CtL Try.prog 42 [.slice (A0_0) ((p0).length) (c0_0), .slice (A0_1) ((p1).length) (c0_1)] w fun v Ln => v = .bool (r) ∧ Ln = [] ∧ True := by
  have ha0' := Has.up0 ha0
  have ha1' := Has.up0 ha1
  refine CtL.mk 26 Try.func42 rfl Try.ntmps42 (by kernel_rfl) rfl ?_
  show T 26 _ [(0, .slice (A0_0) ((p0).length) (c0_0)), (1, .slice (A0_1) ((p1).length) (c0_1))] _
  unfold lidarlaw09_sameBytes at hx
  refine T_seq ?_
  refine T_reg ?_
  refine T_val (Ev_assign rfl) rfl ?_
  refine T_nil ?_
  refine T_next ?_
  refine T_seq ?_
  refine T_seq ?_
  refine T_reg ?_
  refine T_val (Ev_move rfl) rfl ?_
  refine T_val (Ev_len rfl 5 Try.underlying73) rfl ?_
  refine T_val (Ev_move rfl) rfl ?_
  refine T_val (Ev_len rfl 5 Try.underlying73) rfl ?_
  refine T_val (Ev_neq rfl rfl) rfl ?_
  refine T_nil ?_
  refine T_next ?_
  refine T_caseNP (s := 10) rfl (fun h1 => ?_) (fun h1 => ?_)
  · have hx2 := ite_f h1 hx
    refine T_condT rfl ?_
    refine T_seq ?_
    refine T_reg ?_
    refine T_val (Ev_assign rfl) rfl ?_
    refine T_nil ?_
    refine T_next ?_
    refine T_retc ?_
    refine T_outR ?_
    obtain rfl := Option.some.inj hx2
    exact T_retP (rs := [.tmp 4]) Try.results42 (.tmp rfl (.nil)) (Ln := []) ⟨rfl, rfl, trivial⟩ (loNil) (by exact .refl)
  · have hx3 := ite_t h1 hx
    refine T_condF rfl ?_
    refine T_skip ?_
    refine T_next ?_
    obtain ⟨j5, hj5, hx3⟩ := jn_some hx3
    refine T_cutP (τ := Unit) (γ := Unit) (J := j5) (out := r) (fun s5 y5 => []) (fun s5 y5 => [] ++ [.old w]) (fun s5 y5 => True) ?_ ?_
    · intro s5 y5 hx62 hG63
      subst hj5
      refine T_seq ?_
      refine T_reg ?_
      refine T_val (Ev_assign rfl) rfl ?_
      refine T_nil ?_
      refine T_next ?_
      refine T_retc ?_
      obtain rfl := Option.some.inj hx62
      exact T_retP (rs := [.tmp 4]) Try.results42 (.tmp rfl (.nil)) (Ln := []) ⟨rfl, rfl, trivial⟩ (loNil) (by exact .refl)
    · skip
      refine T_seq ?_
      refine T_reg ?_
      refine T_val (Ev_assign rfl) rfl ?_
      refine T_nil ?_
      refine T_next ?_
      refine T_block ?_
      obtain ⟨t33, hl33, ho33⟩ := bnd_some hx3
      refine T_loopP (σ := Int) (γ := Unit) hl33 (fun s33 y33 => [(0, .slice (A0_0) ((p0).length) (c0_0)), (1, .slice (A0_1) ((p1).length) (c0_1)), (5, .int .i64 (s33))]) (fun s33 y33 => [] ++ [.old w]) (fun s33 y33 => True) () trivial (by exact .cons rfl (.cons rfl (.cons rfl (.nil)))) (by exact .refl) ?_
      intro s33 y33 hG33 x33 hx33 ht33
      unfold lidarlaw09_sameBytes_l4 at hx33
      refine T_seq ?_
      refine T_seq ?_
      refine T_reg ?_
      refine T_val (Ev_move rfl) rfl ?_
      refine T_val (Ev_move rfl) rfl ?_
      refine T_val (Ev_len rfl 5 Try.underlying73) rfl ?_
      refine T_val (Ev_lss rfl rfl) rfl ?_
      refine T_nil ?_
      refine T_next ?_
      refine T_caseP (s := 14) rfl (fun h34 => ?_) (fun h34 => ?_)
      · have hx35 := ite_t h34 hx33
        refine T_condT rfl ?_
        refine T_skip ?_
        refine T_next ?_
        refine T_seq ?_
        refine T_block ?_
        refine T_seq ?_
        refine T_draw [0, 0, 0, 1, 0, 0, 0, 1, 0] [[], [], [0, 1], [0, 1, 2], [], [], [4, 5], [4, 5, 6], [0, 1, 2, 3, 4, 5, 6, 7]] (.q 0 (.q 1 (.q 2 (.q 3 (.q 4 (.q 5 (.q 6 (.q 7 (.q 8 (.done)))))))))) mixed (by kernel_rfl) (by kernel_rfl) ?_
        refine P_p rfl rfl (Ev_move rfl) rfl ?_
        refine P_p rfl rfl (Ev_move rfl) rfl ?_
        obtain ⟨x37, h38, hx39⟩ := bnd_some hx35
        have hw47 := Has.low (E := []) ha0' hK
        obtain ⟨b40, o41, j42, hA43, hj44, hl45, hp46⟩ := Has.at_idx hw47 h38
        refine P_p rfl rfl (Ev_index rfl rfl hA43 (j := j42) hj44 hl45 slc73) rfl ?_
        refine P_q rfl rfl (Ev_loadP0 rfl hp46 (SubE.cons2 (i := 0) rfl (SubE.nil)) rfl one5) rfl ?_
        refine P_p rfl rfl (Ev_move rfl) rfl ?_
        refine P_p rfl rfl (Ev_move rfl) rfl ?_
        obtain ⟨x48, h49, hx50⟩ := bnd_some hx39
        have hw58 := Has.low (E := []) ha1' hK
        obtain ⟨b51, o52, j53, hA54, hj55, hl56, hp57⟩ := Has.at_idx hw58 h49
        refine P_p rfl rfl (Ev_index rfl rfl hA54 (j := j53) hj55 hl56 slc73) rfl ?_
        refine P_q rfl rfl (Ev_loadP0 rfl hp57 (SubE.cons2 (i := 0) rfl (SubE.nil)) rfl one5) rfl ?_
        refine P_p rfl rfl (Ev_neq rfl rfl) rfl ?_
        refine P_done ?_
        refine T_next ?_
        refine T_caseNP (s := 25) rfl (fun h59 => ?_) (fun h59 => ?_)
        · have hx60 := ite_f h59 hx50
          refine T_condT rfl ?_
          refine T_seq ?_
          refine T_reg ?_
          refine T_val (Ev_assign rfl) rfl ?_
          refine T_nil ?_
          refine T_next ?_
          refine T_retc ?_
          refine T_inR ?_
          refine T_outR ?_
          obtain rfl := exit_eq ht33 hx60
          refine T_outR ?_
          refine T_inR ?_
          refine T_outR ?_
          obtain rfl := Option.some.inj ho33
          exact T_retP (rs := [.tmp 4]) Try.results42 (.tmp rfl (.nil)) (Ln := []) ⟨rfl, rfl, trivial⟩ (loNil) (by exact .refl)
        · have hx61 := ite_t h59 hx50
          refine T_condF rfl ?_
          refine T_skip ?_
          refine T_inN ?_
          refine T_next ?_
          refine T_reg ?_
          refine T_val (Ev_move rfl) rfl ?_
          refine T_val (Ev_add_w64 rfl rfl) rfl ?_
          refine T_val (Ev_assign rfl) rfl ?_
          refine T_nil ?_
          exact T_roundP (w64 (s33 + 1)) () hx61 trivial (by exact .cons rfl (.cons rfl (.cons rfl (.nil)))) (by exact .refl)
      · have hx36 := ite_f h34 hx33
        refine T_condF rfl ?_
        refine T_exit ?_
        refine T_outX ?_
        obtain rfl := exit_eq ht33 hx36
        refine T_outX ?_
        refine T_here ?_
        exact T_metP () () ho33 trivial (by exact .nil) (by exact .refl)
set_option maxRecDepth 100000 in
theorem lidarlaw09_ModelEncodes_ok (p0 : S_api_Grid) {K : List Ent} {A0_0 : Option Addr} {c0_0 : Nat} (ha0 : Has K A0_0 (p0.Cells).length c0_0 3 e_api_Cell (p0.Cells)) {r : Bool} (hx : lidarlaw09_ModelEncodes p0 = some r) (w : World) (hK : ∀ e ∈ K, Ent.ok w e) : CtL Try.prog 8 [.agg #[.int .i64 (p0.Raster.X0), .int .i64 (p0.Raster.Y0), .int .i64 (p0.Raster.Step), .int .i64 (p0.Raster.NX), .int .i64 (p0.Raster.NY), .slice (A0_0) ((p0.Cells).length) (c0_0)]] w fun v Ln => v = .bool (r) ∧ Ln = [] ∧ True := by
  have ha0' := Has.up0 ha0
  refine CtL.mk 31 Try.func8 rfl Try.ntmps8 (by kernel_rfl) rfl ?_
  show T 31 _ [(0, .agg #[.int .i64 (p0.Raster.X0), .int .i64 (p0.Raster.Y0), .int .i64 (p0.Raster.Step), .int .i64 (p0.Raster.NX), .int .i64 (p0.Raster.NY), .slice (A0_0) ((p0.Cells).length) (c0_0)])] _
  unfold lidarlaw09_ModelEncodes at hx
  refine T_seq ?_
  refine T_reg ?_
  refine T_x (Wx_box rfl rfl rfl (fun g1 => ?_))
  refine T_val (Ev_assign rfl) rfl ?_
  refine T_nil ?_
  refine T_next ?_
  refine T_seq ?_
  refine T_seq ?_
  refine T_reg ?_
  refine T_val (Ev_loadK rfl (i := 0) rfl rfl agg26) rfl ?_
  obtain ⟨r2, h3, hx4⟩ := bnd_some hx
  refine T_x (Wx_callL rfl (fun w1 hw1 => lidarlaw09_heavy_ok p0 (Has.len' ha0') h3 w1 (okApp (K := K) (K2 := []) hK (by exact (SubE.cons2 (i := 1) rfl (SubE.nil))) (by exact (SubE.nil)) hw1)) rfl ?_)
  rintro _ _ hlo ⟨rfl, rfl, -⟩
  refine T_app0 ?_
  refine T_nil ?_
  refine T_next ?_
  refine T_caseB (s := 8) rfl (fun h5 => ?_) (fun h5 => ?_)
  · have hx6 := ite_t h5 hx4
    refine T_condT rfl ?_
    refine T_seq ?_
    refine T_reg ?_
    obtain ⟨r7, h8, hx9⟩ := bnd_some hx6
    refine T_x (Wx_callL rfl (fun w1 hw1 => lidarlaw09_first_ok  h8 w1) rfl ?_)
    rintro _ _ hlo ⟨rfl, rfl, -⟩
    refine T_app0 ?_
    refine T_val (Ev_assign rfl) rfl ?_
    refine T_nil ?_
    refine T_next ?_
    refine T_retc ?_
    refine T_outR ?_
    obtain rfl := Option.some.inj hx9
    exact T_retP (rs := [.tmp 2]) Try.results8 (.tmp rfl (.nil)) (Ln := []) ⟨rfl, rfl, trivial⟩ (loNil) (by exact .drop 0 rfl (.refl))
  · have hx10 := ite_bf h5 hx4
    refine T_condF rfl ?_
    refine T_skip ?_
    refine T_next ?_
    refine T_seq ?_
    refine T_reg ?_
    refine T_val (Ev_loadK rfl (i := 0) rfl rfl agg26) rfl ?_
    obtain ⟨r11, h12, hx13⟩ := bnd_some hx10
    refine T_x (Wx_callL rfl (fun w1 hw1 => model_Encode_ok p0 (Has.len' ha0') h12 w1 (okApp (K := K) (K2 := []) hK (by exact (SubE.cons2 (i := 1) rfl (SubE.nil))) (by exact (SubE.nil)) hw1)) rfl ?_)
    rintro _ _ hlo ⟨A14, c15, rfl, rfl, -⟩
    refine T_app1 ?_
    refine T_val (Ev_move rfl) rfl ?_
    refine T_val (Ev_extract rfl rfl) rfl ?_
    refine T_val (Ev_extract rfl rfl) rfl ?_
    refine T_val (Ev_assign rfl) rfl ?_
    refine T_val (Ev_assign rfl) rfl ?_
    refine T_nil ?_
    refine T_next ?_
    refine T_seq ?_
    refine T_reg ?_
    refine T_val (Ev_loadK rfl (i := 1) rfl rfl agg26) rfl ?_
    obtain ⟨r16, h17, hx18⟩ := bnd_some hx13
    refine T_x (Wx_callL rfl (fun w1 hw1 => lidarref09_Encode_ok p0 (Has.len' ha0') h17 w1 (okApp (K := K) (K2 := []) hK (by exact (SubE.cons2 (i := 2) rfl (SubE.nil))) (by exact (SubE.nil)) hw1)) rfl ?_)
    rintro _ _ hlo ⟨A19, c20, rfl, rfl, -⟩
    refine T_app1 ?_
    refine T_val (Ev_move rfl) rfl ?_
    refine T_val (Ev_extract rfl rfl) rfl ?_
    refine T_val (Ev_extract rfl rfl) rfl ?_
    refine T_val (Ev_assign rfl) rfl ?_
    refine T_val (Ev_assign rfl) rfl ?_
    refine T_nil ?_
    refine T_next ?_
    obtain ⟨j7, hj7, hx18⟩ := jn_some hx18
    refine T_cutP (τ := Bool) (γ := Unit) (J := j7) (out := r) (fun s7 y7 => [(2, .bool (s7))]) (fun s7 y7 => [] ++ [.old w]) (fun s7 y7 => True) ?_ ?_
    · intro s7 y7 hx37 hG38
      subst hj7
      refine T_retc ?_
      obtain rfl := Option.some.inj hx37
      exact T_retP (rs := [.tmp 2]) Try.results8 (.tmp rfl (.nil)) (Ln := []) ⟨rfl, rfl, trivial⟩ (loNil) (by exact .refl)
    · skip
      refine T_reg ?_
      refine T_val (Ev_move rfl) rfl ?_
      refine T_val (Ev_move rfl) rfl ?_
      refine T_val (Ev_eql rfl rfl) rfl ?_
      refine T_val (Ev_move rfl) rfl ?_
      refine T_caseP (s := 23) rfl (fun h21 => ?_) (fun h21 => ?_)
      · have hx22 := ite_t h21 hx18
        refine T_valG rfl rfl rfl (Ev_move rfl) rfl ?_
        refine T_valG rfl rfl rfl (Ev_move rfl) rfl ?_
        refine T_rowP (k := 1) rfl (by decide) (fun _ => rfl) (fun hn23 hs24 => ?_)
        refine T_rowP (k := 0) rfl (by decide) (fun _ => rfl) (fun hn25 hs26 => ?_)
        obtain ⟨r27, h28, hx29⟩ := bnd_some hx22
        refine T_xG rfl rfl rfl (Wx_callL rfl (fun w1 hw1 => lidarlaw09_sameBytes_ok r11.1 r16.1 (Has.len' (Has.up (L := ([.r (A14) ((r11.1).length) (c15) 5 1 ((r11.1).flatMap e_u8), .r (A19) ((r16.1).length) (c20) 5 1 ((r16.1).flatMap e_u8)] : List Ent)) hs24 (SubE.cons2 (i := 0) rfl (SubE.nil)))) (Has.len' (Has.up (L := ([.r (A14) ((r11.1).length) (c15) 5 1 ((r11.1).flatMap e_u8), .r (A19) ((r16.1).length) (c20) 5 1 ((r16.1).flatMap e_u8)] : List Ent)) hs26 (SubE.cons2 (i := 1) rfl (SubE.nil)))) h28 w1 (okAll (K := ([.r (A14) ((r11.1).length) (c15) 5 1 ((r11.1).flatMap e_u8), .r (A19) ((r16.1).length) (c20) 5 1 ((r16.1).flatMap e_u8)] : List Ent)) (by exact (SubE.cons2 (i := 1) rfl (SubE.cons2 (i := 0) rfl (SubE.nil)))) hw1)) rfl ?_)
        rintro _ _ hlo ⟨rfl, rfl, -⟩
        refine T_app0 ?_
        refine T_val (Ev_pickT rfl rfl) rfl ?_
        refine T_val (Ev_move rfl) rfl ?_
        refine T_caseB (s := 28) rfl (fun h30 => ?_) (fun h30 => ?_)
        · have hx31 := ite_t h30 hx29
          obtain ⟨r32, h33, hx34⟩ := bnd_some hx31
          refine T_xG rfl rfl rfl (Wx_callL rfl (fun w1 hw1 => lidarlaw09_first_ok  h33 w1) rfl ?_)
          rintro _ _ hlo ⟨rfl, rfl, -⟩
          refine T_app0 ?_
          refine T_val (Ev_pickT rfl rfl) rfl ?_
          refine T_val (Ev_assign rfl) rfl ?_
          refine T_nil ?_
          exact T_metP r32 () hx34 trivial (by exact .cons rfl (.nil)) (by exact .drop 0 rfl (.drop 0 rfl (.drop 0 rfl (.refl))))
        · have hx35 := ite_bf h30 hx29
          refine T_skipG rfl rfl rfl rfl rfl ?_
          refine T_val (Ev_pickF rfl rfl) rfl ?_
          refine T_val (Ev_assign rfl) rfl ?_
          refine T_nil ?_
          exact T_metP false () hx35 trivial (by exact .cons rfl (.nil)) (by exact .drop 0 rfl (.drop 0 rfl (.drop 0 rfl (.refl))))
      · have hx36 := ite_f h21 hx18
        refine T_skipG rfl rfl rfl rfl rfl ?_
        refine T_skipG rfl rfl rfl rfl rfl ?_
        refine T_skipG rfl rfl rfl rfl rfl ?_
        refine T_val (Ev_pickF rfl rfl) rfl ?_
        refine T_val (Ev_move rfl) rfl ?_
        refine T_skipG rfl rfl rfl rfl rfl ?_
        refine T_val (Ev_pickF rfl rfl) rfl ?_
        refine T_val (Ev_assign rfl) rfl ?_
        refine T_nil ?_
        exact T_metP false () hx36 trivial (by exact .cons rfl (.nil)) (by exact .drop 0 rfl (.drop 0 rfl (.drop 0 rfl (.refl))))
end Go.Proofs.Ytjhknbpiaikblaa
