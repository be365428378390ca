/- Walks of the program, with their plain functions: coarser grids. -/
import Derived.Test.YtjhknbpiaikblaaG2
namespace Go.Proofs.Ytjhknbpiaikblaa
open Go Go.RowKit
theorem zer23 : ZeroOf Try.prog 23 [.int .i64 (0), .int .i64 (0), .int .i64 (0), .int .i64 (0), .int .i64 (0)] := ⟨_, Try.zeroValue23, rfl⟩
noncomputable def model_refused (p0 : S_api_Grid) (p1 : Int) : Option Int :=
 bnd (model_Valid p0) fun r2 =>
 if r2 = true then (jn (fun (s6 : Bool) =>
 if s6 = true then (some 2)
 else (some 0))
 (fun j6 => if p1 < 1 then (j6 true)
 else (gd (p0.Raster.Step ≠ 0) <|
 j6 (decide ((w64 (Int.tdiv 1000000 p0.Raster.Step)) < p1)))))
 else (some 90)
noncomputable def model_reduced (p0 : S_api_Raster) (p1 : Int) : Option S_api_Raster :=
 gd (p1 ≠ 0) <|
 gd (p1 ≠ 0) <|
 some (⟨p0.X0, p0.Y0, w64 (p0.Step * p1), w64 (Int.tdiv (w64 ((w64 (p0.NX + p1)) - 1)) p1), w64 (Int.tdiv (w64 ((w64 (p0.NY + p1)) - 1)) p1)⟩ : S_api_Raster)
noncomputable def model_Thin_l9 (r9 : S_api_Raster) (p0 : S_api_Grid) (s60 : (List S_api_Cell) × Int) (p1 : Int) : ((List S_api_Cell) × Int) → Option (Sum ((List S_api_Cell) × Int) (List S_api_Cell)) := fun s85 =>
 if s85.2 < r9.NX then (bnd (idx p0.Cells (w64 ((w64 ((w64 (s60.2 * p1)) * p0.Raster.NX)) + (w64 (s85.2 * p1))))) fun x89 =>
 gd (((s85.1).length + 1) * 24 ≤ 140737488355328) <|
 some (.inl (s85.1 ++ [x89], w64 (s85.2 + 1))))
 else (some (.inr s85.1))
noncomputable def model_Thin_l6 (r9 : S_api_Raster) (p0 : S_api_Grid) (p1 : Int) : ((List S_api_Cell) × Int) → Option (Sum ((List S_api_Cell) × Int) (List S_api_Cell)) := fun s60 =>
 if s60.2 < r9.NY then (jn (fun (s24 : List S_api_Cell) =>
 some (.inl (s24, w64 (s60.2 + 1))))
 (fun j24 => bnd (lfix (model_Thin_l9 r9 p0 s60 p1) (s60.1, 0)) fun t85 =>
 j24 t85))
 else (some (.inr s60.1))
noncomputable def model_Thin (p0 : S_api_Grid) (p1 : Int) : Option (S_api_Grid × Int) :=
 bnd (model_refused p0 p1) fun r3 =>
 if r3 = 0 then (bnd (model_reduced p0.Raster p1) fun r9 =>
 jn (fun (s7 : List S_api_Cell) =>
 some ((⟨r9, s7⟩ : S_api_Grid), 0))
 (fun j7 => bnd (lfix (model_Thin_l6 r9 p0 p1) (([] : List S_api_Cell), 0)) fun t60 =>
 j7 t60))
 else (some ((⟨(⟨0, 0, 0, 0, 0⟩ : S_api_Raster), ([] : List S_api_Cell)⟩ : S_api_Grid), r3))
noncomputable def lidarref09_coarser (p0 : S_api_Raster) (p1 : Int) : Option (S_api_Raster × Bool) :=
 jn (fun (s3 : Bool) =>
 if s3 = true then (some (p0, false))
 else (gd (p1 ≠ 0) <|
 gd (p1 ≠ 0) <|
 some ((⟨p0.X0, p0.Y0, w64 (p0.Step * p1), w64 (Int.tdiv (w64 ((w64 (p0.NX + p1)) - 1)) p1), w64 (Int.tdiv (w64 ((w64 (p0.NY + p1)) - 1)) p1)⟩ : S_api_Raster), true)))
 (fun j3 => if p1 < 1 then (j3 true)
 else (if 1000000 < p1 then (j3 true)
 else (j3 (decide (1000000 < (w64 (p0.Step * p1)))))))
noncomputable def lidarref09_Thin_l19 (s155 : (List S_api_Cell) × Int) (r9 : S_api_Raster × Bool) (p1 : Int) (s11 : Int) (p0 : S_api_Grid) (s223 : Bool × Int × Int × Int) : (Bool × Int × Int × Int) → Option (Sum (Bool × Int × Int × Int) (Bool × Int × Int)) := fun s253 =>
 if s253.2.2.2 < (min (w64 ((w64 ((Int.tmod s155.2 r9.1.NX) * p1)) + s11)) p0.Raster.NX) then (jn (fun (s103 : Bool × Int × Int) =>
 some (.inl (s103.1, s103.2.1, s103.2.2, w64 (s253.2.2.2 + 1))))
 (fun j103 => bnd (idx p0.Cells (w64 ((w64 (s223.2.2.2 * p0.Raster.NX)) + s253.2.2.2))) fun x257 =>
 if x257.Void = true then (j103 (s253.1, s253.2.1, s253.2.2.1))
 else (jn (fun (s107 : Bool × Int × Int) =>
 j103 (s107.1, min s107.2.1 x257.Z.Lo, max s107.2.2 x257.Z.Hi))
 (fun j107 => if s253.1 = true then (j107 (x257.Void, x257.Z.Lo, x257.Z.Hi))
 else (j107 (s253.1, s253.2.1, s253.2.2.1))))))
 else (some (.inr (s253.1, s253.2.1, s253.2.2.1)))
noncomputable def lidarref09_Thin_l16 (s155 : (List S_api_Cell) × Int) (r9 : S_api_Raster × Bool) (p1 : Int) (s11 : Int) (p0 : S_api_Grid) : (Bool × Int × Int × Int) → Option (Sum (Bool × Int × Int × Int) (Bool × Int × Int)) := fun s223 =>
 if s223.2.2.2 < (min (w64 ((w64 ((w64 (Int.tdiv s155.2 r9.1.NX)) * p1)) + s11)) p0.Raster.NY) then (jn (fun (s91 : Bool × Int × Int) =>
 some (.inl (s91.1, s91.2.1, s91.2.2, w64 (s223.2.2.2 + 1))))
 (fun j91 => bnd (lfix (lidarref09_Thin_l19 s155 r9 p1 s11 p0 s223) (s223.1, s223.2.1, s223.2.2.1, w64 ((Int.tmod s155.2 r9.1.NX) * p1))) fun t253 =>
 j91 t253))
 else (some (.inr (s223.1, s223.2.1, s223.2.2.1)))
noncomputable def lidarref09_Thin_l11 (r9 : S_api_Raster × Bool) (p1 : Int) (s11 : Int) (p0 : S_api_Grid) : ((List S_api_Cell) × Int) → Option (Sum ((List S_api_Cell) × Int) (List S_api_Cell)) := fun s155 =>
 if s155.2 < (w64 (r9.1.NX * r9.1.NY)) then (gd (r9.1.NX ≠ 0) <|
 gd (r9.1.NX ≠ 0) <|
 jn (fun (s67 : Bool × Int × Int) =>
 gd (((s155.1).length + 1) * 24 ≤ 140737488355328) <|
 some (.inl (s155.1 ++ [(⟨s67.1, (⟨s67.2.1, s67.2.2⟩ : S_api_Span)⟩ : S_api_Cell)], w64 (s155.2 + 1))))
 (fun j67 => bnd (lfix (lidarref09_Thin_l16 s155 r9 p1 s11 p0) (true, 0, 0, w64 ((w64 (Int.tdiv s155.2 r9.1.NX)) * p1))) fun t223 =>
 j67 t223))
 else (some (.inr s155.1))
noncomputable def lidarref09_Thin (p0 : S_api_Grid) (p1 : Int) (p2 : Bool) : Option (S_api_Grid × Int) :=
 bnd (lidarref09_Valid p0) fun r3 =>
 if r3 = true then (bnd (lidarref09_coarser p0.Raster p1) fun r9 =>
 if r9.2 = true then (jn (fun (s11 : Int) =>
 jn (fun (s13 : List S_api_Cell) =>
 some ((⟨r9.1, s13⟩ : S_api_Grid), 0))
 (fun j13 => bnd (lfix (lidarref09_Thin_l11 r9 p1 s11 p0) (([] : List S_api_Cell), 0)) fun t155 =>
 j13 t155))
 (fun j11 => if p2 = true then (j11 p1)
 else (j11 1)))
 else (some ((⟨(⟨0, 0, 0, 0, 0⟩ : S_api_Raster), ([] : List S_api_Cell)⟩ : S_api_Grid), 2)))
 else (some ((⟨(⟨0, 0, 0, 0, 0⟩ : S_api_Raster), ([] : List S_api_Cell)⟩ : S_api_Grid), 90))
noncomputable def math_bits_Mul32 (p0 : Int) (p1 : Int) : Option (Int × Int) :=
 some (wu32 (shr_ .u64 (wu64 ((wu64 (p0)) * (wu64 (p1)))) 32), wu32 (wu64 ((wu64 (p0)) * (wu64 (p1)))))
noncomputable def math_bits_Mul64 (p0 : Int) (p1 : Int) : Option (Int × Int) :=
 some (wu64 ((wu64 ((wu64 ((shr_ .u64 p0 32) * (shr_ .u64 p1 32))) + (shr_ .u64 (wu64 ((wu64 ((shr_ .u64 p0 32) * (bit_and .u64 p1 4294967295))) + (shr_ .u64 (wu64 ((bit_and .u64 p0 4294967295) * (bit_and .u64 p1 4294967295))) 32))) 32))) + (shr_ .u64 (wu64 ((bit_and .u64 (wu64 ((wu64 ((shr_ .u64 p0 32) * (bit_and .u64 p1 4294967295))) + (shr_ .u64 (wu64 ((bit_and .u64 p0 4294967295) * (bit_and .u64 p1 4294967295))) 32))) 4294967295) + (wu64 ((bit_and .u64 p0 4294967295) * (shr_ .u64 p1 32))))) 32)), wu64 (p0 * p1))
noncomputable def math_bits_Mul (p0 : Int) (p1 : Int) : Option (Int × Int) :=
 bnd (math_bits_Mul64 p0 p1) fun r1 =>
 some (r1.1, r1.2)
noncomputable def slices_Repeat___api_Cell_api_Cell__l8  : ((List S_api_Cell) × Int) → Option (Sum ((List S_api_Cell) × Int) (List S_api_Cell)) := fun s35 =>
 if s35.2 < ((((s35.1).length : Nat) : Int)) then (gd (0 ≤ s35.2 ∧ s35.2 ≤ (((s35.1).length : Nat) : Int)) <|
 gd (0 ≤ s35.2 ∧ s35.2 ≤ (((s35.1).length : Nat) : Int)) <|
 some (.inl (cpy s35.1 (Int.toNat s35.2) (subl s35.1 0 s35.2), w64 (s35.2 + (((min (subl s35.1 0 s35.2).length ((s35.1).length - (Int.toNat s35.2)) : Nat) : Int))))))
 else (some (.inr s35.1))
noncomputable def slices_Repeat___api_Cell_api_Cell_ (p0 : List S_api_Cell) (p1 : Int) : Option (List S_api_Cell) :=
 if p1 < 0 then (none)
 else (bnd (math_bits_Mul (wu64 ((((p0).length : Nat) : Int))) (wu64 (p1))) fun r4 =>
 jn (fun (s6 : Bool) =>
 if s6 = true then (none)
 else (gd ((0 : Int) ≤ (w64 (r4.2)) ∧ 24 * Int.toNat (w64 (r4.2)) ≤ 140737488355328) <|
 jn (fun (s9 : List S_api_Cell) =>
 some s9)
 (fun j9 => bnd (lfix (slices_Repeat___api_Cell_api_Cell__l8) (cpy (List.replicate (Int.toNat (w64 (r4.2))) (⟨false, (⟨0, 0⟩ : S_api_Span)⟩ : S_api_Cell)) 0 p0, ((min (p0).length ((List.replicate (Int.toNat (w64 (r4.2))) (⟨false, (⟨0, 0⟩ : S_api_Span)⟩ : S_api_Cell)).length - 0) : Nat) : Int))) fun t35 =>
 j9 t35)))
 (fun j6 => if 0 < r4.1 then (j6 true)
 else (j6 (decide (9223372036854775807 < r4.2)))))
noncomputable def model_joined (p0 : S_api_Cell) (p1 : S_api_Cell) : Option S_api_Cell :=
 if p0.Void = true then (some p1)
 else (if p1.Void = true then (some p0)
 else (some (⟨false, (⟨min p0.Z.Lo p1.Z.Lo, max p0.Z.Hi p1.Z.Hi⟩ : S_api_Span)⟩ : S_api_Cell)))
noncomputable def model_Coarse_l7 (p0 : S_api_Grid) (p1 : Int) (r9 : S_api_Raster) : ((List S_api_Cell) × Int) → Option (Sum ((List S_api_Cell) × Int) (List S_api_Cell)) := fun s69 =>
 if s69.2 < ((((p0.Cells).length : Nat) : Int)) then (bnd (idx p0.Cells s69.2) fun x73 =>
 gd (p0.Raster.NX ≠ 0) <|
 gd (p1 ≠ 0) <|
 gd (p0.Raster.NX ≠ 0) <|
 gd (p1 ≠ 0) <|
 bnd (idx s69.1 (w64 ((w64 ((w64 (Int.tdiv (w64 (Int.tdiv s69.2 p0.Raster.NX)) p1)) * r9.NX)) + (w64 (Int.tdiv (Int.tmod s69.2 p0.Raster.NX) p1))))) fun x93 =>
 bnd (model_joined x93 x73) fun r104 =>
 bnd (idx s69.1 (w64 ((w64 ((w64 (Int.tdiv (w64 (Int.tdiv s69.2 p0.Raster.NX)) p1)) * r9.NX)) + (w64 (Int.tdiv (Int.tmod s69.2 p0.Raster.NX) p1))))) fun x107 =>
 some (.inl (setI s69.1 (w64 ((w64 ((w64 (Int.tdiv (w64 (Int.tdiv s69.2 p0.Raster.NX)) p1)) * r9.NX)) + (w64 (Int.tdiv (Int.tmod s69.2 p0.Raster.NX) p1)))) r104, w64 (s69.2 + 1))))
 else (some (.inr s69.1))
noncomputable def model_Coarse (p0 : S_api_Grid) (p1 : Int) : Option (S_api_Grid × Int) :=
 bnd (model_refused p0 p1) fun r3 =>
 if r3 = 0 then (bnd (model_reduced p0.Raster p1) fun r9 =>
 bnd (slices_Repeat___api_Cell_api_Cell_ ([(⟨true, (⟨0, 0⟩ : S_api_Span)⟩ : S_api_Cell)]) (w64 (r9.NX * r9.NY))) fun r15 =>
 jn (fun (s8 : List S_api_Cell) =>
 some ((⟨r9, s8⟩ : S_api_Grid), 0))
 (fun j8 => bnd (lfix (model_Coarse_l7 p0 p1 r9) (r15, 0)) fun t69 =>
 j8 t69))
 else (some ((⟨(⟨0, 0, 0, 0, 0⟩ : S_api_Raster), ([] : List S_api_Cell)⟩ : S_api_Grid), r3))
noncomputable def lidarlaw09_ModelCoarsens (p0 : S_api_Grid) (p1 : Int) : Option Bool :=
 bnd (lidarlaw09_heavy p0) fun r2 =>
 if r2 = true then (bnd (lidarlaw09_first) fun r7 =>
 some r7)
 else (bnd (model_Thin p0 p1) fun r11 =>
 bnd (lidarref09_Thin p0 p1 false) fun r17 =>
 bnd (model_Coarse p0 p1) fun r23 =>
 bnd (lidarref09_Thin p0 p1 true) fun r29 =>
 jn (fun (s9 : Bool) =>
 some s9)
 (fun j9 => if r11.2 = r17.2 then (bnd (lidarlaw09_Same r11.1 r17.1) fun r41 =>
 if r41 = true then (if r23.2 = r29.2 then (bnd (lidarlaw09_Same r23.1 r29.1) fun r52 =>
 if r52 = true then (bnd (lidarlaw09_first) fun r57 =>
 j9 r57)
 else (j9 false))
 else (j9 false))
 else (j9 false))
 else (j9 false)))
noncomputable def lidarlaw09_ModelLevels_l15 (r30 : S_api_Grid × Int) (r69 : S_api_Grid × Int) : Int → Option (Sum Int (Sum Unit Bool)) := fun s227 =>
 if s227 < ((((r30.1.Cells).length : Nat) : Int)) then (jn (fun (s29 : Bool × Int × Int × Bool × Int × Int) =>
 jn (fun (s30 : Bool) =>
 if s30 = true then (some (.inr (.inr (false))))
 else (some (.inl (w64 (s227 + 1)))))
 (fun j30 => if s29.1 = true then (j30 false)
 else (if s29.2.2.2.1 = true then (j30 true)
 else (if s29.2.1 < s29.2.2.2.2.1 then (j30 true)
 else (j30 (decide (s29.2.2.2.2.2 < s29.2.2.1)))))))
 (fun j29 => bnd (idx r30.1.Cells s227) fun x231 =>
 bnd (idx r69.1.Cells s227) fun x242 =>
 j29 (x231.Void, x231.Z.Lo, x231.Z.Hi, x242.Void, x242.Z.Lo, x242.Z.Hi)))
 else (some (.inr (.inl ())))
noncomputable def lidarlaw09_ModelLevels (p0 : S_api_Grid) (p1 : Int) (p2 : Int) : Option Bool :=
 jn (fun (s4 : Bool) =>
 if s4 = true then (bnd (lidarlaw09_first) fun r12 =>
 some r12)
 else (bnd (model_Thin p0 (w64 (1 + (Int.tmod (w64 (p1)) 6)))) fun r16 =>
 bnd (model_Thin r16.1 (w64 (1 + (Int.tmod (w64 (p2)) 6)))) fun r24 =>
 bnd (model_Thin p0 (w64 ((w64 (1 + (Int.tmod (w64 (p1)) 6))) * (w64 (1 + (Int.tmod (w64 (p2)) 6)))))) fun r30 =>
 jn (fun (s10 : Bool) =>
 if s10 = true then (some false)
 else (bnd (model_Coarse p0 (w64 (1 + (Int.tmod (w64 (p1)) 6)))) fun r57 =>
 bnd (model_Coarse r57.1 (w64 (1 + (Int.tmod (w64 (p2)) 6)))) fun r64 =>
 bnd (model_Coarse p0 (w64 ((w64 (1 + (Int.tmod (w64 (p1)) 6))) * (w64 (1 + (Int.tmod (w64 (p2)) 6)))))) fun r69 =>
 jn (fun (s16 : Bool) =>
 if s16 = true then (some false)
 else (jn (fun (s18 : Unit) =>
 bnd (lidarlaw09_first) fun r357 =>
 some r357)
 (fun j18 => bnd (lfix (lidarlaw09_ModelLevels_l15 r30 r69) 0) fun t227 =>
 (match t227 with
 | (.inl z227) => j18 z227
 | (.inr (z227)) => some z227
 ))))
 (fun j16 => if r57.2 = 0 then (if r64.2 = 0 then (if r69.2 = 0 then (bnd (lidarlaw09_Same r64.1 r69.1) fun r88 =>
 if r88 = true then (j16 (!(decide (((((r30.1.Cells).length : Nat) : Int)) = ((((r69.1.Cells).length : Nat) : Int))))))
 else (j16 true))
 else (j16 true))
 else (j16 true))
 else (j16 true))))
 (fun j10 => if r16.2 = 0 then (if r24.2 = 0 then (if r30.2 = 0 then (bnd (lidarlaw09_Same r24.1 r30.1) fun r49 =>
 j10 (!(r49)))
 else (j10 true))
 else (j10 true))
 else (j10 true))))
 (fun j4 => bnd (lidarlaw09_good p0) fun r2 =>
 if r2 = true then (j4 (decide (1000000 < (w64 ((w64 (p0.Raster.Step * (w64 (1 + (Int.tmod (w64 (p1)) 6))))) * (w64 (1 + (Int.tmod (w64 (p2)) 6))))))))
 else (j4 true))
set_option maxRecDepth 100000 in
theorem model_refused_ok (p0 : S_api_Grid) (p1 : Int) {K : List Ent} {A0_0 : Option Addr} {c0_0 : Nat} (ha0 : Has K A0_0 (p0.Cells).length c0_0 3 e_api_Cell (p0.Cells)) {r : Int} (hx : model_refused p0 p1 = some r) (w : World) (hK : ∀ e ∈ K, Ent.ok w e) : CtL Try.prog 81 [.agg #[.int .i64 (p0.Raster.X0), .int .i64 (p0.Raster.Y0), .int .i64 (p0.Raster.Step), .int .i64 (p0.Raster.NX), .int .i64 (p0.Raster.NY), .slice (A0_0) ((p0.Cells).length) (c0_0)], .int .i64 (p1)] w fun v Ln => v = .int .i64 (r) ∧ Ln = [] ∧ True := by
  have ha0' := Has.up0 ha0
  refine CtL.mk 18 Try.func81 rfl Try.ntmps81 (by kernel_rfl) rfl ?_
  show T 18 _ [(0, .agg #[.int .i64 (p0.Raster.X0), .int .i64 (p0.Raster.Y0), .int .i64 (p0.Raster.Step), .int .i64 (p0.Raster.NX), .int .i64 (p0.Raster.NY), .slice (A0_0) ((p0.Cells).length) (c0_0)]), (1, .int .i64 (p1))] _
  unfold model_refused at hx
  refine T_seq ?_
  refine T_reg ?_
  refine T_x (Wx_box rfl rfl rfl (fun g1 => ?_))
  refine T_val (Ev_assign rfl) rfl ?_
  refine T_nil ?_
  refine T_next ?_
  refine T_seq ?_
  refine T_seq ?_
  refine T_reg ?_
  refine T_val (Ev_loadK rfl (i := 0) rfl rfl agg26) rfl ?_
  obtain ⟨r2, h3, hx4⟩ := bnd_some hx
  refine T_x (Wx_callL rfl (fun w1 hw1 => model_Valid_ok p0 (Has.len' ha0') h3 w1 (okApp (K := K) (K2 := []) hK (by exact (SubE.cons2 (i := 1) rfl (SubE.nil))) (by exact (SubE.nil)) hw1)) rfl ?_)
  rintro _ _ hlo ⟨rfl, rfl, -⟩
  refine T_app0 ?_
  refine T_val (Ev_not rfl) rfl ?_
  refine T_nil ?_
  refine T_next ?_
  refine T_caseNB (s := 7) rfl (fun h5 => ?_) (fun h5 => ?_)
  · have hx6 := ite_bf h5 hx4
    refine T_condT rfl ?_
    refine T_seq ?_
    refine T_reg ?_
    refine T_val (Ev_assign rfl) rfl ?_
    refine T_nil ?_
    refine T_next ?_
    refine T_retc ?_
    refine T_outR ?_
    obtain rfl := Option.some.inj hx6
    exact T_retP (rs := [.tmp 4]) Try.results81 (.tmp rfl (.nil)) (Ln := []) ⟨rfl, rfl, trivial⟩ (loNil) (by exact .drop 0 rfl (.refl))
  · have hx7 := ite_t h5 hx4
    refine T_condF rfl ?_
    refine T_skip ?_
    refine T_next ?_
    refine T_seq ?_
    obtain ⟨j6, hj6, hx7⟩ := jn_some hx7
    refine T_cutP (τ := Bool) (γ := Unit) (J := j6) (out := r) (fun s6 y6 => [(17, .bool (s6))]) (fun s6 y6 => [] ++ [.old w]) (fun s6 y6 => True) ?_ ?_
    · intro s6 y6 hx13 hG14
      subst hj6
      refine T_caseB (s := 17) rfl (fun h15 => ?_) (fun h15 => ?_)
      · have hx16 := ite_t h15 hx13
        refine T_condT rfl ?_
        refine T_seq ?_
        refine T_reg ?_
        refine T_val (Ev_assign rfl) rfl ?_
        refine T_nil ?_
        refine T_next ?_
        refine T_retc ?_
        refine T_outR ?_
        obtain rfl := Option.some.inj hx16
        exact T_retP (rs := [.tmp 4]) Try.results81 (.tmp rfl (.nil)) (Ln := []) ⟨rfl, rfl, trivial⟩ (loNil) (by exact .refl)
      · have hx17 := ite_bf h15 hx13
        refine T_condF rfl ?_
        refine T_skip ?_
        refine T_next ?_
        refine T_seq ?_
        refine T_reg ?_
        refine T_val (Ev_assign rfl) rfl ?_
        refine T_nil ?_
        refine T_next ?_
        refine T_retc ?_
        obtain rfl := Option.some.inj hx17
        exact T_retP (rs := [.tmp 4]) Try.results81 (.tmp rfl (.nil)) (Ln := []) ⟨rfl, rfl, trivial⟩ (loNil) (by exact .refl)
    · skip
      refine T_reg ?_
      refine T_val (Ev_move rfl) rfl ?_
      refine T_val (Ev_lss rfl rfl) rfl ?_
      refine T_val (Ev_move rfl) rfl ?_
      refine T_caseP (s := 10) rfl (fun h8 => ?_) (fun h8 => ?_)
      · have hx9 := ite_t h8 hx7
        refine T_skipG rfl rfl rfl rfl rfl ?_
        refine T_skipG rfl rfl rfl rfl rfl ?_
        refine T_skipG rfl rfl rfl rfl rfl ?_
        refine T_skipG rfl rfl rfl rfl rfl ?_
        refine T_skipG rfl rfl rfl rfl rfl ?_
        refine T_skipG rfl rfl rfl rfl rfl ?_
        refine T_val (Ev_pickT rfl rfl) rfl ?_
        refine T_nil ?_
        exact T_metP true () hx9 trivial (by exact .cons rfl (.nil)) (by exact .drop 0 rfl (.refl))
      · have hx10 := ite_f h8 hx7
        refine T_valG rfl rfl rfl (Ev_move rfl) rfl ?_
        refine T_valG rfl rfl rfl (Ev_field rfl fld26_0 rfl) rfl ?_
        refine T_valG rfl rfl rfl (Ev_field rfl fld23_2 rfl) rfl ?_
        refine T_valG rfl rfl rfl (Ev_load1 rfl (i := 0) rfl rfl one3) rfl ?_
        obtain ⟨h11, hx12⟩ := gd_some hx10
        refine T_valG rfl rfl rfl (Ev_quo_w64 rfl rfl h11) rfl ?_
        refine T_valG rfl rfl rfl (Ev_gtr rfl rfl) rfl ?_
        refine T_val (Ev_pickF rfl rfl) rfl ?_
        refine T_nil ?_
        exact T_metP (decide ((w64 (Int.tdiv 1000000 p0.Raster.Step)) < p1)) () hx12 trivial (by exact .cons rfl (.nil)) (by exact .drop 0 rfl (.refl))
set_option maxRecDepth 100000 in
theorem model_reduced_ok (p0 : S_api_Raster) (p1 : Int)  {r : S_api_Raster} (hx : model_reduced p0 p1 = some r) (w : World) : CtL Try.prog 82 [.agg #[.int .i64 (p0.X0), .int .i64 (p0.Y0), .int .i64 (p0.Step), .int .i64 (p0.NX), .int .i64 (p0.NY)], .int .i64 (p1)] w fun v Ln => v = .agg #[.int .i64 (r.X0), .int .i64 (r.Y0), .int .i64 (r.Step), .int .i64 (r.NX), .int .i64 (r.NY)] ∧ Ln = [] ∧ True := by
  refine CtL.mk 27 Try.func82 rfl Try.ntmps82 (by kernel_rfl) rfl ?_
  show T 27 _ [(0, .agg #[.int .i64 (p0.X0), .int .i64 (p0.Y0), .int .i64 (p0.Step), .int .i64 (p0.NX), .int .i64 (p0.NY)]), (1, .int .i64 (p1))] _
  unfold model_reduced at hx
  refine T_seq ?_
  refine T_reg ?_
  refine T_x (Wx_box rfl rfl rfl (fun g1 => ?_))
  refine T_x (Wx_alloc zer23 rfl (fun g2 => ?_))
  refine T_nil ?_
  refine T_next ?_
  refine T_seq ?_
  refine T_reg ?_
  refine T_val (Ev_field rfl fld23_2 rfl) rfl ?_
  refine T_val (Ev_load1 rfl (i := 1) rfl rfl one3) rfl ?_
  refine T_val (Ev_move rfl) rfl ?_
  refine T_val (Ev_mul_w64 rfl rfl) rfl ?_
  refine T_val (Ev_field rfl fld23_2 rfl) rfl ?_
  refine T_h (Wh_store rfl rfl rfl (.there (.here)) (.skip (.skip (.put (.done)))) rfl (List.cons_ne_nil _ _) one3.2 ?_)
  refine T_nil ?_
  refine T_next ?_
  refine T_seq ?_
  refine T_reg ?_
  refine T_val (Ev_field rfl fld23_3 rfl) rfl ?_
  refine T_val (Ev_load1 rfl (i := 1) rfl rfl one3) rfl ?_
  refine T_val (Ev_move rfl) rfl ?_
  refine T_val (Ev_add_w64 rfl rfl) rfl ?_
  refine T_val (Ev_sub_w64 rfl rfl) rfl ?_
  refine T_val (Ev_move rfl) rfl ?_
  obtain ⟨h3, hx4⟩ := gd_some hx
  refine T_val (Ev_quo_w64 rfl rfl h3) rfl ?_
  refine T_val (Ev_field rfl fld23_3 rfl) rfl ?_
  refine T_h (Wh_store rfl rfl rfl (.there (.here)) (.skip (.skip (.skip (.put (.done))))) rfl (List.cons_ne_nil _ _) one3.2 ?_)
  refine T_nil ?_
  refine T_next ?_
  refine T_seq ?_
  refine T_reg ?_
  refine T_val (Ev_field rfl fld23_4 rfl) rfl ?_
  refine T_val (Ev_load1 rfl (i := 1) rfl rfl one3) rfl ?_
  refine T_val (Ev_move rfl) rfl ?_
  refine T_val (Ev_add_w64 rfl rfl) rfl ?_
  refine T_val (Ev_sub_w64 rfl rfl) rfl ?_
  refine T_val (Ev_move rfl) rfl ?_
  obtain ⟨h5, hx6⟩ := gd_some hx4
  refine T_val (Ev_quo_w64 rfl rfl h5) rfl ?_
  refine T_val (Ev_field rfl fld23_4 rfl) rfl ?_
  refine T_h (Wh_store rfl rfl rfl (.there (.here)) (.skip (.skip (.skip (.skip (.put (.done)))))) rfl (List.cons_ne_nil _ _) one3.2 ?_)
  refine T_nil ?_
  refine T_next ?_
  refine T_seq ?_
  refine T_reg ?_
  refine T_val (Ev_loadK rfl (i := 1) rfl rfl agg23) rfl ?_
  refine T_h (Wh_store rfl rfl rfl (.here) (.put (.put (.put (.put (.put (.done)))))) rfl (List.cons_ne_nil _ _) agg23.2 ?_)
  refine T_nil ?_
  refine T_next ?_
  refine T_retc ?_
  obtain rfl := Option.some.inj hx6
  exact T_retP (rs := [.cell 4 23]) Try.results82 (.cell rfl (i := 0) rfl rfl agg23 (.nil)) (Ln := []) ⟨rfl, rfl, trivial⟩ (loNil) (by exact .drop 0 rfl (.drop 0 rfl (.refl)))
set_option maxRecDepth 100000 in
theorem model_Thin_ok (p0 : S_api_Grid) (p1 : Int) {K : List Ent} {A0_0 : Option Addr} {c0_0 : Nat} (ha0 : Has K A0_0 (p0.Cells).length c0_0 3 e_api_Cell (p0.Cells)) {r : S_api_Grid × Int} (hx : model_Thin p0 p1 = some r) (w : World) (hK : ∀ e ∈ K, Ent.ok w e) : CtL Try.prog 43 [.agg #[.int .i64 (p0.Raster.X0), .int .i64 (p0.Raster.Y0), .int .i64 (p0.Raster.Step), .int .i64 (p0.Raster.NX), .int .i64 (p0.Raster.NY), .slice (A0_0) ((p0.Cells).length) (c0_0)], .int .i64 (p1)] w fun v Ln => ∃ (A0 : Option Addr) (c0 : Nat), v = .tuple #[.agg #[.int .i64 (r.1.Raster.X0), .int .i64 (r.1.Raster.Y0), .int .i64 (r.1.Raster.Step), .int .i64 (r.1.Raster.NX), .int .i64 (r.1.Raster.NY), .slice (A0) ((r.1.Cells).length) (c0)], .int .i64 (r.2)] ∧ Ln = [.r A0 (r.1.Cells).length c0 41 3 ((r.1.Cells).flatMap e_api_Cell)] ∧ True := by
  have ha0' := Has.up0 ha0
  refine CtL.mk 57 Try.func43 rfl Try.ntmps43 (by kernel_rfl) rfl ?_
  show T 57 _ [(0, .agg #[.int .i64 (p0.Raster.X0), .int .i64 (p0.Raster.Y0), .int .i64 (p0.Raster.Step), .int .i64 (p0.Raster.NX), .int .i64 (p0.Raster.NY), .slice (A0_0) ((p0.Cells).length) (c0_0)]), (1, .int .i64 (p1))] _
  unfold model_Thin at hx
  refine T_seq ?_
  refine T_reg ?_
  refine T_x (Wx_box rfl rfl rfl (fun g1 => ?_))
  refine T_x (Wx_alloc zer26 rfl (fun g2 => ?_))
  refine T_val (Ev_assign rfl) rfl ?_
  refine T_nil ?_
  refine T_next ?_
  refine T_seq ?_
  refine T_seq ?_
  refine T_reg ?_
  refine T_val (Ev_loadK rfl (i := 1) rfl rfl agg26) rfl ?_
  refine T_val (Ev_move rfl) rfl ?_
  obtain ⟨r3, h4, hx5⟩ := bnd_some hx
  refine T_x (Wx_callL rfl (fun w1 hw1 => model_refused_ok p0 p1 (Has.len' ha0') h4 w1 (okApp (K := K) (K2 := []) hK (by exact (SubE.cons2 (i := 2) rfl (SubE.nil))) (by exact (SubE.nil)) hw1)) rfl ?_)
  rintro _ _ hlo ⟨rfl, rfl, -⟩
  refine T_app0 ?_
  refine T_val (Ev_assign rfl) rfl ?_
  refine T_nil ?_
  refine T_next ?_
  refine T_seq ?_
  refine T_reg ?_
  refine T_val (Ev_move rfl) rfl ?_
  refine T_val (Ev_neq rfl rfl) rfl ?_
  refine T_nil ?_
  refine T_next ?_
  refine T_caseNP (s := 14) rfl (fun h6 => ?_) (fun h6 => ?_)
  · have hx7 := ite_f h6 hx5
    refine T_condT rfl ?_
    refine T_seq ?_
    refine T_reg ?_
    refine T_val (Ev_build rfl (bld26_)) rfl ?_
    refine T_val (Ev_move rfl) rfl ?_
    refine T_h (Wh_store rfl rfl rfl (.here) (.put (.put (.put (.put (.put (.put (.done))))))) rfl (List.cons_ne_nil _ _) agg26.2 ?_)
    refine T_val (Ev_assign rfl) rfl ?_
    refine T_nil ?_
    refine T_next ?_
    refine T_retc ?_
    refine T_outR ?_
    refine T_none 41 3 ?_
    obtain rfl := Option.some.inj hx7
    exact T_retP (rs := [.cell 4 26, .tmp 5]) Try.results43 (.cell rfl (i := 1) rfl rfl agg26 (.tmp rfl (.nil))) (Ln := [.r (none) (0) (0) 41 3 ((([] : List S_api_Cell)).flatMap e_api_Cell)]) ⟨none, 0, rfl, rfl, trivial⟩ (loCons rfl (loNil)) (by exact .pick 0 rfl (.drop 0 rfl (.drop 0 rfl (.refl))))
  · have hx8 := ite_t h6 hx5
    refine T_condF rfl ?_
    refine T_skip ?_
    refine T_next ?_
    refine T_seq ?_
    refine T_reg ?_
    refine T_val (Ev_field rfl fld26_0 rfl) rfl ?_
    refine T_val (Ev_loadK rfl (i := 1) rfl rfl agg23) rfl ?_
    refine T_val (Ev_move rfl) rfl ?_
    obtain ⟨r9, h10, hx11⟩ := bnd_some hx8
    refine T_x (Wx_callL rfl (fun w1 hw1 => model_reduced_ok p0.Raster p1  h10 w1) rfl ?_)
    rintro _ _ hlo ⟨rfl, rfl, -⟩
    refine T_app0 ?_
    refine T_val (Ev_build rfl (bld26_0ai64i64i64i64i64 _ _ _ _ _)) rfl ?_
    refine T_x (Wx_alloc zer26 rfl (fun g12 => ?_))
    refine T_h (Wh_store rfl rfl rfl (.here) (.put (.put (.put (.put (.put (.put (.done))))))) rfl (List.cons_ne_nil _ _) agg26.2 ?_)
    refine T_nil ?_
    refine T_next ?_
    obtain ⟨j7, hj7, hx11⟩ := jn_some hx11
    refine T_cutP (τ := List S_api_Cell) (γ := (Option Addr) × Nat) (J := j7) (out := r) (fun s7 y7 => [(4, .pointer (some ⟨g2, 0, none⟩)), (7, .pointer (some ⟨g12, 0, none⟩))]) (fun s7 y7 => [.r (y7.1) ((s7).length) (y7.2) 41 3 ((s7).flatMap e_api_Cell), .m g12 26 [.int .i64 (r9.X0), .int .i64 (r9.Y0), .int .i64 (r9.Step), .int .i64 (r9.NX), .int .i64 (r9.NY), .slice (y7.1) ((s7).length) (y7.2)], .m g2 26 [.int .i64 (0), .int .i64 (0), .int .i64 (0), .int .i64 (0), .int .i64 (0), .slice (none) (0) (0)]] ++ [.old w]) (fun s7 y7 => True) ?_ ?_
    · intro s7 y7 hx107 hG108
      subst hj7
      refine T_seq ?_
      refine T_reg ?_
      refine T_val (Ev_loadK rfl (i := 1) rfl rfl agg26) rfl ?_
      refine T_h (Wh_store rfl rfl rfl (.there (.there (.here))) (.put (.put (.put (.put (.put (.put (.done))))))) rfl (List.cons_ne_nil _ _) agg26.2 ?_)
      refine T_val (Ev_assign rfl) rfl ?_
      refine T_nil ?_
      refine T_next ?_
      refine T_retc ?_
      obtain rfl := Option.some.inj hx107
      exact T_retP (rs := [.cell 4 26, .tmp 5]) Try.results43 (.cell rfl (i := 2) rfl rfl agg26 (.tmp rfl (.nil))) (Ln := [.r (y7.1) ((s7).length) (y7.2) 41 3 ((s7).flatMap e_api_Cell)]) ⟨y7.1, y7.2, rfl, rfl, trivial⟩ (loCons rfl (loNil)) (by exact .pick 0 rfl (.drop 0 rfl (.drop 0 rfl (.refl))))
    · skip
      refine T_seq ?_
      refine T_reg ?_
      refine T_val (Ev_field rfl fld26_0 rfl) rfl ?_
      refine T_val (Ev_field rfl fld23_4 rfl) rfl ?_
      refine T_val (Ev_load1 rfl (i := 0) rfl rfl one3) rfl ?_
      refine T_val (Ev_move rfl) rfl ?_
      refine T_nil ?_
      refine T_next ?_
      refine T_block ?_
      obtain ⟨t60, hl60, ho60⟩ := bnd_some hx11
      refine T_none 41 3 ?_
      have hn61 : 0 = (([] : List S_api_Cell)).length := by simp [setI_len, cpy_len, List.length_append] <;> omega
      refine T_ent (.here) (e' := .r (none) ((([] : List S_api_Cell)).length) (0) 41 3 ((([] : List S_api_Cell)).flatMap e_api_Cell)) (by first | (rw [← hn61]; done) | rfl) ?_
      refine T_loopP (σ := (List S_api_Cell) × Int) (γ := (Option Addr) × Nat) hl60 (fun s60 y60 => [(1, .int .i64 (p1)), (2, .pointer (some ⟨g1, 0, none⟩)), (4, .pointer (some ⟨g2, 0, none⟩)), (7, .pointer (some ⟨g12, 0, none⟩)), (24, .int .i64 (r9.NY)), (25, .int .i64 (s60.2))]) (fun s60 y60 => [.r (y60.1) ((s60.1).length) (y60.2) 41 3 ((s60.1).flatMap e_api_Cell), .m g12 26 [.int .i64 (r9.X0), .int .i64 (r9.Y0), .int .i64 (r9.Step), .int .i64 (r9.NX), .int .i64 (r9.NY), .slice (y60.1) ((s60.1).length) (y60.2)], .m g2 26 [.int .i64 (0), .int .i64 (0), .int .i64 (0), .int .i64 (0), .int .i64 (0), .slice (none) (0) (0)], .m g1 26 [.int .i64 (p0.Raster.X0), .int .i64 (p0.Raster.Y0), .int .i64 (p0.Raster.Step), .int .i64 (p0.Raster.NX), .int .i64 (p0.Raster.NY), .slice (A0_0) ((p0.Cells).length) (c0_0)]] ++ [.old w]) (fun s60 y60 => True) (none, 0) trivial (by exact .cons rfl (.cons rfl (.cons rfl (.cons rfl (.cons rfl (.cons rfl (.nil))))))) (by exact .pick 0 rfl (.pick 0 rfl (.pick 0 rfl (.pick 0 rfl (.refl))))) ?_
      intro s60 y60 hG60 x60 hx60 ht60
      unfold model_Thin_l6 at hx60
      refine T_seq ?_
      refine T_reg ?_
      refine T_val (Ev_lss rfl rfl) rfl ?_
      refine T_nil ?_
      refine T_next ?_
      refine T_seq ?_
      refine T_caseP (s := 26) rfl (fun h62 => ?_) (fun h62 => ?_)
      · have hx63 := ite_t h62 hx60
        refine T_condT rfl ?_
        refine T_skip ?_
        refine T_next ?_
        obtain ⟨j24, hj24, hx63⟩ := jn_some hx63
        refine T_cutP (τ := List S_api_Cell) (γ := (Option Addr) × Nat) (J := j24) (out := x60) (fun s24 y24 => [(1, .int .i64 (p1)), (2, .pointer (some ⟨g1, 0, none⟩)), (4, .pointer (some ⟨g2, 0, none⟩)), (7, .pointer (some ⟨g12, 0, none⟩)), (24, .int .i64 (r9.NY)), (25, .int .i64 (s60.2))]) (fun s24 y24 => [.r (y24.1) ((s24).length) (y24.2) 41 3 ((s24).flatMap e_api_Cell), .m g12 26 [.int .i64 (r9.X0), .int .i64 (r9.Y0), .int .i64 (r9.Step), .int .i64 (r9.NX), .int .i64 (r9.NY), .slice (y24.1) ((s24).length) (y24.2)], .m g2 26 [.int .i64 (0), .int .i64 (0), .int .i64 (0), .int .i64 (0), .int .i64 (0), .slice (none) (0) (0)], .m g1 26 [.int .i64 (p0.Raster.X0), .int .i64 (p0.Raster.Y0), .int .i64 (p0.Raster.Step), .int .i64 (p0.Raster.NX), .int .i64 (p0.Raster.NY), .slice (A0_0) ((p0.Cells).length) (c0_0)]] ++ [.old w]) (fun s24 y24 => True) ?_ ?_
        · intro s24 y24 hx105 hG106
          subst hj24
          refine T_reg ?_
          refine T_val (Ev_add_w64 rfl rfl) rfl ?_
          refine T_val (Ev_move rfl) rfl ?_
          refine T_nil ?_
          exact T_roundP (s24, w64 (s60.2 + 1)) (y24.1, y24.2) hx105 trivial (by exact .cons rfl (.cons rfl (.cons rfl (.cons rfl (.cons rfl (.cons rfl (.nil))))))) (by exact .pick 0 rfl (.pick 0 rfl (.pick 0 rfl (.pick 0 rfl (.refl)))))
        · skip
          refine T_block ?_
          refine T_seq ?_
          refine T_reg ?_
          refine T_val (Ev_move rfl) rfl ?_
          refine T_val (Ev_assign rfl) rfl ?_
          refine T_nil ?_
          refine T_next ?_
          refine T_seq ?_
          refine T_reg ?_
          refine T_val (Ev_field rfl fld26_0 rfl) rfl ?_
          refine T_val (Ev_field rfl fld23_3 rfl) rfl ?_
          refine T_val (Ev_load1 rfl (i := 1) rfl rfl one3) rfl ?_
          refine T_val (Ev_move rfl) rfl ?_
          refine T_nil ?_
          refine T_next ?_
          refine T_block ?_
          obtain ⟨t85, hl85, ho85⟩ := bnd_some hx63
          refine T_loopP (σ := (List S_api_Cell) × Int) (γ := (Option Addr) × Nat) hl85 (fun s85 y85 => [(1, .int .i64 (p1)), (2, .pointer (some ⟨g1, 0, none⟩)), (4, .pointer (some ⟨g2, 0, none⟩)), (7, .pointer (some ⟨g12, 0, none⟩)), (8, .int .i64 (s60.2)), (24, .int .i64 (r9.NY)), (25, .int .i64 (s60.2)), (30, .int .i64 (r9.NX)), (31, .int .i64 (s85.2))]) (fun s85 y85 => [.r (y85.1) ((s85.1).length) (y85.2) 41 3 ((s85.1).flatMap e_api_Cell), .m g12 26 [.int .i64 (r9.X0), .int .i64 (r9.Y0), .int .i64 (r9.Step), .int .i64 (r9.NX), .int .i64 (r9.NY), .slice (y85.1) ((s85.1).length) (y85.2)], .m g2 26 [.int .i64 (0), .int .i64 (0), .int .i64 (0), .int .i64 (0), .int .i64 (0), .slice (none) (0) (0)], .m g1 26 [.int .i64 (p0.Raster.X0), .int .i64 (p0.Raster.Y0), .int .i64 (p0.Raster.Step), .int .i64 (p0.Raster.NX), .int .i64 (p0.Raster.NY), .slice (A0_0) ((p0.Cells).length) (c0_0)]] ++ [.old w]) (fun s85 y85 => True) (y60.1, y60.2) trivial (by exact .cons rfl (.cons rfl (.cons rfl (.cons rfl (.cons rfl (.cons rfl (.cons rfl (.cons rfl (.cons rfl (.nil)))))))))) (by exact .pick 0 rfl (.pick 0 rfl (.pick 0 rfl (.pick 0 rfl (.refl))))) ?_
          intro s85 y85 hG85 x85 hx85 ht85
          unfold model_Thin_l9 at hx85
          refine T_seq ?_
          refine T_reg ?_
          refine T_val (Ev_lss rfl rfl) rfl ?_
          refine T_nil ?_
          refine T_next ?_
          refine T_seq ?_
          refine T_caseP (s := 32) rfl (fun h86 => ?_) (fun h86 => ?_)
          · have hx87 := ite_t h86 hx85
            refine T_condT rfl ?_
            refine T_skip ?_
            refine T_next ?_
            refine T_seq ?_
            refine T_block ?_
            refine T_seq ?_
            refine T_reg ?_
            refine T_val (Ev_move rfl) rfl ?_
            refine T_val (Ev_assign rfl) rfl ?_
            refine T_nil ?_
            refine T_next ?_
            refine T_draw [0, 1, 0, 1, 0, 0, 0, 0, 0, 1, 0, 0, 0, 0, 0, 0, 1, 2, 3, 0, 3] [[], [0], [], [2], [], [], [4, 5], [], [7], [7, 8], [4, 5, 6, 7, 8, 9], [], [], [11, 12], [4, 5, 6, 7, 8, 9, 10, 11, 12, 13], [2, 3, 4, 5, 6, 7, 8, 9, 10, 11, 12, 13, 14], [2, 3, 4, 5, 6, 7, 8, 9, 10, 11, 12, 13, 14, 15], [2, 3, 4, 5, 6, 7, 8, 9, 10, 11, 12, 13, 14, 15, 16], [0, 1, 2, 3, 4, 5, 6, 7, 8, 9, 10, 11, 12, 13, 14, 15, 16, 17], [0, 1, 2, 3, 4, 5, 6, 7, 8, 9, 10, 11, 12, 13, 14, 15, 16, 17, 18], [0, 1, 2, 3, 4, 5, 6, 7, 8, 9, 10, 11, 12, 13, 14, 15, 16, 17, 18, 19]] (.q 0 (.q 1 (.q 2 (.q 3 (.q 4 (.q 5 (.q 6 (.q 7 (.q 8 (.q 9 (.q 10 (.q 11 (.q 12 (.q 13 (.q 14 (.q 15 (.q 16 (.e 17 (.e 18 (.q 19 (.e 20 (.done) (.stop))) (.stop)) (.stop))))))))))))))))))) mixed (by kernel_rfl) (by kernel_rfl) ?_
            refine P_p rfl rfl (Ev_field rfl fld26_1 rfl) rfl ?_
            refine P_q rfl rfl (Ev_load1 rfl (i := 1) rfl rfl one24) rfl ?_
            refine P_p rfl rfl (Ev_field rfl fld26_1 rfl) rfl ?_
            refine P_q rfl rfl (Ev_load1 rfl (i := 3) rfl rfl one24) rfl ?_
            refine P_p rfl rfl (Ev_move rfl) rfl ?_
            refine P_p rfl rfl (Ev_move rfl) rfl ?_
            refine P_p rfl rfl (Ev_mul_w64 rfl rfl) rfl ?_
            refine P_p rfl rfl (Ev_field rfl fld26_0 rfl) rfl ?_
            refine P_p rfl rfl (Ev_field rfl fld23_3 rfl) rfl ?_
            refine P_q rfl rfl (Ev_load1 rfl (i := 3) rfl rfl one3) rfl ?_
            refine P_p rfl rfl (Ev_mul_w64 rfl rfl) rfl ?_
            refine P_p rfl rfl (Ev_move rfl) rfl ?_
            refine P_p rfl rfl (Ev_move rfl) rfl ?_
            refine P_p rfl rfl (Ev_mul_w64 rfl rfl) rfl ?_
            refine P_p rfl rfl (Ev_add_w64 rfl rfl) rfl ?_
            obtain ⟨x89, h90, hx91⟩ := bnd_some hx87
            have hw99 := Has.low (E := []) ha0' hK
            obtain ⟨b92, o93, j94, hA95, hj96, hl97, hp98⟩ := Has.at_idx hw99 h90
            refine P_p rfl rfl (Ev_index rfl rfl hA95 (j := j94) hj96 hl97 slc24) rfl ?_
            refine P_q rfl rfl (Ev_loadPK0 rfl hp98 (SubE.cons2 (i := 4) rfl (SubE.nil)) rfl agg41) rfl ?_
            refine P_x rfl (Wx_buildSlice rfl (bls24_1_0abi64i64 _ _ _) rfl (fun g100 => ?_)) ?_
            rotate_left; exact P_stop
            obtain ⟨h101, hx102⟩ := gd_some hx91
            refine P_h rfl rfl (Wh_appendP e_api_Cell (s85.1) [x89] rfl rfl rfl elm24 (fun _ => rfl) (i' := 0) rfl rfl rfl rfl h101 rfl (fun _ _ => .there (.here)) (fun _ _ => .drop .refl) (by decide) (fun A103 c104 => ?_)) ?_
            rotate_left; exact P_stop
            refine P_p rfl rfl (Ev_field rfl fld26_1 rfl) rfl ?_
            refine P_h rfl rfl (Wh_store rfl rfl rfl (.there (.here)) (.skip (.skip (.skip (.skip (.skip (.put (.done))))))) rfl (List.cons_ne_nil _ _) one24.2 ?_) ?_
            rotate_left; exact P_stop
            refine P_done ?_
            refine T_inN ?_
            refine T_next ?_
            refine T_reg ?_
            refine T_val (Ev_add_w64 rfl rfl) rfl ?_
            refine T_val (Ev_move rfl) rfl ?_
            refine T_nil ?_
            exact T_roundP (s85.1 ++ [x89], w64 (s85.2 + 1)) (A103, c104) hx102 trivial (by exact .cons rfl (.cons rfl (.cons rfl (.cons rfl (.cons rfl (.cons rfl (.cons rfl (.cons rfl (.cons rfl (.nil)))))))))) (by exact .pick 0 rfl (.pick 0 rfl (.pick 0 rfl (.pick 0 rfl (.refl)))))
          · have hx88 := ite_f h86 hx85
            refine T_condF rfl ?_
            refine T_exit ?_
            refine T_outX ?_
            obtain rfl := exit_eq ht85 hx88
            refine T_outX ?_
            refine T_here ?_
            refine T_inN ?_
            exact T_metP s85.1 (y85.1, y85.2) ho85 trivial (by exact .cons rfl (.cons rfl (.cons rfl (.cons rfl (.cons rfl (.cons rfl (.nil))))))) (by exact .pick 0 rfl (.pick 0 rfl (.pick 0 rfl (.pick 0 rfl (.refl)))))
      · have hx64 := ite_f h62 hx60
        refine T_condF rfl ?_
        refine T_exit ?_
        refine T_outX ?_
        obtain rfl := exit_eq ht60 hx64
        refine T_outX ?_
        refine T_here ?_
        exact T_metP s60.1 (y60.1, y60.2) ho60 trivial (by exact .cons rfl (.cons rfl (.nil))) (by exact .pick 0 rfl (.pick 0 rfl (.pick 0 rfl (.drop 0 rfl (.refl)))))
set_option maxRecDepth 100000 in
theorem lidarref09_coarser_ok (p0 : S_api_Raster) (p1 : Int)  {r : S_api_Raster × Bool} (hx : lidarref09_coarser p0 p1 = some r) (w : World) : CtL Try.prog 83 [.agg #[.int .i64 (p0.X0), .int .i64 (p0.Y0), .int .i64 (p0.Step), .int .i64 (p0.NX), .int .i64 (p0.NY)], .int .i64 (p1)] w fun v Ln => v = .tuple #[.agg #[.int .i64 (r.1.X0), .int .i64 (r.1.Y0), .int .i64 (r.1.Step), .int .i64 (r.1.NX), .int .i64 (r.1.NY)], .bool (r.2)] ∧ Ln = [] ∧ True := by
  refine CtL.mk 42 Try.func83 rfl Try.ntmps83 (by kernel_rfl) rfl ?_
  show T 42 _ [(0, .agg #[.int .i64 (p0.X0), .int .i64 (p0.Y0), .int .i64 (p0.Step), .int .i64 (p0.NX), .int .i64 (p0.NY)]), (1, .int .i64 (p1))] _
  unfold lidarref09_coarser at hx
  refine T_seq ?_
  refine T_reg ?_
  refine T_x (Wx_box rfl rfl rfl (fun g1 => ?_))
  refine T_x (Wx_alloc zer23 rfl (fun g2 => ?_))
  refine T_val (Ev_assign rfl) rfl ?_
  refine T_nil ?_
  refine T_next ?_
  refine T_seq ?_
  obtain ⟨j3, hj3, hx⟩ := jn_some hx
  refine T_cutP (τ := Bool) (γ := Unit) (J := j3) (out := r) (fun s3 y3 => [(1, .int .i64 (p1)), (2, .pointer (some ⟨g1, 0, none⟩)), (4, .pointer (some ⟨g2, 0, none⟩)), (18, .bool (s3))]) (fun s3 y3 => [.m g2 23 [.int .i64 (0), .int .i64 (0), .int .i64 (0), .int .i64 (0), .int .i64 (0)], .m g1 23 [.int .i64 (p0.X0), .int .i64 (p0.Y0), .int .i64 (p0.Step), .int .i64 (p0.NX), .int .i64 (p0.NY)]] ++ [.old w]) (fun s3 y3 => True) ?_ ?_
  · intro s3 y3 hx9 hG10
    subst hj3
    refine T_caseB (s := 18) rfl (fun h11 => ?_) (fun h11 => ?_)
    · have hx12 := ite_t h11 hx9
      refine T_condT rfl ?_
      refine T_seq ?_
      refine T_reg ?_
      refine T_val (Ev_loadK rfl (i := 1) rfl rfl agg23) rfl ?_
      refine T_h (Wh_store rfl rfl rfl (.here) (.put (.put (.put (.put (.put (.done)))))) rfl (List.cons_ne_nil _ _) agg23.2 ?_)
      refine T_val (Ev_assign rfl) rfl ?_
      refine T_nil ?_
      refine T_next ?_
      refine T_retc ?_
      refine T_outR ?_
      obtain rfl := Option.some.inj hx12
      exact T_retP (rs := [.cell 4 23, .tmp 5]) Try.results83 (.cell rfl (i := 0) rfl rfl agg23 (.tmp rfl (.nil))) (Ln := []) ⟨rfl, rfl, trivial⟩ (loNil) (by exact .drop 0 rfl (.drop 0 rfl (.refl)))
    · have hx13 := ite_bf h11 hx9
      refine T_condF rfl ?_
      refine T_skip ?_
      refine T_next ?_
      refine T_seq ?_
      refine T_reg ?_
      refine T_val (Ev_field rfl fld23_2 rfl) rfl ?_
      refine T_val (Ev_load1 rfl (i := 1) rfl rfl one3) rfl ?_
      refine T_val (Ev_move rfl) rfl ?_
      refine T_val (Ev_mul_w64 rfl rfl) rfl ?_
      refine T_val (Ev_field rfl fld23_2 rfl) rfl ?_
      refine T_h (Wh_store rfl rfl rfl (.there (.here)) (.skip (.skip (.put (.done)))) rfl (List.cons_ne_nil _ _) one3.2 ?_)
      refine T_nil ?_
      refine T_next ?_
      refine T_seq ?_
      refine T_draw [0, 1, 0, 0, 0, 0, 0, 0, 1, 0, 0, 0, 0, 0, 0, 3, 0, 3] [[], [0], [], [0, 1, 2], [0, 1, 2, 3], [], [0, 1, 2, 3, 4, 5], [], [7], [], [7, 8, 9], [7, 8, 9, 10], [], [7, 8, 9, 10, 11, 12], [0, 1, 2, 3, 4, 5, 6, 7, 8], [0, 1, 2, 3, 4, 5, 6, 7, 8, 14], [0, 1, 2, 3, 4, 5, 6, 7, 8, 9, 10, 11, 12, 13, 14, 15], [0, 1, 2, 3, 4, 5, 6, 7, 8, 9, 10, 11, 12, 13, 14, 15, 16]] (.q 0 (.q 1 (.q 2 (.q 3 (.q 4 (.q 5 (.q 6 (.q 7 (.q 8 (.q 9 (.q 10 (.q 11 (.q 12 (.q 13 (.q 14 (.e 15 (.q 16 (.e 17 (.done) (.stop))) (.stop))))))))))))))))) mixed (by kernel_rfl) (by kernel_rfl) ?_
      refine P_p rfl rfl (Ev_field rfl fld23_3 rfl) rfl ?_
      refine P_q rfl rfl (Ev_load1 rfl (i := 1) rfl rfl one3) rfl ?_
      refine P_p rfl rfl (Ev_move rfl) rfl ?_
      refine P_p rfl rfl (Ev_add_w64 rfl rfl) rfl ?_
      refine P_p rfl rfl (Ev_sub_w64 rfl rfl) rfl ?_
      refine P_p rfl rfl (Ev_move rfl) rfl ?_
      obtain ⟨h14, hx15⟩ := gd_some hx13
      refine P_p rfl rfl (Ev_quo_w64 rfl rfl h14) rfl ?_
      refine P_p rfl rfl (Ev_field rfl fld23_4 rfl) rfl ?_
      refine P_q rfl rfl (Ev_load1 rfl (i := 1) rfl rfl one3) rfl ?_
      refine P_p rfl rfl (Ev_move rfl) rfl ?_
      refine P_p rfl rfl (Ev_add_w64 rfl rfl) rfl ?_
      refine P_p rfl rfl (Ev_sub_w64 rfl rfl) rfl ?_
      refine P_p rfl rfl (Ev_move rfl) rfl ?_
      obtain ⟨h16, hx17⟩ := gd_some hx15
      refine P_p rfl rfl (Ev_quo_w64 rfl rfl h16) rfl ?_
      refine P_p rfl rfl (Ev_field rfl fld23_3 rfl) rfl ?_
      refine P_h rfl rfl (Wh_store rfl rfl rfl (.there (.here)) (.skip (.skip (.skip (.put (.done))))) rfl (List.cons_ne_nil _ _) one3.2 ?_) ?_
      rotate_left; exact P_stop
      refine P_p rfl rfl (Ev_field rfl fld23_4 rfl) rfl ?_
      refine P_h rfl rfl (Wh_store rfl rfl rfl (.there (.here)) (.skip (.skip (.skip (.skip (.put (.done)))))) rfl (List.cons_ne_nil _ _) one3.2 ?_) ?_
      rotate_left; exact P_stop
      refine P_done ?_
      refine T_next ?_
      refine T_seq ?_
      refine T_reg ?_
      refine T_val (Ev_loadK rfl (i := 1) rfl rfl agg23) rfl ?_
      refine T_h (Wh_store rfl rfl rfl (.here) (.put (.put (.put (.put (.put (.done)))))) rfl (List.cons_ne_nil _ _) agg23.2 ?_)
      refine T_val (Ev_assign rfl) rfl ?_
      refine T_nil ?_
      refine T_next ?_
      refine T_retc ?_
      obtain rfl := Option.some.inj hx17
      exact T_retP (rs := [.cell 4 23, .tmp 5]) Try.results83 (.cell rfl (i := 0) rfl rfl agg23 (.tmp rfl (.nil))) (Ln := []) ⟨rfl, rfl, trivial⟩ (loNil) (by exact .drop 0 rfl (.drop 0 rfl (.refl)))
  · skip
    refine T_reg ?_
    refine T_val (Ev_move rfl) rfl ?_
    refine T_val (Ev_lss rfl rfl) rfl ?_
    refine T_val (Ev_move rfl) rfl ?_
    refine T_caseP (s := 8) rfl (fun h3 => ?_) (fun h3 => ?_)
    · have hx4 := ite_t h3 hx
      refine T_skipG rfl rfl rfl rfl rfl ?_
      refine T_skipG rfl rfl rfl rfl rfl ?_
      refine T_val (Ev_pickT rfl rfl) rfl ?_
      refine T_val (Ev_move rfl) rfl ?_
      refine T_skipG rfl rfl rfl rfl rfl ?_
      refine T_skipG rfl rfl rfl rfl rfl ?_
      refine T_skipG rfl rfl rfl rfl rfl ?_
      refine T_skipG rfl rfl rfl rfl rfl ?_
      refine T_skipG rfl rfl rfl rfl rfl ?_
      refine T_val (Ev_pickT rfl rfl) rfl ?_
      refine T_nil ?_
      exact T_metP true () hx4 trivial (by exact .cons rfl (.cons rfl (.cons rfl (.cons rfl (.nil))))) (by exact .pick 0 rfl (.pick 0 rfl (.refl)))
    · have hx5 := ite_f h3 hx
      refine T_valG rfl rfl rfl (Ev_move rfl) rfl ?_
      refine T_valG rfl rfl rfl (Ev_gtr rfl rfl) rfl ?_
      refine T_val (Ev_pickF rfl rfl) rfl ?_
      refine T_val (Ev_move rfl) rfl ?_
      refine T_caseP (s := 12) rfl (fun h6 => ?_) (fun h6 => ?_)
      · have hx7 := ite_t h6 hx5
        refine T_skipG rfl rfl rfl rfl rfl ?_
        refine T_skipG rfl rfl rfl rfl rfl ?_
        refine T_skipG rfl rfl rfl rfl rfl ?_
        refine T_skipG rfl rfl rfl rfl rfl ?_
        refine T_skipG rfl rfl rfl rfl rfl ?_
        refine T_val (Ev_pickT rfl rfl) rfl ?_
        refine T_nil ?_
        exact T_metP true () hx7 trivial (by exact .cons rfl (.cons rfl (.cons rfl (.cons rfl (.nil))))) (by exact .pick 0 rfl (.pick 0 rfl (.refl)))
      · have hx8 := ite_f h6 hx5
        refine T_valG rfl rfl rfl (Ev_field rfl fld23_2 rfl) rfl ?_
        refine T_valG rfl rfl rfl (Ev_load1 rfl (i := 1) rfl rfl one3) rfl ?_
        refine T_valG rfl rfl rfl (Ev_move rfl) rfl ?_
        refine T_valG rfl rfl rfl (Ev_mul_w64 rfl rfl) rfl ?_
        refine T_valG rfl rfl rfl (Ev_gtr rfl rfl) rfl ?_
        refine T_val (Ev_pickF rfl rfl) rfl ?_
        refine T_nil ?_
        exact T_metP (decide (1000000 < (w64 (p0.Step * p1)))) () hx8 trivial (by exact .cons rfl (.cons rfl (.cons rfl (.cons rfl (.nil))))) (by exact .pick 0 rfl (.pick 0 rfl (.refl)))
set_option maxRecDepth 100000 in
theorem lidarref09_Thin_ok (p0 : S_api_Grid) (p1 : Int) (p2 : Bool) {K : List Ent} {A0_0 : Option Addr} {c0_0 : Nat} (ha0 : Has K A0_0 (p0.Cells).length c0_0 3 e_api_Cell (p0.Cells)) {r : S_api_Grid × Int} (hx : lidarref09_Thin p0 p1 p2 = some r) (w : World) (hK : ∀ e ∈ K, Ent.ok w e) : CtL Try.prog 44 [.agg #[.int .i64 (p0.Raster.X0), .int .i64 (p0.Raster.Y0), .int .i64 (p0.Raster.Step), .int .i64 (p0.Raster.NX), .int .i64 (p0.Raster.NY), .slice (A0_0) ((p0.Cells).length) (c0_0)], .int .i64 (p1), .bool (p2)] w fun v Ln => ∃ (A0 : Option Addr) (c0 : Nat), v = .tuple #[.agg #[.int .i64 (r.1.Raster.X0), .int .i64 (r.1.Raster.Y0), .int .i64 (r.1.Raster.Step), .int .i64 (r.1.Raster.NX), .int .i64 (r.1.Raster.NY), .slice (A0) ((r.1.Cells).length) (c0)], .int .i64 (r.2)] ∧ Ln = [.r A0 (r.1.Cells).length c0 41 3 ((r.1.Cells).flatMap e_api_Cell)] ∧ True := by
  have ha0' := Has.up0 ha0
  refine CtL.mk 124 Try.func44 rfl Try.ntmps44 (by kernel_rfl) rfl ?_
  show T 124 _ [(0, .agg #[.int .i64 (p0.Raster.X0), .int .i64 (p0.Raster.Y0), .int .i64 (p0.Raster.Step), .int .i64 (p0.Raster.NX), .int .i64 (p0.Raster.NY), .slice (A0_0) ((p0.Cells).length) (c0_0)]), (1, .int .i64 (p1)), (2, .bool (p2))] _
  unfold lidarref09_Thin at hx
  refine T_seq ?_
  refine T_reg ?_
  refine T_x (Wx_box rfl rfl rfl (fun g1 => ?_))
  refine T_x (Wx_alloc zer26 rfl (fun g2 => ?_))
  refine T_val (Ev_assign rfl) rfl ?_
  refine T_nil ?_
  refine T_next ?_
  refine T_seq ?_
  refine T_seq ?_
  refine T_reg ?_
  refine T_val (Ev_loadK rfl (i := 1) rfl rfl agg26) rfl ?_
  obtain ⟨r3, h4, hx5⟩ := bnd_some hx
  refine T_x (Wx_callL rfl (fun w1 hw1 => lidarref09_Valid_ok p0 (Has.len' ha0') h4 w1 (okApp (K := K) (K2 := []) hK (by exact (SubE.cons2 (i := 2) rfl (SubE.nil))) (by exact (SubE.nil)) hw1)) rfl ?_)
  rintro _ _ hlo ⟨rfl, rfl, -⟩
  refine T_app0 ?_
  refine T_val (Ev_not rfl) rfl ?_
  refine T_nil ?_
  refine T_next ?_
  refine T_caseNB (s := 21) rfl (fun h6 => ?_) (fun h6 => ?_)
  · have hx7 := ite_bf h6 hx5
    refine T_condT rfl ?_
    refine T_seq ?_
    refine T_reg ?_
    refine T_val (Ev_build rfl (bld26_)) rfl ?_
    refine T_h (Wh_store rfl rfl rfl (.here) (.put (.put (.put (.put (.put (.put (.done))))))) rfl (List.cons_ne_nil _ _) agg26.2 ?_)
    refine T_val (Ev_assign rfl) rfl ?_
    refine T_nil ?_
    refine T_next ?_
    refine T_retc ?_
    refine T_outR ?_
    refine T_none 41 3 ?_
    obtain rfl := Option.some.inj hx7
    exact T_retP (rs := [.cell 6 26, .tmp 7]) Try.results44 (.cell rfl (i := 1) rfl rfl agg26 (.tmp rfl (.nil))) (Ln := [.r (none) (0) (0) 41 3 ((([] : List S_api_Cell)).flatMap e_api_Cell)]) ⟨none, 0, rfl, rfl, trivial⟩ (loCons rfl (loNil)) (by exact .pick 0 rfl (.drop 0 rfl (.drop 0 rfl (.refl))))
  · have hx8 := ite_t h6 hx5
    refine T_condF rfl ?_
    refine T_skip ?_
    refine T_next ?_
    refine T_seq ?_
    refine T_reg ?_
    refine T_val (Ev_field rfl fld26_0 rfl) rfl ?_
    refine T_val (Ev_loadK rfl (i := 1) rfl rfl agg23) rfl ?_
    refine T_val (Ev_move rfl) rfl ?_
    obtain ⟨r9, h10, hx11⟩ := bnd_some hx8
    refine T_x (Wx_callL rfl (fun w1 hw1 => lidarref09_coarser_ok p0.Raster p1  h10 w1) rfl ?_)
    rintro _ _ hlo ⟨rfl, rfl, -⟩
    refine T_app0 ?_
    refine T_val (Ev_move rfl) rfl ?_
    refine T_val (Ev_extract rfl rfl) rfl ?_
    refine T_val (Ev_extract rfl rfl) rfl ?_
    refine T_x (Wx_alloc zer23 rfl (fun g12 => ?_))
    refine T_h (Wh_store rfl rfl rfl (.here) (.put (.put (.put (.put (.put (.done)))))) rfl (List.cons_ne_nil _ _) agg23.2 ?_)
    refine T_val (Ev_assign rfl) rfl ?_
    refine T_nil ?_
    refine T_next ?_
    refine T_seq ?_
    refine T_seq ?_
    refine T_reg ?_
    refine T_val (Ev_move rfl) rfl ?_
    refine T_val (Ev_not rfl) rfl ?_
    refine T_nil ?_
    refine T_next ?_
    refine T_caseNB (s := 31) rfl (fun h13 => ?_) (fun h13 => ?_)
    · have hx14 := ite_bf h13 hx11
      refine T_condT rfl ?_
      refine T_seq ?_
      refine T_reg ?_
      refine T_val (Ev_build rfl (bld26_)) rfl ?_
      refine T_h (Wh_store rfl rfl rfl (.there (.here)) (.put (.put (.put (.put (.put (.put (.done))))))) rfl (List.cons_ne_nil _ _) agg26.2 ?_)
      refine T_val (Ev_assign rfl) rfl ?_
      refine T_nil ?_
      refine T_next ?_
      refine T_retc ?_
      refine T_outR ?_
      refine T_none 41 3 ?_
      obtain rfl := Option.some.inj hx14
      exact T_retP (rs := [.cell 6 26, .tmp 7]) Try.results44 (.cell rfl (i := 2) rfl rfl agg26 (.tmp rfl (.nil))) (Ln := [.r (none) (0) (0) 41 3 ((([] : List S_api_Cell)).flatMap e_api_Cell)]) ⟨none, 0, rfl, rfl, trivial⟩ (loCons rfl (loNil)) (by exact .pick 0 rfl (.drop 0 rfl (.drop 0 rfl (.drop 0 rfl (.refl)))))
    · have hx15 := ite_t h13 hx11
      refine T_condF rfl ?_
      refine T_skip ?_
      refine T_next ?_
      refine T_seq ?_
      refine T_reg ?_
      refine T_val (Ev_loadK rfl (i := 0) rfl rfl agg23) rfl ?_
      refine T_val (Ev_build rfl (bld26_0ai64i64i64i64i64 _ _ _ _ _)) rfl ?_
      refine T_x (Wx_alloc zer26 rfl (fun g16 => ?_))
      refine T_h (Wh_store rfl rfl rfl (.here) (.put (.put (.put (.put (.put (.put (.done))))))) rfl (List.cons_ne_nil _ _) agg26.2 ?_)
      refine T_nil ?_
      refine T_next ?_
      refine T_seq ?_
      refine T_reg ?_
      refine T_val (Ev_assign rfl) rfl ?_
      refine T_nil ?_
      refine T_next ?_
      obtain ⟨j11, hj11, hx15⟩ := jn_some hx15
      refine T_cutP (τ := Int) (γ := Unit) (J := j11) (out := r) (fun s11 y11 => [(1, .int .i64 (p1)), (3, .pointer (some ⟨g1, 0, none⟩)), (6, .pointer (some ⟨g2, 0, none⟩)), (8, .pointer (some ⟨g12, 0, none⟩)), (10, .pointer (some ⟨g16, 0, none⟩)), (11, .int .i64 (s11))]) (fun s11 y11 => [.m g16 26 [.int .i64 (r9.1.X0), .int .i64 (r9.1.Y0), .int .i64 (r9.1.Step), .int .i64 (r9.1.NX), .int .i64 (r9.1.NY), .slice (none) (0) (0)], .m g12 23 [.int .i64 (r9.1.X0), .int .i64 (r9.1.Y0), .int .i64 (r9.1.Step), .int .i64 (r9.1.NX), .int .i64 (r9.1.NY)], .m g2 26 [.int .i64 (0), .int .i64 (0), .int .i64 (0), .int .i64 (0), .int .i64 (0), .slice (none) (0) (0)], .m g1 26 [.int .i64 (p0.Raster.X0), .int .i64 (p0.Raster.Y0), .int .i64 (p0.Raster.Step), .int .i64 (p0.Raster.NX), .int .i64 (p0.Raster.NY), .slice (A0_0) ((p0.Cells).length) (c0_0)]] ++ [.old w]) (fun s11 y11 => True) ?_ ?_
      · intro s11 y11 hx20 hG21
        subst hj11
        obtain ⟨j13, hj13, hx20⟩ := jn_some hx20
        refine T_cutP (τ := List S_api_Cell) (γ := (Option Addr) × Nat) (J := j13) (out := r) (fun s13 y13 => [(6, .pointer (some ⟨g2, 0, none⟩)), (10, .pointer (some ⟨g16, 0, none⟩))]) (fun s13 y13 => [.r (y13.1) ((s13).length) (y13.2) 41 3 ((s13).flatMap e_api_Cell), .m g16 26 [.int .i64 (r9.1.X0), .int .i64 (r9.1.Y0), .int .i64 (r9.1.Step), .int .i64 (r9.1.NX), .int .i64 (r9.1.NY), .slice (y13.1) ((s13).length) (y13.2)], .m g2 26 [.int .i64 (0), .int .i64 (0), .int .i64 (0), .int .i64 (0), .int .i64 (0), .slice (none) (0) (0)]] ++ [.old w]) (fun s13 y13 => True) ?_ ?_
        · intro s13 y13 hx288 hG289
          subst hj13
          refine T_seq ?_
          refine T_reg ?_
          refine T_val (Ev_loadK rfl (i := 1) rfl rfl agg26) rfl ?_
          refine T_h (Wh_store rfl rfl rfl (.there (.there (.here))) (.put (.put (.put (.put (.put (.put (.done))))))) rfl (List.cons_ne_nil _ _) agg26.2 ?_)
          refine T_val (Ev_assign rfl) rfl ?_
          refine T_nil ?_
          refine T_next ?_
          refine T_retc ?_
          obtain rfl := Option.some.inj hx288
          exact T_retP (rs := [.cell 6 26, .tmp 7]) Try.results44 (.cell rfl (i := 2) rfl rfl agg26 (.tmp rfl (.nil))) (Ln := [.r (y13.1) ((s13).length) (y13.2) 41 3 ((s13).flatMap e_api_Cell)]) ⟨y13.1, y13.2, rfl, rfl, trivial⟩ (loCons rfl (loNil)) (by exact .pick 0 rfl (.drop 0 rfl (.drop 0 rfl (.refl))))
        · skip
          refine T_seq ?_
          refine T_reg ?_
          refine T_val (Ev_assign rfl) rfl ?_
          refine T_nil ?_
          refine T_next ?_
          refine T_block ?_
          obtain ⟨t155, hl155, ho155⟩ := bnd_some hx20
          refine T_none 41 3 ?_
          have hn156 : 0 = (([] : List S_api_Cell)).length := by simp [setI_len, cpy_len, List.length_append] <;> omega
          refine T_ent (.here) (e' := .r (none) ((([] : List S_api_Cell)).length) (0) 41 3 ((([] : List S_api_Cell)).flatMap e_api_Cell)) (by first | (rw [← hn156]; done) | rfl) ?_
          refine T_loopP (σ := (List S_api_Cell) × Int) (γ := (Option Addr) × Nat) hl155 (fun s155 y155 => [(1, .int .i64 (p1)), (3, .pointer (some ⟨g1, 0, none⟩)), (6, .pointer (some ⟨g2, 0, none⟩)), (8, .pointer (some ⟨g12, 0, none⟩)), (10, .pointer (some ⟨g16, 0, none⟩)), (11, .int .i64 (s11)), (12, .int .i64 (s155.2))]) (fun s155 y155 => [.r (y155.1) ((s155.1).length) (y155.2) 41 3 ((s155.1).flatMap e_api_Cell), .m g16 26 [.int .i64 (r9.1.X0), .int .i64 (r9.1.Y0), .int .i64 (r9.1.Step), .int .i64 (r9.1.NX), .int .i64 (r9.1.NY), .slice (y155.1) ((s155.1).length) (y155.2)], .m g12 23 [.int .i64 (r9.1.X0), .int .i64 (r9.1.Y0), .int .i64 (r9.1.Step), .int .i64 (r9.1.NX), .int .i64 (r9.1.NY)], .m g2 26 [.int .i64 (0), .int .i64 (0), .int .i64 (0), .int .i64 (0), .int .i64 (0), .slice (none) (0) (0)], .m g1 26 [.int .i64 (p0.Raster.X0), .int .i64 (p0.Raster.Y0), .int .i64 (p0.Raster.Step), .int .i64 (p0.Raster.NX), .int .i64 (p0.Raster.NY), .slice (A0_0) ((p0.Cells).length) (c0_0)]] ++ [.old w]) (fun s155 y155 => True) (none, 0) trivial (by exact .cons rfl (.cons rfl (.cons rfl (.cons rfl (.cons rfl (.cons rfl (.cons rfl (.nil)))))))) (by exact .pick 0 rfl (.pick 0 rfl (.pick 0 rfl (.pick 0 rfl (.pick 0 rfl (.refl)))))) ?_
          intro s155 y155 hG155 x155 hx155 ht155
          unfold lidarref09_Thin_l11 at hx155
          refine T_seq ?_
          refine T_seq ?_
          refine T_reg ?_
          refine T_val (Ev_move rfl) rfl ?_
          refine T_val (Ev_field rfl fld23_3 rfl) rfl ?_
          refine T_val (Ev_load1 rfl (i := 2) rfl rfl one3) rfl ?_
          refine T_val (Ev_field rfl fld23_4 rfl) rfl ?_
          refine T_val (Ev_load1 rfl (i := 2) rfl rfl one3) rfl ?_
          refine T_val (Ev_mul_w64 rfl rfl) rfl ?_
          refine T_val (Ev_lss rfl rfl) rfl ?_
          refine T_nil ?_
          refine T_next ?_
          refine T_caseP (s := 43) rfl (fun h157 => ?_) (fun h157 => ?_)
          · have hx158 := ite_t h157 hx155
            refine T_condT rfl ?_
            refine T_skip ?_
            refine T_next ?_
            refine T_seq ?_
            refine T_block ?_
            refine T_seq ?_
            refine T_reg ?_
            refine T_val (Ev_build rfl (bld41_0b _)) rfl ?_
            refine T_x (Wx_alloc zer41 rfl (fun g160 => ?_))
            refine T_h (Wh_store rfl rfl rfl (.here) (.put (.put (.put (.done)))) rfl (List.cons_ne_nil _ _) agg41.2 ?_)
            refine T_nil ?_
            refine T_next ?_
            refine T_seq ?_
            refine T_draw [0, 0, 1, 0, 0, 0, 0, 0, 1, 0, 0, 0, 2, 2] [[], [], [1], [0, 1, 2], [], [0, 1, 2, 3, 4], [], [], [7], [6, 7, 8], [], [6, 7, 8, 9, 10], [0, 1, 2, 3, 4, 5], [0, 1, 2, 3, 4, 5, 6, 7, 8, 9, 10, 11, 12]] (.q 0 (.q 1 (.q 2 (.q 3 (.q 4 (.q 5 (.q 6 (.q 7 (.q 8 (.q 9 (.q 10 (.q 11 (.e 12 (.e 13 (.done) (.stop)) (.stop)))))))))))))) mixed (by kernel_rfl) (by kernel_rfl) ?_
            refine P_p rfl rfl (Ev_move rfl) rfl ?_
            refine P_p rfl rfl (Ev_field rfl fld23_3 rfl) rfl ?_
            refine P_q rfl rfl (Ev_load1 rfl (i := 3) rfl rfl one3) rfl ?_
            obtain ⟨h161, hx162⟩ := gd_some hx158
            refine P_p rfl rfl (Ev_rem rfl rfl h161) rfl ?_
            refine P_p rfl rfl (Ev_move rfl) rfl ?_
            refine P_p rfl rfl (Ev_mul_w64 rfl rfl) rfl ?_
            refine P_p rfl rfl (Ev_move rfl) rfl ?_
            refine P_p rfl rfl (Ev_field rfl fld23_3 rfl) rfl ?_
            refine P_q rfl rfl (Ev_load1 rfl (i := 3) rfl rfl one3) rfl ?_
            obtain ⟨h163, hx164⟩ := gd_some hx162
            refine P_p rfl rfl (Ev_quo_w64 rfl rfl h163) rfl ?_
            refine P_p rfl rfl (Ev_move rfl) rfl ?_
            refine P_p rfl rfl (Ev_mul_w64 rfl rfl) rfl ?_
            refine P_x rfl (Wx_val (Ev_assign rfl) rfl ?_) ?_
            rotate_left; exact P_stop
            refine P_x rfl (Wx_val (Ev_assign rfl) rfl ?_) ?_
            rotate_left; exact P_stop
            refine P_done ?_
            refine T_next ?_
            obtain ⟨j67, hj67, hx164⟩ := jn_some hx164
            refine T_cutP (τ := Bool × Int × Int) (γ := Unit) (J := j67) (out := x155) (fun s67 y67 => [(1, .int .i64 (p1)), (3, .pointer (some ⟨g1, 0, none⟩)), (6, .pointer (some ⟨g2, 0, none⟩)), (8, .pointer (some ⟨g12, 0, none⟩)), (10, .pointer (some ⟨g16, 0, none⟩)), (11, .int .i64 (s11)), (12, .int .i64 (s155.2)), (13, .pointer (some ⟨g160, 0, none⟩))]) (fun s67 y67 => [.m g160 41 [.bool (s67.1), .int .i64 (s67.2.1), .int .i64 (s67.2.2)], .r (y155.1) ((s155.1).length) (y155.2) 41 3 ((s155.1).flatMap e_api_Cell), .m g16 26 [.int .i64 (r9.1.X0), .int .i64 (r9.1.Y0), .int .i64 (r9.1.Step), .int .i64 (r9.1.NX), .int .i64 (r9.1.NY), .slice (y155.1) ((s155.1).length) (y155.2)], .m g12 23 [.int .i64 (r9.1.X0), .int .i64 (r9.1.Y0), .int .i64 (r9.1.Step), .int .i64 (r9.1.NX), .int .i64 (r9.1.NY)], .m g2 26 [.int .i64 (0), .int .i64 (0), .int .i64 (0), .int .i64 (0), .int .i64 (0), .slice (none) (0) (0)], .m g1 26 [.int .i64 (p0.Raster.X0), .int .i64 (p0.Raster.Y0), .int .i64 (p0.Raster.Step), .int .i64 (p0.Raster.NX), .int .i64 (p0.Raster.NY), .slice (A0_0) ((p0.Cells).length) (c0_0)]] ++ [.old w]) (fun s67 y67 => True) ?_ ?_
            · intro s67 y67 hx281 hG282
              subst hj67
              refine T_reg ?_
              refine T_val (Ev_field rfl fld26_1 rfl) rfl ?_
              refine T_val (Ev_load1 rfl (i := 2) rfl rfl one24) rfl ?_
              refine T_val (Ev_loadK rfl (i := 0) rfl rfl agg41) rfl ?_
              refine T_x (Wx_buildSlice rfl (bls24_1_0abi64i64 _ _ _) rfl (fun g283 => ?_))
              obtain ⟨h284, hx285⟩ := gd_some hx281
              refine T_h (Wh_appendP e_api_Cell (s155.1) [(⟨s67.1, (⟨s67.2.1, s67.2.2⟩ : S_api_Span)⟩ : S_api_Cell)] rfl rfl rfl elm24 (fun _ => rfl) (i' := 0) rfl rfl rfl rfl h284 rfl (fun _ _ => .there (.there (.here))) (fun _ _ => .drop .refl) (by decide) (fun A286 c287 => ?_))
              refine T_val (Ev_field rfl fld26_1 rfl) rfl ?_
              refine T_h (Wh_store rfl rfl rfl (.there (.there (.here))) (.skip (.skip (.skip (.skip (.skip (.put (.done))))))) rfl (List.cons_ne_nil _ _) one24.2 ?_)
              refine T_nil ?_
              refine T_inN ?_
              refine T_next ?_
              refine T_reg ?_
              refine T_val (Ev_move rfl) rfl ?_
              refine T_val (Ev_add_w64 rfl rfl) rfl ?_
              refine T_val (Ev_assign rfl) rfl ?_
              refine T_nil ?_
              exact T_roundP (s155.1 ++ [(⟨s67.1, (⟨s67.2.1, s67.2.2⟩ : S_api_Span)⟩ : S_api_Cell)], w64 (s155.2 + 1)) (A286, c287) hx285 trivial (by exact .cons rfl (.cons rfl (.cons rfl (.cons rfl (.cons rfl (.cons rfl (.cons rfl (.nil)))))))) (by exact .pick 1 rfl (.pick 1 rfl (.pick 1 rfl (.pick 1 rfl (.pick 1 rfl (.drop 0 rfl (.refl)))))))
            · skip
              refine T_seq ?_
              refine T_reg ?_
              refine T_val (Ev_move rfl) rfl ?_
              refine T_val (Ev_assign rfl) rfl ?_
              refine T_nil ?_
              refine T_next ?_
              refine T_block ?_
              obtain ⟨t223, hl223, ho223⟩ := bnd_some hx164
              refine T_loopP (σ := Bool × Int × Int × Int) (γ := Unit) hl223 (fun s223 y223 => [(1, .int .i64 (p1)), (3, .pointer (some ⟨g1, 0, none⟩)), (6, .pointer (some ⟨g2, 0, none⟩)), (8, .pointer (some ⟨g12, 0, none⟩)), (10, .pointer (some ⟨g16, 0, none⟩)), (11, .int .i64 (s11)), (12, .int .i64 (s155.2)), (13, .pointer (some ⟨g160, 0, none⟩)), (14, .int .i64 (w64 ((Int.tmod s155.2 r9.1.NX) * p1))), (15, .int .i64 (w64 ((w64 (Int.tdiv s155.2 r9.1.NX)) * p1))), (16, .int .i64 (s223.2.2.2))]) (fun s223 y223 => [.m g160 41 [.bool (s223.1), .int .i64 (s223.2.1), .int .i64 (s223.2.2.1)], .r (y155.1) ((s155.1).length) (y155.2) 41 3 ((s155.1).flatMap e_api_Cell), .m g16 26 [.int .i64 (r9.1.X0), .int .i64 (r9.1.Y0), .int .i64 (r9.1.Step), .int .i64 (r9.1.NX), .int .i64 (r9.1.NY), .slice (y155.1) ((s155.1).length) (y155.2)], .m g12 23 [.int .i64 (r9.1.X0), .int .i64 (r9.1.Y0), .int .i64 (r9.1.Step), .int .i64 (r9.1.NX), .int .i64 (r9.1.NY)], .m g2 26 [.int .i64 (0), .int .i64 (0), .int .i64 (0), .int .i64 (0), .int .i64 (0), .slice (none) (0) (0)], .m g1 26 [.int .i64 (p0.Raster.X0), .int .i64 (p0.Raster.Y0), .int .i64 (p0.Raster.Step), .int .i64 (p0.Raster.NX), .int .i64 (p0.Raster.NY), .slice (A0_0) ((p0.Cells).length) (c0_0)]] ++ [.old w]) (fun s223 y223 => True) () trivial (by exact .cons rfl (.cons rfl (.cons rfl (.cons rfl (.cons rfl (.cons rfl (.cons rfl (.cons rfl (.cons rfl (.cons rfl (.cons rfl (.nil)))))))))))) (by exact .pick 0 rfl (.pick 0 rfl (.pick 0 rfl (.pick 0 rfl (.pick 0 rfl (.pick 0 rfl (.refl))))))) ?_
              intro s223 y223 hG223 x223 hx223 ht223
              unfold lidarref09_Thin_l16 at hx223
              refine T_seq ?_
              refine T_seq ?_
              refine T_reg ?_
              refine T_val (Ev_move rfl) rfl ?_
              refine T_val (Ev_move rfl) rfl ?_
              refine T_val (Ev_move rfl) rfl ?_
              refine T_val (Ev_add_w64 rfl rfl) rfl ?_
              refine T_val (Ev_field rfl fld26_0 rfl) rfl ?_
              refine T_val (Ev_field rfl fld23_4 rfl) rfl ?_
              refine T_val (Ev_load1 rfl (i := 5) rfl rfl one3) rfl ?_
              refine T_val (Ev_min2 rfl rfl) rfl ?_
              refine T_val (Ev_lss rfl rfl) rfl ?_
              refine T_nil ?_
              refine T_next ?_
              refine T_caseP (s := 68) rfl (fun h224 => ?_) (fun h224 => ?_)
              · have hx225 := ite_t h224 hx223
                refine T_condT rfl ?_
                refine T_skip ?_
                refine T_next ?_
                obtain ⟨j91, hj91, hx225⟩ := jn_some hx225
                refine T_cutP (τ := Bool × Int × Int) (γ := Unit) (J := j91) (out := x223) (fun s91 y91 => [(1, .int .i64 (p1)), (3, .pointer (some ⟨g1, 0, none⟩)), (6, .pointer (some ⟨g2, 0, none⟩)), (8, .pointer (some ⟨g12, 0, none⟩)), (10, .pointer (some ⟨g16, 0, none⟩)), (11, .int .i64 (s11)), (12, .int .i64 (s155.2)), (13, .pointer (some ⟨g160, 0, none⟩)), (14, .int .i64 (w64 ((Int.tmod s155.2 r9.1.NX) * p1))), (15, .int .i64 (w64 ((w64 (Int.tdiv s155.2 r9.1.NX)) * p1))), (16, .int .i64 (s223.2.2.2))]) (fun s91 y91 => [.m g160 41 [.bool (s91.1), .int .i64 (s91.2.1), .int .i64 (s91.2.2)], .r (y155.1) ((s155.1).length) (y155.2) 41 3 ((s155.1).flatMap e_api_Cell), .m g16 26 [.int .i64 (r9.1.X0), .int .i64 (r9.1.Y0), .int .i64 (r9.1.Step), .int .i64 (r9.1.NX), .int .i64 (r9.1.NY), .slice (y155.1) ((s155.1).length) (y155.2)], .m g12 23 [.int .i64 (r9.1.X0), .int .i64 (r9.1.Y0), .int .i64 (r9.1.Step), .int .i64 (r9.1.NX), .int .i64 (r9.1.NY)], .m g2 26 [.int .i64 (0), .int .i64 (0), .int .i64 (0), .int .i64 (0), .int .i64 (0), .slice (none) (0) (0)], .m g1 26 [.int .i64 (p0.Raster.X0), .int .i64 (p0.Raster.Y0), .int .i64 (p0.Raster.Step), .int .i64 (p0.Raster.NX), .int .i64 (p0.Raster.NY), .slice (A0_0) ((p0.Cells).length) (c0_0)]] ++ [.old w]) (fun s91 y91 => True) ?_ ?_
                · intro s91 y91 hx279 hG280
                  subst hj91
                  refine T_reg ?_
                  refine T_val (Ev_move rfl) rfl ?_
                  refine T_val (Ev_add_w64 rfl rfl) rfl ?_
                  refine T_val (Ev_assign rfl) rfl ?_
                  refine T_nil ?_
                  exact T_roundP (s91.1, s91.2.1, s91.2.2, w64 (s223.2.2.2 + 1)) () hx279 trivial (by exact .cons rfl (.cons rfl (.cons rfl (.cons rfl (.cons rfl (.cons rfl (.cons rfl (.cons rfl (.cons rfl (.cons rfl (.cons rfl (.nil)))))))))))) (by exact .pick 0 rfl (.pick 0 rfl (.pick 0 rfl (.pick 0 rfl (.pick 0 rfl (.pick 0 rfl (.refl)))))))
                · skip
                  refine T_block ?_
                  refine T_seq ?_
                  refine T_reg ?_
                  refine T_val (Ev_move rfl) rfl ?_
                  refine T_val (Ev_assign rfl) rfl ?_
                  refine T_nil ?_
                  refine T_next ?_
                  refine T_block ?_
                  obtain ⟨t253, hl253, ho253⟩ := bnd_some hx225
                  refine T_loopP (σ := Bool × Int × Int × Int) (γ := Unit) hl253 (fun s253 y253 => [(1, .int .i64 (p1)), (3, .pointer (some ⟨g1, 0, none⟩)), (6, .pointer (some ⟨g2, 0, none⟩)), (8, .pointer (some ⟨g12, 0, none⟩)), (10, .pointer (some ⟨g16, 0, none⟩)), (11, .int .i64 (s11)), (12, .int .i64 (s155.2)), (13, .pointer (some ⟨g160, 0, none⟩)), (14, .int .i64 (w64 ((Int.tmod s155.2 r9.1.NX) * p1))), (15, .int .i64 (w64 ((w64 (Int.tdiv s155.2 r9.1.NX)) * p1))), (16, .int .i64 (s223.2.2.2)), (17, .int .i64 (s253.2.2.2))]) (fun s253 y253 => [.m g160 41 [.bool (s253.1), .int .i64 (s253.2.1), .int .i64 (s253.2.2.1)], .r (y155.1) ((s155.1).length) (y155.2) 41 3 ((s155.1).flatMap e_api_Cell), .m g16 26 [.int .i64 (r9.1.X0), .int .i64 (r9.1.Y0), .int .i64 (r9.1.Step), .int .i64 (r9.1.NX), .int .i64 (r9.1.NY), .slice (y155.1) ((s155.1).length) (y155.2)], .m g12 23 [.int .i64 (r9.1.X0), .int .i64 (r9.1.Y0), .int .i64 (r9.1.Step), .int .i64 (r9.1.NX), .int .i64 (r9.1.NY)], .m g2 26 [.int .i64 (0), .int .i64 (0), .int .i64 (0), .int .i64 (0), .int .i64 (0), .slice (none) (0) (0)], .m g1 26 [.int .i64 (p0.Raster.X0), .int .i64 (p0.Raster.Y0), .int .i64 (p0.Raster.Step), .int .i64 (p0.Raster.NX), .int .i64 (p0.Raster.NY), .slice (A0_0) ((p0.Cells).length) (c0_0)]] ++ [.old w]) (fun s253 y253 => True) () trivial (by exact .cons rfl (.cons rfl (.cons rfl (.cons rfl (.cons rfl (.cons rfl (.cons rfl (.cons rfl (.cons rfl (.cons rfl (.cons rfl (.cons rfl (.nil))))))))))))) (by exact .pick 0 rfl (.pick 0 rfl (.pick 0 rfl (.pick 0 rfl (.pick 0 rfl (.pick 0 rfl (.refl))))))) ?_
                  intro s253 y253 hG253 x253 hx253 ht253
                  unfold lidarref09_Thin_l19 at hx253
                  refine T_seq ?_
                  refine T_seq ?_
                  refine T_reg ?_
                  refine T_val (Ev_move rfl) rfl ?_
                  refine T_val (Ev_move rfl) rfl ?_
                  refine T_val (Ev_move rfl) rfl ?_
                  refine T_val (Ev_add_w64 rfl rfl) rfl ?_
                  refine T_val (Ev_field rfl fld26_0 rfl) rfl ?_
                  refine T_val (Ev_field rfl fld23_3 rfl) rfl ?_
                  refine T_val (Ev_load1 rfl (i := 5) rfl rfl one3) rfl ?_
                  refine T_val (Ev_min2 rfl rfl) rfl ?_
                  refine T_val (Ev_lss rfl rfl) rfl ?_
                  refine T_nil ?_
                  refine T_next ?_
                  refine T_caseP (s := 80) rfl (fun h254 => ?_) (fun h254 => ?_)
                  · have hx255 := ite_t h254 hx253
                    refine T_condT rfl ?_
                    refine T_skip ?_
                    refine T_next ?_
                    obtain ⟨j103, hj103, hx255⟩ := jn_some hx255
                    refine T_cutP (τ := Bool × Int × Int) (γ := Unit) (J := j103) (out := x253) (fun s103 y103 => [(1, .int .i64 (p1)), (3, .pointer (some ⟨g1, 0, none⟩)), (6, .pointer (some ⟨g2, 0, none⟩)), (8, .pointer (some ⟨g12, 0, none⟩)), (10, .pointer (some ⟨g16, 0, none⟩)), (11, .int .i64 (s11)), (12, .int .i64 (s155.2)), (13, .pointer (some ⟨g160, 0, none⟩)), (14, .int .i64 (w64 ((Int.tmod s155.2 r9.1.NX) * p1))), (15, .int .i64 (w64 ((w64 (Int.tdiv s155.2 r9.1.NX)) * p1))), (16, .int .i64 (s223.2.2.2)), (17, .int .i64 (s253.2.2.2))]) (fun s103 y103 => [.m g160 41 [.bool (s103.1), .int .i64 (s103.2.1), .int .i64 (s103.2.2)], .r (y155.1) ((s155.1).length) (y155.2) 41 3 ((s155.1).flatMap e_api_Cell), .m g16 26 [.int .i64 (r9.1.X0), .int .i64 (r9.1.Y0), .int .i64 (r9.1.Step), .int .i64 (r9.1.NX), .int .i64 (r9.1.NY), .slice (y155.1) ((s155.1).length) (y155.2)], .m g12 23 [.int .i64 (r9.1.X0), .int .i64 (r9.1.Y0), .int .i64 (r9.1.Step), .int .i64 (r9.1.NX), .int .i64 (r9.1.NY)], .m g2 26 [.int .i64 (0), .int .i64 (0), .int .i64 (0), .int .i64 (0), .int .i64 (0), .slice (none) (0) (0)], .m g1 26 [.int .i64 (p0.Raster.X0), .int .i64 (p0.Raster.Y0), .int .i64 (p0.Raster.Step), .int .i64 (p0.Raster.NX), .int .i64 (p0.Raster.NY), .slice (A0_0) ((p0.Cells).length) (c0_0)]] ++ [.old w]) (fun s103 y103 => True) ?_ ?_
                    · intro s103 y103 hx277 hG278
                      subst hj103
                      refine T_reg ?_
                      refine T_val (Ev_move rfl) rfl ?_
                      refine T_val (Ev_add_w64 rfl rfl) rfl ?_
                      refine T_val (Ev_assign rfl) rfl ?_
                      refine T_nil ?_
                      exact T_roundP (s103.1, s103.2.1, s103.2.2, w64 (s253.2.2.2 + 1)) () hx277 trivial (by exact .cons rfl (.cons rfl (.cons rfl (.cons rfl (.cons rfl (.cons rfl (.cons rfl (.cons rfl (.cons rfl (.cons rfl (.cons rfl (.cons rfl (.nil))))))))))))) (by exact .pick 0 rfl (.pick 0 rfl (.pick 0 rfl (.pick 0 rfl (.pick 0 rfl (.pick 0 rfl (.refl)))))))
                    · skip
                      refine T_block ?_
                      refine T_seq ?_
                      refine T_reg ?_
                      refine T_val (Ev_field rfl fld26_1 rfl) rfl ?_
                      refine T_val (Ev_load1 rfl (i := 5) rfl rfl one24) rfl ?_
                      refine T_val (Ev_move rfl) rfl ?_
                      refine T_val (Ev_field rfl fld26_0 rfl) rfl ?_
                      refine T_val (Ev_field rfl fld23_3 rfl) rfl ?_
                      refine T_val (Ev_load1 rfl (i := 5) rfl rfl one3) rfl ?_
                      refine T_val (Ev_mul_w64 rfl rfl) rfl ?_
                      refine T_val (Ev_move rfl) rfl ?_
                      refine T_val (Ev_add_w64 rfl rfl) rfl ?_
                      obtain ⟨x257, h258, hx259⟩ := bnd_some hx255
                      have hw267 := Has.low (E := []) ha0' hK
                      obtain ⟨b260, o261, j262, hA263, hj264, hl265, hp266⟩ := Has.at_idx hw267 h258
                      refine T_val (Ev_index rfl rfl hA263 (j := j262) hj264 hl265 slc24) rfl ?_
                      refine T_val (Ev_loadPK0 rfl hp266 (SubE.cons2 (i := 6) rfl (SubE.nil)) rfl agg41) rfl ?_
                      refine T_x (Wx_alloc zer41 rfl (fun g268 => ?_))
                      refine T_h (Wh_store rfl rfl rfl (.here) (.put (.put (.put (.done)))) rfl (List.cons_ne_nil _ _) agg41.2 ?_)
                      refine T_nil ?_
                      refine T_next ?_
                      refine T_seq ?_
                      refine T_seq ?_
                      refine T_reg ?_
                      refine T_val (Ev_field rfl fld41_0 rfl) rfl ?_
                      refine T_val (Ev_load1 rfl (i := 0) rfl rfl one4) rfl ?_
                      refine T_nil ?_
                      refine T_next ?_
                      refine T_caseB (s := 95) rfl (fun h269 => ?_) (fun h269 => ?_)
                      · have hx270 := ite_t h269 hx259
                        refine T_condT rfl ?_
                        refine T_exit ?_
                        refine T_outX ?_
                        refine T_here ?_
                        exact T_metP (s253.1, s253.2.1, s253.2.2.1) () hx270 trivial (by exact .cons rfl (.cons rfl (.cons rfl (.cons rfl (.cons rfl (.cons rfl (.cons rfl (.cons rfl (.cons rfl (.cons rfl (.cons rfl (.cons rfl (.nil))))))))))))) (by exact .pick 1 rfl (.pick 1 rfl (.pick 1 rfl (.pick 1 rfl (.pick 1 rfl (.pick 1 rfl (.drop 0 rfl (.refl))))))))
                      · have hx271 := ite_bf h269 hx259
                        refine T_condF rfl ?_
                        refine T_skip ?_
                        refine T_next ?_
                        obtain ⟨j107, hj107, hx271⟩ := jn_some hx271
                        refine T_cutP (τ := Bool × Int × Int) (γ := Unit) (J := j107) (out := x253) (fun s107 y107 => [(1, .int .i64 (p1)), (3, .pointer (some ⟨g1, 0, none⟩)), (6, .pointer (some ⟨g2, 0, none⟩)), (8, .pointer (some ⟨g12, 0, none⟩)), (10, .pointer (some ⟨g16, 0, none⟩)), (11, .int .i64 (s11)), (12, .int .i64 (s155.2)), (13, .pointer (some ⟨g160, 0, none⟩)), (14, .int .i64 (w64 ((Int.tmod s155.2 r9.1.NX) * p1))), (15, .int .i64 (w64 ((w64 (Int.tdiv s155.2 r9.1.NX)) * p1))), (16, .int .i64 (s223.2.2.2)), (17, .int .i64 (s253.2.2.2)), (18, .pointer (some ⟨g268, 0, none⟩))]) (fun s107 y107 => [.m g268 41 [.bool (x257.Void), .int .i64 (x257.Z.Lo), .int .i64 (x257.Z.Hi)], .m g160 41 [.bool (s107.1), .int .i64 (s107.2.1), .int .i64 (s107.2.2)], .r (y155.1) ((s155.1).length) (y155.2) 41 3 ((s155.1).flatMap e_api_Cell), .m g16 26 [.int .i64 (r9.1.X0), .int .i64 (r9.1.Y0), .int .i64 (r9.1.Step), .int .i64 (r9.1.NX), .int .i64 (r9.1.NY), .slice (y155.1) ((s155.1).length) (y155.2)], .m g12 23 [.int .i64 (r9.1.X0), .int .i64 (r9.1.Y0), .int .i64 (r9.1.Step), .int .i64 (r9.1.NX), .int .i64 (r9.1.NY)], .m g2 26 [.int .i64 (0), .int .i64 (0), .int .i64 (0), .int .i64 (0), .int .i64 (0), .slice (none) (0) (0)], .m g1 26 [.int .i64 (p0.Raster.X0), .int .i64 (p0.Raster.Y0), .int .i64 (p0.Raster.Step), .int .i64 (p0.Raster.NX), .int .i64 (p0.Raster.NY), .slice (A0_0) ((p0.Cells).length) (c0_0)]] ++ [.old w]) (fun s107 y107 => True) ?_ ?_
                        · intro s107 y107 hx275 hG276
                          subst hj107
                          refine T_draw [0, 0, 1, 0, 0, 1, 0, 0, 0, 1, 0, 0, 2, 0, 0, 0, 3, 0, 0, 3] [[], [0], [0, 1], [], [3], [3, 4], [0, 1, 2, 3, 4, 5], [], [7], [7, 8], [], [10], [10, 11], [7, 8, 9, 10, 11, 12], [0, 1, 2, 3, 4, 5, 6, 7, 8, 9], [0, 1, 2, 3, 4, 5, 6, 7, 8, 9, 14], [0, 1, 2, 3, 4, 5, 6, 7, 8, 9, 14, 15], [0, 1, 2, 3, 4, 5, 6, 7, 8, 9, 10, 11, 12, 13, 14, 15, 16], [0, 1, 2, 3, 4, 5, 6, 7, 8, 9, 10, 11, 12, 13, 14, 15, 16, 17], [0, 1, 2, 3, 4, 5, 6, 7, 8, 9, 10, 11, 12, 13, 14, 15, 16, 17, 18]] (.q 0 (.q 1 (.q 2 (.q 3 (.q 4 (.q 5 (.q 6 (.q 7 (.q 8 (.q 9 (.q 10 (.q 11 (.q 14 (.q 15 (.e 12 (.q 13 (.e 16 (.q 17 (.q 18 (.e 19 (.done) (.stop)))) (.stop))) (.e 16 (.e 12 (.q 13 (.q 17 (.q 18 (.e 19 (.done) (.stop))))) (.stop)) (.stop))))))))))))))))) mixed (by kernel_rfl) (by kernel_rfl) ?_
                          refine P_p rfl rfl (Ev_field rfl fld41_1 rfl) rfl ?_
                          refine P_p rfl rfl (Ev_field rfl fld39_0 rfl) rfl ?_
                          refine P_q rfl rfl (Ev_load1 rfl (i := 1) rfl rfl one3) rfl ?_
                          refine P_p rfl rfl (Ev_field rfl fld41_1 rfl) rfl ?_
                          refine P_p rfl rfl (Ev_field rfl fld39_0 rfl) rfl ?_
                          refine P_q rfl rfl (Ev_load1 rfl (i := 0) rfl rfl one3) rfl ?_
                          refine P_p rfl rfl (Ev_min2 rfl rfl) rfl ?_
                          refine P_p rfl rfl (Ev_field rfl fld41_1 rfl) rfl ?_
                          refine P_p rfl rfl (Ev_field rfl fld39_1 rfl) rfl ?_
                          refine P_q rfl rfl (Ev_load1 rfl (i := 1) rfl rfl one3) rfl ?_
                          refine P_p rfl rfl (Ev_field rfl fld41_1 rfl) rfl ?_
                          refine P_p rfl rfl (Ev_field rfl fld39_1 rfl) rfl ?_
                          refine P_p rfl rfl (Ev_field rfl fld41_1 rfl) rfl ?_
                          refine P_p rfl rfl (Ev_field rfl fld39_0 rfl) rfl ?_
                          refine P_x rfl (Wx_val (Ev_load1 rfl (i := 0) rfl rfl one3) rfl ?_) ?_
                          · skip
                            refine P_p rfl rfl (Ev_max2 rfl rfl) rfl ?_
                            refine P_h rfl rfl (Wh_store rfl rfl rfl (.there (.here)) (.skip (.put (.done))) rfl (List.cons_ne_nil _ _) one3.2 ?_) ?_
                            rotate_left; exact P_stop
                            refine P_p rfl rfl (Ev_field rfl fld41_1 rfl) rfl ?_
                            refine P_p rfl rfl (Ev_field rfl fld39_1 rfl) rfl ?_
                            refine P_h rfl rfl (Wh_store rfl rfl rfl (.there (.here)) (.skip (.skip (.put (.done)))) rfl (List.cons_ne_nil _ _) one3.2 ?_) ?_
                            rotate_left; exact P_stop
                            refine P_done ?_
                            refine T_inN ?_
                            exact T_metP (s107.1, min s107.2.1 x257.Z.Lo, max s107.2.2 x257.Z.Hi) () hx275 trivial (by exact .cons rfl (.cons rfl (.cons rfl (.cons rfl (.cons rfl (.cons rfl (.cons rfl (.cons rfl (.cons rfl (.cons rfl (.cons rfl (.cons rfl (.nil))))))))))))) (by exact .pick 1 rfl (.pick 1 rfl (.pick 1 rfl (.pick 1 rfl (.pick 1 rfl (.pick 1 rfl (.drop 0 rfl (.refl))))))))
                          · skip
                            refine P_h rfl rfl (Wh_store rfl rfl rfl (.there (.here)) (.skip (.put (.done))) rfl (List.cons_ne_nil _ _) one3.2 ?_) ?_
                            rotate_left; exact P_stop
                            refine P_x rfl (Wx_val (Ev_load1 rfl (i := 0) rfl rfl one3) rfl ?_) ?_
                            rotate_left; exact P_stop
                            refine P_p rfl rfl (Ev_max2 rfl rfl) rfl ?_
                            refine P_p rfl rfl (Ev_field rfl fld41_1 rfl) rfl ?_
                            refine P_p rfl rfl (Ev_field rfl fld39_1 rfl) rfl ?_
                            refine P_h rfl rfl (Wh_store rfl rfl rfl (.there (.here)) (.skip (.skip (.put (.done)))) rfl (List.cons_ne_nil _ _) one3.2 ?_) ?_
                            rotate_left; exact P_stop
                            refine P_done ?_
                            refine T_inN ?_
                            exact T_metP (s107.1, min s107.2.1 x257.Z.Lo, max s107.2.2 x257.Z.Hi) () hx275 trivial (by exact .cons rfl (.cons rfl (.cons rfl (.cons rfl (.cons rfl (.cons rfl (.cons rfl (.cons rfl (.cons rfl (.cons rfl (.cons rfl (.cons rfl (.nil))))))))))))) (by exact .pick 1 rfl (.pick 1 rfl (.pick 1 rfl (.pick 1 rfl (.pick 1 rfl (.pick 1 rfl (.drop 0 rfl (.refl))))))))
                        · skip
                          refine T_seq ?_
                          refine T_reg ?_
                          refine T_val (Ev_field rfl fld41_0 rfl) rfl ?_
                          refine T_val (Ev_load1 rfl (i := 1) rfl rfl one4) rfl ?_
                          refine T_nil ?_
                          refine T_next ?_
                          refine T_caseB (s := 97) rfl (fun h272 => ?_) (fun h272 => ?_)
                          · have hx273 := ite_t h272 hx271
                            refine T_condT rfl ?_
                            refine T_reg ?_
                            refine T_val (Ev_loadK rfl (i := 0) rfl rfl agg41) rfl ?_
                            refine T_h (Wh_store rfl rfl rfl (.there (.here)) (.put (.put (.put (.done)))) rfl (List.cons_ne_nil _ _) agg41.2 ?_)
                            refine T_nil ?_
                            exact T_metP (x257.Void, x257.Z.Lo, x257.Z.Hi) () hx273 trivial (by exact .cons rfl (.cons rfl (.cons rfl (.cons rfl (.cons rfl (.cons rfl (.cons rfl (.cons rfl (.cons rfl (.cons rfl (.cons rfl (.cons rfl (.cons rfl (.nil)))))))))))))) (by exact .pick 0 rfl (.pick 0 rfl (.pick 0 rfl (.pick 0 rfl (.pick 0 rfl (.pick 0 rfl (.pick 0 rfl (.refl))))))))
                          · have hx274 := ite_bf h272 hx271
                            refine T_condF rfl ?_
                            refine T_skip ?_
                            exact T_metP (s253.1, s253.2.1, s253.2.2.1) () hx274 trivial (by exact .cons rfl (.cons rfl (.cons rfl (.cons rfl (.cons rfl (.cons rfl (.cons rfl (.cons rfl (.cons rfl (.cons rfl (.cons rfl (.cons rfl (.cons rfl (.nil)))))))))))))) (by exact .pick 0 rfl (.pick 0 rfl (.pick 0 rfl (.pick 0 rfl (.pick 0 rfl (.pick 0 rfl (.pick 0 rfl (.refl))))))))
                  · have hx256 := ite_f h254 hx253
                    refine T_condF rfl ?_
                    refine T_exit ?_
                    refine T_outX ?_
                    obtain rfl := exit_eq ht253 hx256
                    refine T_outX ?_
                    refine T_here ?_
                    refine T_inN ?_
                    exact T_metP (s253.1, s253.2.1, s253.2.2.1) () ho253 trivial (by exact .cons rfl (.cons rfl (.cons rfl (.cons rfl (.cons rfl (.cons rfl (.cons rfl (.cons rfl (.cons rfl (.cons rfl (.cons rfl (.nil)))))))))))) (by exact .pick 0 rfl (.pick 0 rfl (.pick 0 rfl (.pick 0 rfl (.pick 0 rfl (.pick 0 rfl (.refl)))))))
              · have hx226 := ite_f h224 hx223
                refine T_condF rfl ?_
                refine T_exit ?_
                refine T_outX ?_
                obtain rfl := exit_eq ht223 hx226
                refine T_outX ?_
                refine T_here ?_
                exact T_metP (s223.1, s223.2.1, s223.2.2.1) () ho223 trivial (by exact .cons rfl (.cons rfl (.cons rfl (.cons rfl (.cons rfl (.cons rfl (.cons rfl (.cons rfl (.nil))))))))) (by exact .pick 0 rfl (.pick 0 rfl (.pick 0 rfl (.pick 0 rfl (.pick 0 rfl (.pick 0 rfl (.refl)))))))
          · have hx159 := ite_f h157 hx155
            refine T_condF rfl ?_
            refine T_exit ?_
            refine T_outX ?_
            obtain rfl := exit_eq ht155 hx159
            refine T_outX ?_
            refine T_here ?_
            exact T_metP s155.1 (y155.1, y155.2) ho155 trivial (by exact .cons rfl (.cons rfl (.nil))) (by exact .pick 0 rfl (.pick 0 rfl (.pick 1 rfl (.drop 0 rfl (.drop 0 rfl (.refl))))))
      · skip
        refine T_seq ?_
        refine T_reg ?_
        refine T_val (Ev_move rfl) rfl ?_
        refine T_nil ?_
        refine T_next ?_
        refine T_caseB (s := 35) rfl (fun h17 => ?_) (fun h17 => ?_)
        · have hx18 := ite_t h17 hx15
          refine T_condT rfl ?_
          refine T_reg ?_
          refine T_val (Ev_move rfl) rfl ?_
          refine T_val (Ev_assign rfl) rfl ?_
          refine T_nil ?_
          exact T_metP p1 () hx18 trivial (by exact .cons rfl (.cons rfl (.cons rfl (.cons rfl (.cons rfl (.cons rfl (.nil))))))) (by exact .pick 0 rfl (.pick 0 rfl (.pick 0 rfl (.pick 0 rfl (.refl)))))
        · have hx19 := ite_bf h17 hx15
          refine T_condF rfl ?_
          refine T_skip ?_
          exact T_metP 1 () hx19 trivial (by exact .cons rfl (.cons rfl (.cons rfl (.cons rfl (.cons rfl (.cons rfl (.nil))))))) (by exact .pick 0 rfl (.pick 0 rfl (.pick 0 rfl (.pick 0 rfl (.refl)))))
set_option maxRecDepth 100000 in
theorem math_bits_Mul32_ok (p0 : Int) (p1 : Int)  {r : Int × Int} (hx : math_bits_Mul32 p0 p1 = some r) (w : World) : CtL Try.prog 140 [.int .u32 (p0), .int .u32 (p1)] w fun v Ln => v = .tuple #[.int .u32 (r.1), .int .u32 (r.2)] ∧ Ln = [] ∧ True := by
  refine CtL.mk 17 Try.func140 rfl Try.ntmps140 (by kernel_rfl) rfl ?_
  show T 17 _ [(0, .int .u32 (p0)), (1, .int .u32 (p1))] _
  unfold math_bits_Mul32 at hx
  refine T_seq ?_
  refine T_reg ?_
  refine T_val (Ev_assign rfl) rfl ?_
  refine T_val (Ev_assign rfl) rfl ?_
  refine T_nil ?_
  refine T_next ?_
  refine T_seq ?_
  refine T_reg ?_
  refine T_val (Ev_move rfl) rfl ?_
  refine T_val (Ev_conv_wu64 rfl (by kernel_rfl) Try.underlying169) rfl ?_
  refine T_val (Ev_move rfl) rfl ?_
  refine T_val (Ev_conv_wu64 rfl (by kernel_rfl) Try.underlying169) rfl ?_
  refine T_val (Ev_mul_wu64 rfl rfl) rfl ?_
  refine T_val (Ev_assign rfl) rfl ?_
  refine T_nil ?_
  refine T_next ?_
  refine T_seq ?_
  refine T_reg ?_
  refine T_val (Ev_move rfl) rfl ?_
  refine T_val (Ev_shrW rfl rfl (by decide)) rfl ?_
  refine T_val (Ev_conv_wu32 rfl (by kernel_rfl) Try.underlying105) rfl ?_
  refine T_val (Ev_move rfl) rfl ?_
  refine T_val (Ev_conv_wu32 rfl (by kernel_rfl) Try.underlying105) rfl ?_
  refine T_val (Ev_assign rfl) rfl ?_
  refine T_val (Ev_assign rfl) rfl ?_
  refine T_nil ?_
  refine T_next ?_
  refine T_retc ?_
  obtain rfl := Option.some.inj hx
  exact T_retP (rs := [.tmp 4, .tmp 5]) Try.results140 (.tmp rfl (.tmp rfl (.nil))) (Ln := []) ⟨rfl, rfl, trivial⟩ (loNil) (by exact .refl)
set_option maxRecDepth 100000 in
theorem math_bits_Mul64_ok (p0 : Int) (p1 : Int)  {r : Int × Int} (hx : math_bits_Mul64 p0 p1 = some r) (w : World) : CtL Try.prog 141 [.int .u64 (p0), .int .u64 (p1)] w fun v Ln => v = .tuple #[.int .u64 (r.1), .int .u64 (r.2)] ∧ Ln = [] ∧ True := by
  refine CtL.mk 51 Try.func141 rfl Try.ntmps141 (by kernel_rfl) rfl ?_
  show T 51 _ [(0, .int .u64 (p0)), (1, .int .u64 (p1))] _
  unfold math_bits_Mul64 at hx
  refine T_seq ?_
  refine T_reg ?_
  refine T_val (Ev_assign rfl) rfl ?_
  refine T_val (Ev_assign rfl) rfl ?_
  refine T_nil ?_
  refine T_next ?_
  refine T_seq ?_
  refine T_reg ?_
  refine T_val (Ev_move rfl) rfl ?_
  refine T_val (Ev_bitW_and rfl rfl) rfl ?_
  refine T_val (Ev_assign rfl) rfl ?_
  refine T_nil ?_
  refine T_next ?_
  refine T_seq ?_
  refine T_reg ?_
  refine T_val (Ev_move rfl) rfl ?_
  refine T_val (Ev_shrW rfl rfl (by decide)) rfl ?_
  refine T_val (Ev_assign rfl) rfl ?_
  refine T_nil ?_
  refine T_next ?_
  refine T_seq ?_
  refine T_reg ?_
  refine T_val (Ev_move rfl) rfl ?_
  refine T_val (Ev_bitW_and rfl rfl) rfl ?_
  refine T_val (Ev_assign rfl) rfl ?_
  refine T_nil ?_
  refine T_next ?_
  refine T_seq ?_
  refine T_reg ?_
  refine T_val (Ev_move rfl) rfl ?_
  refine T_val (Ev_shrW rfl rfl (by decide)) rfl ?_
  refine T_val (Ev_assign rfl) rfl ?_
  refine T_nil ?_
  refine T_next ?_
  refine T_seq ?_
  refine T_reg ?_
  refine T_val (Ev_move rfl) rfl ?_
  refine T_val (Ev_move rfl) rfl ?_
  refine T_val (Ev_mul_wu64 rfl rfl) rfl ?_
  refine T_val (Ev_assign rfl) rfl ?_
  refine T_nil ?_
  refine T_next ?_
  refine T_seq ?_
  refine T_reg ?_
  refine T_val (Ev_move rfl) rfl ?_
  refine T_val (Ev_move rfl) rfl ?_
  refine T_val (Ev_mul_wu64 rfl rfl) rfl ?_
  refine T_val (Ev_move rfl) rfl ?_
  refine T_val (Ev_shrW rfl rfl (by decide)) rfl ?_
  refine T_val (Ev_add_wu64 rfl rfl) rfl ?_
  refine T_val (Ev_assign rfl) rfl ?_
  refine T_nil ?_
  refine T_next ?_
  refine T_seq ?_
  refine T_reg ?_
  refine T_val (Ev_move rfl) rfl ?_
  refine T_val (Ev_bitW_and rfl rfl) rfl ?_
  refine T_val (Ev_assign rfl) rfl ?_
  refine T_nil ?_
  refine T_next ?_
  refine T_seq ?_
  refine T_reg ?_
  refine T_val (Ev_move rfl) rfl ?_
  refine T_val (Ev_shrW rfl rfl (by decide)) rfl ?_
  refine T_val (Ev_assign rfl) rfl ?_
  refine T_nil ?_
  refine T_next ?_
  refine T_seq ?_
  refine T_reg ?_
  refine T_val (Ev_move rfl) rfl ?_
  refine T_val (Ev_move rfl) rfl ?_
  refine T_val (Ev_move rfl) rfl ?_
  refine T_val (Ev_mul_wu64 rfl rfl) rfl ?_
  refine T_val (Ev_add_wu64 rfl rfl) rfl ?_
  refine T_val (Ev_assign rfl) rfl ?_
  refine T_nil ?_
  refine T_next ?_
  refine T_seq ?_
  refine T_reg ?_
  refine T_val (Ev_move rfl) rfl ?_
  refine T_val (Ev_move rfl) rfl ?_
  refine T_val (Ev_mul_wu64 rfl rfl) rfl ?_
  refine T_val (Ev_move rfl) rfl ?_
  refine T_val (Ev_add_wu64 rfl rfl) rfl ?_
  refine T_val (Ev_move rfl) rfl ?_
  refine T_val (Ev_shrW rfl rfl (by decide)) rfl ?_
  refine T_val (Ev_add_wu64 rfl rfl) rfl ?_
  refine T_val (Ev_assign rfl) rfl ?_
  refine T_nil ?_
  refine T_next ?_
  refine T_seq ?_
  refine T_reg ?_
  refine T_val (Ev_move rfl) rfl ?_
  refine T_val (Ev_move rfl) rfl ?_
  refine T_val (Ev_mul_wu64 rfl rfl) rfl ?_
  refine T_val (Ev_assign rfl) rfl ?_
  refine T_nil ?_
  refine T_next ?_
  refine T_retc ?_
  obtain rfl := Option.some.inj hx
  exact T_retP (rs := [.tmp 4, .tmp 5]) Try.results141 (.tmp rfl (.tmp rfl (.nil))) (Ln := []) ⟨rfl, rfl, trivial⟩ (loNil) (by exact .refl)
set_option maxRecDepth 100000 in
theorem math_bits_Mul_ok (p0 : Int) (p1 : Int)  {r : Int × Int} (hx : math_bits_Mul p0 p1 = some r) (w : World) : CtL Try.prog 117 [.int .u64 (p0), .int .u64 (p1)] w fun v Ln => v = .tuple #[.int .u64 (r.1), .int .u64 (r.2)] ∧ Ln = [] ∧ True := by
  refine CtL.mk 30 Try.func117 rfl Try.ntmps117 (by kernel_rfl) rfl ?_
  show T 30 _ [(0, .int .u64 (p0)), (1, .int .u64 (p1))] _
  unfold math_bits_Mul at hx
  refine T_seq ?_
  refine T_reg ?_
  refine T_val (Ev_assign rfl) rfl ?_
  refine T_val (Ev_assign rfl) rfl ?_
  refine T_nil ?_
  refine T_next ?_
  refine T_seq ?_
  refine T_condF rfl ?_
  refine T_skip ?_
  refine T_next ?_
  refine T_seq ?_
  refine T_reg ?_
  refine T_val (Ev_move rfl) rfl ?_
  refine T_val (Ev_move rfl) rfl ?_
  obtain ⟨r1, h2, hx3⟩ := bnd_some hx
  refine T_x (Wx_callL rfl (fun w1 hw1 => math_bits_Mul64_ok p0 p1  h2 w1) rfl ?_)
  rintro _ _ hlo ⟨rfl, rfl, -⟩
  refine T_app0 ?_
  refine T_val (Ev_move rfl) rfl ?_
  refine T_val (Ev_extract rfl rfl) rfl ?_
  refine T_val (Ev_extract rfl rfl) rfl ?_
  refine T_val (Ev_assign rfl) rfl ?_
  refine T_val (Ev_assign rfl) rfl ?_
  refine T_nil ?_
  refine T_next ?_
  refine T_seq ?_
  refine T_reg ?_
  refine T_val (Ev_move rfl) rfl ?_
  refine T_val (Ev_move rfl) rfl ?_
  refine T_val (Ev_assign rfl) rfl ?_
  refine T_val (Ev_assign rfl) rfl ?_
  refine T_nil ?_
  refine T_next ?_
  refine T_retc ?_
  obtain rfl := Option.some.inj hx3
  exact T_retP (rs := [.tmp 4, .tmp 5]) Try.results117 (.tmp rfl (.tmp rfl (.nil))) (Ln := []) ⟨rfl, rfl, trivial⟩ (loNil) (by exact .refl)
set_option maxRecDepth 100000 in
theorem slices_Repeat___api_Cell_api_Cell__ok (p0 : List S_api_Cell) (p1 : Int) {K : List Ent} {A0_0 : Option Addr} {c0_0 : Nat} (ha0 : Has K A0_0 (p0).length c0_0 3 e_api_Cell (p0)) {r : List S_api_Cell} (hx : slices_Repeat___api_Cell_api_Cell_ p0 p1 = some r) (w : World) (hK : ∀ e ∈ K, Ent.ok w e) : CtL Try.prog 84 [.slice (A0_0) ((p0).length) (c0_0), .int .i64 (p1)] w fun v Ln => ∃ (A0 : Option Addr) (c0 : Nat), v = .slice (A0) ((r).length) (c0) ∧ Ln = [.r A0 (r).length c0 41 3 ((r).flatMap e_api_Cell)] ∧ True := by
  have ha0' := Has.up0 ha0
  refine CtL.mk 48 Try.func84 rfl Try.ntmps84 (by kernel_rfl) rfl ?_
  show T 48 _ [(0, .slice (A0_0) ((p0).length) (c0_0)), (1, .int .i64 (p1))] _
  unfold slices_Repeat___api_Cell_api_Cell_ at hx
  refine T_seq ?_
  refine T_reg ?_
  refine T_val (Ev_assign rfl) rfl ?_
  refine T_nil ?_
  refine T_next ?_
  refine T_seq ?_
  refine T_seq ?_
  refine T_reg ?_
  refine T_val (Ev_move rfl) rfl ?_
  refine T_val (Ev_lss rfl rfl) rfl ?_
  refine T_nil ?_
  refine T_next ?_
  refine T_caseP (s := 10) rfl (fun h1 => ?_) (fun h1 => ?_)
  · have hx2 := ite_t h1 hx
    refine T_condT rfl ?_
    refine T_reg ?_
    exact none_no hx2
  · have hx3 := ite_f h1 hx
    refine T_condF rfl ?_
    refine T_skip ?_
    refine T_next ?_
    refine T_seq ?_
    refine T_reg ?_
    refine T_val (Ev_move rfl) rfl ?_
    refine T_val (Ev_len rfl 41 Try.underlying24) rfl ?_
    refine T_val (Ev_conv_wu64 rfl (by kernel_rfl) Try.underlying159) rfl ?_
    refine T_val (Ev_move rfl) rfl ?_
    refine T_val (Ev_conv_wu64 rfl (by kernel_rfl) Try.underlying159) rfl ?_
    obtain ⟨r4, h5, hx6⟩ := bnd_some hx3
    refine T_x (Wx_callL rfl (fun w1 hw1 => math_bits_Mul_ok (wu64 ((((p0).length : Nat) : Int))) (wu64 (p1))  h5 w1) rfl ?_)
    rintro _ _ hlo ⟨rfl, rfl, -⟩
    refine T_app0 ?_
    refine T_val (Ev_move rfl) rfl ?_
    refine T_val (Ev_extract rfl rfl) rfl ?_
    refine T_val (Ev_extract rfl rfl) rfl ?_
    refine T_val (Ev_assign rfl) rfl ?_
    refine T_val (Ev_assign rfl) rfl ?_
    refine T_nil ?_
    refine T_next ?_
    refine T_seq ?_
    obtain ⟨j6, hj6, hx6⟩ := jn_some hx6
    refine T_cutP (τ := Bool) (γ := Unit) (J := j6) (out := r) (fun s6 y6 => [(0, .slice (A0_0) ((p0).length) (c0_0)), (6, .int .u64 (r4.2)), (26, .bool (s6))]) (fun s6 y6 => [] ++ [.old w]) (fun s6 y6 => True) ?_ ?_
    · intro s6 y6 hx10 hG11
      subst hj6
      refine T_caseB (s := 26) rfl (fun h12 => ?_) (fun h12 => ?_)
      · have hx13 := ite_t h12 hx10
        refine T_condT rfl ?_
        refine T_reg ?_
        exact none_no hx13
      · have hx14 := ite_bf h12 hx10
        refine T_condF rfl ?_
        refine T_skip ?_
        refine T_next ?_
        refine T_seq ?_
        refine T_reg ?_
        refine T_val (Ev_move rfl) rfl ?_
        refine T_val (Ev_conv_w64 rfl (by kernel_rfl) Try.underlying3) rfl ?_
        obtain ⟨h16, hx17⟩ := gd_some hx14
        refine T_x (Wx_makeS (sz := 3) (z := .agg #[.bool (false), .int .i64 (0), .int .i64 (0)]) e_api_Cell (⟨false, (⟨0, 0⟩ : S_api_Span)⟩ : S_api_Cell) rfl rfl rfl h16.1 Try.underlying24 (show Try.prog.info? 41 = some Try.t41 from by kernel_rfl) (by kernel_rfl) (by rfl) (by kernel_rfl) (by decide) (fun _ => rfl) (show 24 * _ ≤ _ from h16.2) (by decide) rfl (fun A15 => ?_))
        refine T_val (Ev_assign rfl) rfl ?_
        refine T_nil ?_
        refine T_next ?_
        refine T_seq ?_
        refine T_reg ?_
        refine T_val (Ev_move rfl) rfl ?_
        refine T_val (Ev_move rfl) rfl ?_
        have hw18 := Has.low (E := []) ha0' hK
        refine T_h (Wh_copyW e_api_Cell (List.replicate (Int.toNat (w64 (r4.2))) (⟨false, (⟨0, 0⟩ : S_api_Span)⟩ : S_api_Cell)) (p0) 0 rfl rfl hw18 (SubE.cons2 (i := 1) rfl (SubE.nil)) rfl (Nat.zero_le _) (fun _ h hc => win_all h hc) (.here) Try.underlying24 (by kernel_rfl) (by decide) (fun _ => rfl) (fun _ => rfl) rfl ?_)
        refine T_val (Ev_assign rfl) rfl ?_
        refine T_nil ?_
        refine T_next ?_
        obtain ⟨j9, hj9, hx17⟩ := jn_some hx17
        refine T_cutP (τ := List S_api_Cell) (γ := (Option Addr) × Nat) (J := j9) (out := r) (fun s9 y9 => [(7, .slice (y9.1) ((s9).length) (y9.2))]) (fun s9 y9 => [.r (y9.1) ((s9).length) (y9.2) 41 3 ((s9).flatMap e_api_Cell)] ++ [.old w]) (fun s9 y9 => True) ?_ ?_
        · intro s9 y9 hx53 hG54
          subst hj9
          refine T_seq ?_
          refine T_reg ?_
          refine T_val (Ev_move rfl) rfl ?_
          refine T_val (Ev_assign rfl) rfl ?_
          refine T_nil ?_
          refine T_next ?_
          refine T_retc ?_
          obtain rfl := Option.some.inj hx53
          exact T_retP (rs := [.tmp 4]) Try.results84 (.tmp rfl (.nil)) (Ln := [.r (y9.1) ((s9).length) (y9.2) 41 3 ((s9).flatMap e_api_Cell)]) ⟨y9.1, y9.2, rfl, rfl, trivial⟩ (loCons rfl (loNil)) (by exact .pick 0 rfl (.refl))
        · skip
          refine T_block ?_
          obtain ⟨t35, hl35, ho35⟩ := bnd_some hx17
          have hn36 : (List.replicate (Int.toNat (w64 (r4.2))) (⟨false, (⟨0, 0⟩ : S_api_Span)⟩ : S_api_Cell)).length = (cpy (List.replicate (Int.toNat (w64 (r4.2))) (⟨false, (⟨0, 0⟩ : S_api_Span)⟩ : S_api_Cell)) 0 p0).length := (cpy_len (Nat.zero_le _)).symm
          refine T_ent (.here) (e' := .r (A15) ((cpy (List.replicate (Int.toNat (w64 (r4.2))) (⟨false, (⟨0, 0⟩ : S_api_Span)⟩ : S_api_Cell)) 0 p0).length) ((List.replicate (Int.toNat (w64 (r4.2))) (⟨false, (⟨0, 0⟩ : S_api_Span)⟩ : S_api_Cell)).length) 41 3 ((cpy (List.replicate (Int.toNat (w64 (r4.2))) (⟨false, (⟨0, 0⟩ : S_api_Span)⟩ : S_api_Cell)) 0 p0).flatMap e_api_Cell)) (by first | (rw [← hn36]; done) | rfl) ?_
          refine T_slot (s := 7) (v' := .slice (A15) ((cpy (List.replicate (Int.toNat (w64 (r4.2))) (⟨false, (⟨0, 0⟩ : S_api_Span)⟩ : S_api_Cell)) 0 p0).length) ((List.replicate (Int.toNat (w64 (r4.2))) (⟨false, (⟨0, 0⟩ : S_api_Span)⟩ : S_api_Cell)).length)) rfl (by have hn37 : ((List.replicate (Int.toNat (w64 (r4.2))) (⟨false, (⟨0, 0⟩ : S_api_Span)⟩ : S_api_Cell)).length) = (cpy (List.replicate (Int.toNat (w64 (r4.2))) (⟨false, (⟨0, 0⟩ : S_api_Span)⟩ : S_api_Cell)) 0 p0).length := (cpy_len (Nat.zero_le _)).symm; first | (rw [← hn37]; done) | rfl) ?_
          refine T_loopP (σ := (List S_api_Cell) × Int) (γ := (Option Addr) × Nat) hl35 (fun s35 y35 => [(7, .slice (y35.1) ((s35.1).length) (y35.2)), (8, .int .i64 (s35.2))]) (fun s35 y35 => [.r (y35.1) ((s35.1).length) (y35.2) 41 3 ((s35.1).flatMap e_api_Cell)] ++ [.old w]) (fun s35 y35 => True) (A15, (List.replicate (Int.toNat (w64 (r4.2))) (⟨false, (⟨0, 0⟩ : S_api_Span)⟩ : S_api_Cell)).length) trivial (by exact .cons rfl (.cons rfl (.nil))) (by exact .pick 0 rfl (.refl)) ?_
          intro s35 y35 hG35 x35 hx35 ht35
          unfold slices_Repeat___api_Cell_api_Cell__l8 at hx35
          refine T_seq ?_
          refine T_seq ?_
          refine T_reg ?_
          refine T_val (Ev_move rfl) rfl ?_
          refine T_val (Ev_move rfl) rfl ?_
          refine T_val (Ev_len rfl 41 Try.underlying24) rfl ?_
          refine T_val (Ev_lss rfl rfl) rfl ?_
          refine T_nil ?_
          refine T_next ?_
          refine T_caseP (s := 37) rfl (fun h38 => ?_) (fun h38 => ?_)
          · have hx39 := ite_t h38 hx35
            refine T_condT rfl ?_
            refine T_skip ?_
            refine T_next ?_
            refine T_block ?_
            refine T_draw [0, 0, 0, 0, 0, 0, 0, 3, 0, 2] [[], [], [], [1, 2], [], [], [4, 5], [1, 2, 3, 4, 5, 6], [0, 1, 2, 3, 4, 5, 6, 7], [0, 1, 2, 3, 4, 5, 6, 7, 8]] (.q 0 (.q 1 (.q 2 (.q 3 (.q 4 (.q 5 (.q 6 (.e 7 (.q 8 (.e 9 (.done) (.stop))) (.stop))))))))) mixed (by kernel_rfl) (by kernel_rfl) ?_
            refine P_p rfl rfl (Ev_move rfl) rfl ?_
            refine P_p rfl rfl (Ev_move rfl) rfl ?_
            refine P_p rfl rfl (Ev_move rfl) rfl ?_
            refine T_rowP (k := 0) rfl (by decide) (fun _ => rfl) (fun hn41 hs42 => ?_)
            obtain ⟨h44, hx45⟩ := gd_some hx39
            have hs43 := Has.subL hs42 h44.1 h44.2
            refine P_p rfl rfl (Ev_subL rfl rfl slc24 h44.1 h44.2) rfl ?_
            refine P_p rfl rfl (Ev_move rfl) rfl ?_
            refine P_p rfl rfl (Ev_move rfl) rfl ?_
            refine T_rowP (k := 0) rfl (by decide) (fun _ => rfl) (fun hn46 hs47 => ?_)
            obtain ⟨h49, hx50⟩ := gd_some hx45
            have hs48 := Has.subH hs47 h49.1 h49.2
            refine P_p rfl rfl (Ev_subH rfl rfl slc24 h49.1 (by have := Has.nc hs47; omega)) rfl ?_
            refine P_h rfl rfl (Wh_copyW e_api_Cell (s35.1) (subl s35.1 0 s35.2) (Int.toNat s35.2) rfl rfl hs48 (SubE.cons2 (i := 0) rfl (SubE.nil)) rfl (by have := h44.2; omega) (fun _ h hc => win_slA h hc) (.here) Try.underlying24 (by kernel_rfl) (by decide) (fun _ => rfl) (fun _ => rfl) rfl ?_) ?_
            rotate_left; exact P_stop
            refine P_p rfl rfl (Ev_add_w64 rfl rfl) rfl ?_
            refine P_x rfl (Wx_val (Ev_assign rfl) rfl ?_) ?_
            rotate_left; exact P_stop
            refine P_done ?_
            refine T_inN ?_
            have hn51 : (s35.1).length = (cpy s35.1 (Int.toNat s35.2) (subl s35.1 0 s35.2)).length := (cpy_len (by have := h44.2; omega)).symm
            refine T_ent (.here) (e' := .r (y35.1) ((cpy s35.1 (Int.toNat s35.2) (subl s35.1 0 s35.2)).length) (y35.2) 41 3 ((cpy s35.1 (Int.toNat s35.2) (subl s35.1 0 s35.2)).flatMap e_api_Cell)) (by first | (rw [← hn51]; done) | rfl) ?_
            refine T_slot (s := 7) (v' := .slice (y35.1) ((cpy s35.1 (Int.toNat s35.2) (subl s35.1 0 s35.2)).length) (y35.2)) rfl (by have hn52 : ((s35.1).length) = (cpy s35.1 (Int.toNat s35.2) (subl s35.1 0 s35.2)).length := (cpy_len (by have := h44.2; omega)).symm; first | (rw [← hn52]; done) | rfl) ?_
            exact T_roundP (cpy s35.1 (Int.toNat s35.2) (subl s35.1 0 s35.2), w64 (s35.2 + (((min (subl s35.1 0 s35.2).length ((s35.1).length - (Int.toNat s35.2)) : Nat) : Int)))) (y35.1, y35.2) hx50 trivial (by exact .cons rfl (.cons rfl (.nil))) (by exact .pick 0 rfl (.refl))
          · have hx40 := ite_f h38 hx35
            refine T_condF rfl ?_
            refine T_exit ?_
            refine T_outX ?_
            obtain rfl := exit_eq ht35 hx40
            refine T_outX ?_
            refine T_here ?_
            exact T_metP s35.1 (y35.1, y35.2) ho35 trivial (by exact .cons rfl (.nil)) (by exact .pick 0 rfl (.refl))
    · skip
      refine T_reg ?_
      refine T_val (Ev_move rfl) rfl ?_
      refine T_val (Ev_gtr rfl rfl) rfl ?_
      refine T_val (Ev_move rfl) rfl ?_
      refine T_caseP (s := 23) rfl (fun h7 => ?_) (fun h7 => ?_)
      · have hx8 := ite_t h7 hx6
        refine T_skipG rfl rfl rfl rfl rfl ?_
        refine T_skipG rfl rfl rfl rfl rfl ?_
        refine T_val (Ev_pickT rfl rfl) rfl ?_
        refine T_nil ?_
        exact T_metP true () hx8 trivial (by exact .cons rfl (.cons rfl (.cons rfl (.nil)))) (by exact .refl)
      · have hx9 := ite_f h7 hx6
        refine T_valG rfl rfl rfl (Ev_move rfl) rfl ?_
        refine T_valG rfl rfl rfl (Ev_gtr rfl rfl) rfl ?_
        refine T_val (Ev_pickF rfl rfl) rfl ?_
        refine T_nil ?_
        exact T_metP (decide (9223372036854775807 < r4.2)) () hx9 trivial (by exact .cons rfl (.cons rfl (.cons rfl (.nil)))) (by exact .refl)
set_option maxRecDepth 100000 in
theorem model_joined_ok (p0 : S_api_Cell) (p1 : S_api_Cell)  {r : S_api_Cell} (hx : model_joined p0 p1 = some r) (w : World) : CtL Try.prog 85 [.agg #[.bool (p0.Void), .int .i64 (p0.Z.Lo), .int .i64 (p0.Z.Hi)], .agg #[.bool (p1.Void), .int .i64 (p1.Z.Lo), .int .i64 (p1.Z.Hi)]] w fun v Ln => v = .agg #[.bool (r.Void), .int .i64 (r.Z.Lo), .int .i64 (r.Z.Hi)] ∧ Ln = [] ∧ True := by
  refine CtL.mk 29 Try.func85 rfl Try.ntmps85 (by kernel_rfl) rfl ?_
  show T 29 _ [(0, .agg #[.bool (p0.Void), .int .i64 (p0.Z.Lo), .int .i64 (p0.Z.Hi)]), (1, .agg #[.bool (p1.Void), .int .i64 (p1.Z.Lo), .int .i64 (p1.Z.Hi)])] _
  unfold model_joined at hx
  refine T_seq ?_
  refine T_reg ?_
  refine T_x (Wx_box rfl rfl rfl (fun g1 => ?_))
  refine T_x (Wx_box rfl rfl rfl (fun g2 => ?_))
  refine T_x (Wx_alloc zer41 rfl (fun g3 => ?_))
  refine T_nil ?_
  refine T_next ?_
  refine T_seq ?_
  refine T_block ?_
  refine T_seq ?_
  refine T_reg ?_
  refine T_val (Ev_field rfl fld41_0 rfl) rfl ?_
  refine T_val (Ev_load1 rfl (i := 2) rfl rfl one4) rfl ?_
  refine T_val (Ev_assign rfl) rfl ?_
  refine T_nil ?_
  refine T_next ?_
  refine T_caseB (s := 5) rfl (fun h4 => ?_) (fun h4 => ?_)
  · have hx5 := ite_t h4 hx
    refine T_condT rfl ?_
    refine T_seq ?_
    refine T_reg ?_
    refine T_val (Ev_loadK rfl (i := 1) rfl rfl agg41) rfl ?_
    refine T_h (Wh_store rfl rfl rfl (.here) (.put (.put (.put (.done)))) rfl (List.cons_ne_nil _ _) agg41.2 ?_)
    refine T_nil ?_
    refine T_next ?_
    refine T_retc ?_
    refine T_inR ?_
    refine T_outR ?_
    obtain rfl := Option.some.inj hx5
    exact T_retP (rs := [.cell 4 41]) Try.results85 (.cell rfl (i := 0) rfl rfl agg41 (.nil)) (Ln := []) ⟨rfl, rfl, trivial⟩ (loNil) (by exact .drop 0 rfl (.drop 0 rfl (.drop 0 rfl (.refl))))
  · have hx6 := ite_bf h4 hx
    refine T_condF rfl ?_
    refine T_seq ?_
    refine T_reg ?_
    refine T_val (Ev_field rfl fld41_0 rfl) rfl ?_
    refine T_val (Ev_load1 rfl (i := 1) rfl rfl one4) rfl ?_
    refine T_val (Ev_assign rfl) rfl ?_
    refine T_nil ?_
    refine T_next ?_
    refine T_caseB (s := 9) rfl (fun h7 => ?_) (fun h7 => ?_)
    · have hx8 := ite_t h7 hx6
      refine T_condT rfl ?_
      refine T_seq ?_
      refine T_reg ?_
      refine T_val (Ev_loadK rfl (i := 2) rfl rfl agg41) rfl ?_
      refine T_h (Wh_store rfl rfl rfl (.here) (.put (.put (.put (.done)))) rfl (List.cons_ne_nil _ _) agg41.2 ?_)
      refine T_nil ?_
      refine T_next ?_
      refine T_retc ?_
      refine T_inR ?_
      refine T_outR ?_
      obtain rfl := Option.some.inj hx8
      exact T_retP (rs := [.cell 4 41]) Try.results85 (.cell rfl (i := 0) rfl rfl agg41 (.nil)) (Ln := []) ⟨rfl, rfl, trivial⟩ (loNil) (by exact .drop 0 rfl (.drop 0 rfl (.drop 0 rfl (.refl))))
    · have hx9 := ite_bf h7 hx6
      refine T_condF rfl ?_
      refine T_skip ?_
      refine T_inN ?_
      refine T_next ?_
      refine T_seq ?_
      refine T_reg ?_
      refine T_val (Ev_field rfl fld41_1 rfl) rfl ?_
      refine T_val (Ev_field rfl fld39_0 rfl) rfl ?_
      refine T_val (Ev_load1 rfl (i := 2) rfl rfl one3) rfl ?_
      refine T_val (Ev_field rfl fld41_1 rfl) rfl ?_
      refine T_val (Ev_field rfl fld39_0 rfl) rfl ?_
      refine T_val (Ev_load1 rfl (i := 1) rfl rfl one3) rfl ?_
      refine T_val (Ev_min2 rfl rfl) rfl ?_
      refine T_val (Ev_field rfl fld41_1 rfl) rfl ?_
      refine T_val (Ev_field rfl fld39_1 rfl) rfl ?_
      refine T_val (Ev_load1 rfl (i := 2) rfl rfl one3) rfl ?_
      refine T_val (Ev_field rfl fld41_1 rfl) rfl ?_
      refine T_val (Ev_field rfl fld39_1 rfl) rfl ?_
      refine T_val (Ev_load1 rfl (i := 1) rfl rfl one3) rfl ?_
      refine T_val (Ev_max2 rfl rfl) rfl ?_
      refine T_val (Ev_build rfl (bld39_0i641i64 _ _)) rfl ?_
      refine T_val (Ev_build rfl (bld41_1ai64i64 _ _)) rfl ?_
      refine T_h (Wh_store rfl rfl rfl (.here) (.put (.put (.put (.done)))) rfl (List.cons_ne_nil _ _) agg41.2 ?_)
      refine T_nil ?_
      refine T_next ?_
      refine T_retc ?_
      obtain rfl := Option.some.inj hx9
      exact T_retP (rs := [.cell 4 41]) Try.results85 (.cell rfl (i := 0) rfl rfl agg41 (.nil)) (Ln := []) ⟨rfl, rfl, trivial⟩ (loNil) (by exact .drop 0 rfl (.drop 0 rfl (.drop 0 rfl (.refl))))
set_option maxRecDepth 100000 in
theorem model_Coarse_ok (p0 : S_api_Grid) (p1 : Int) {K : List Ent} {A0_0 : Option Addr} {c0_0 : Nat} (ha0 : Has K A0_0 (p0.Cells).length c0_0 3 e_api_Cell (p0.Cells)) {r : S_api_Grid × Int} (hx : model_Coarse p0 p1 = some r) (w : World) (hK : ∀ e ∈ K, Ent.ok w e) : CtL Try.prog 45 [.agg #[.int .i64 (p0.Raster.X0), .int .i64 (p0.Raster.Y0), .int .i64 (p0.Raster.Step), .int .i64 (p0.Raster.NX), .int .i64 (p0.Raster.NY), .slice (A0_0) ((p0.Cells).length) (c0_0)], .int .i64 (p1)] w fun v Ln => ∃ (A0 : Option Addr) (c0 : Nat), v = .tuple #[.agg #[.int .i64 (r.1.Raster.X0), .int .i64 (r.1.Raster.Y0), .int .i64 (r.1.Raster.Step), .int .i64 (r.1.Raster.NX), .int .i64 (r.1.Raster.NY), .slice (A0) ((r.1.Cells).length) (c0)], .int .i64 (r.2)] ∧ Ln = [.r A0 (r.1.Cells).length c0 41 3 ((r.1.Cells).flatMap e_api_Cell)] ∧ True := by
  have ha0' := Has.up0 ha0
  refine CtL.mk 78 Try.func45 rfl Try.ntmps45 (by kernel_rfl) rfl ?_
  show T 78 _ [(0, .agg #[.int .i64 (p0.Raster.X0), .int .i64 (p0.Raster.Y0), .int .i64 (p0.Raster.Step), .int .i64 (p0.Raster.NX), .int .i64 (p0.Raster.NY), .slice (A0_0) ((p0.Cells).length) (c0_0)]), (1, .int .i64 (p1))] _
  unfold model_Coarse at hx
  refine T_seq ?_
  refine T_reg ?_
  refine T_x (Wx_box rfl rfl rfl (fun g1 => ?_))
  refine T_x (Wx_alloc zer26 rfl (fun g2 => ?_))
  refine T_val (Ev_assign rfl) rfl ?_
  refine T_nil ?_
  refine T_next ?_
  refine T_seq ?_
  refine T_seq ?_
  refine T_reg ?_
  refine T_val (Ev_loadK rfl (i := 1) rfl rfl agg26) rfl ?_
  refine T_val (Ev_move rfl) rfl ?_
  obtain ⟨r3, h4, hx5⟩ := bnd_some hx
  refine T_x (Wx_callL rfl (fun w1 hw1 => model_refused_ok p0 p1 (Has.len' ha0') h4 w1 (okApp (K := K) (K2 := []) hK (by exact (SubE.cons2 (i := 2) rfl (SubE.nil))) (by exact (SubE.nil)) hw1)) rfl ?_)
  rintro _ _ hlo ⟨rfl, rfl, -⟩
  refine T_app0 ?_
  refine T_val (Ev_assign rfl) rfl ?_
  refine T_nil ?_
  refine T_next ?_
  refine T_seq ?_
  refine T_reg ?_
  refine T_val (Ev_move rfl) rfl ?_
  refine T_val (Ev_neq rfl rfl) rfl ?_
  refine T_nil ?_
  refine T_next ?_
  refine T_caseNP (s := 17) rfl (fun h6 => ?_) (fun h6 => ?_)
  · have hx7 := ite_f h6 hx5
    refine T_condT rfl ?_
    refine T_seq ?_
    refine T_reg ?_
    refine T_val (Ev_build rfl (bld26_)) rfl ?_
    refine T_val (Ev_move rfl) rfl ?_
    refine T_h (Wh_store rfl rfl rfl (.here) (.put (.put (.put (.put (.put (.put (.done))))))) rfl (List.cons_ne_nil _ _) agg26.2 ?_)
    refine T_val (Ev_assign rfl) rfl ?_
    refine T_nil ?_
    refine T_next ?_
    refine T_retc ?_
    refine T_outR ?_
    refine T_none 41 3 ?_
    obtain rfl := Option.some.inj hx7
    exact T_retP (rs := [.cell 4 26, .tmp 5]) Try.results45 (.cell rfl (i := 1) rfl rfl agg26 (.tmp rfl (.nil))) (Ln := [.r (none) (0) (0) 41 3 ((([] : List S_api_Cell)).flatMap e_api_Cell)]) ⟨none, 0, rfl, rfl, trivial⟩ (loCons rfl (loNil)) (by exact .pick 0 rfl (.drop 0 rfl (.drop 0 rfl (.refl))))
  · have hx8 := ite_t h6 hx5
    refine T_condF rfl ?_
    refine T_skip ?_
    refine T_next ?_
    refine T_seq ?_
    refine T_reg ?_
    refine T_val (Ev_field rfl fld26_0 rfl) rfl ?_
    refine T_val (Ev_loadK rfl (i := 1) rfl rfl agg23) rfl ?_
    refine T_val (Ev_move rfl) rfl ?_
    obtain ⟨r9, h10, hx11⟩ := bnd_some hx8
    refine T_x (Wx_callL rfl (fun w1 hw1 => model_reduced_ok p0.Raster p1  h10 w1) rfl ?_)
    rintro _ _ hlo ⟨rfl, rfl, -⟩
    refine T_app0 ?_
    refine T_val (Ev_build rfl (bld26_0ai64i64i64i64i64 _ _ _ _ _)) rfl ?_
    refine T_x (Wx_alloc zer26 rfl (fun g12 => ?_))
    refine T_h (Wh_store rfl rfl rfl (.here) (.put (.put (.put (.put (.put (.put (.done))))))) rfl (List.cons_ne_nil _ _) agg26.2 ?_)
    refine T_nil ?_
    refine T_next ?_
    refine T_seq ?_
    refine T_reg ?_
    refine T_val (Ev_build rfl (bld41_0b _)) rfl ?_
    refine T_x (Wx_buildSlice rfl (bls24_1_0abi64i64 _ _ _) rfl (fun g13 => ?_))
    refine T_val (Ev_field rfl fld26_0 rfl) rfl ?_
    refine T_val (Ev_field rfl fld23_3 rfl) rfl ?_
    refine T_val (Ev_load1 rfl (i := 1) rfl rfl one3) rfl ?_
    refine T_val (Ev_field rfl fld26_0 rfl) rfl ?_
    refine T_val (Ev_field rfl fld23_4 rfl) rfl ?_
    refine T_val (Ev_load1 rfl (i := 1) rfl rfl one3) rfl ?_
    refine T_val (Ev_mul_w64 rfl rfl) rfl ?_
    have hs14 : Has [.m g13 41 [.bool (true), .int .i64 (0), .int .i64 (0)]] (some ⟨g13, 0, none⟩) 1 1 3 e_api_Cell [(⟨true, (⟨0, 0⟩ : S_api_Span)⟩ : S_api_Cell)] := Has.ofM (fun _ _ => rfl) rfl (by decide) rfl
    obtain ⟨r15, h16, hx17⟩ := bnd_some hx11
    refine T_x (Wx_callL rfl (fun w1 hw1 => slices_Repeat___api_Cell_api_Cell__ok ([(⟨true, (⟨0, 0⟩ : S_api_Span)⟩ : S_api_Cell)]) (w64 (r9.NX * r9.NY)) (Has.len' hs14) h16 w1 (okAll (K := ([.m g13 41 [.bool (true), .int .i64 (0), .int .i64 (0)]] : List Ent)) (by exact (SubE.cons2 (i := 0) rfl (SubE.nil))) hw1)) rfl ?_)
    rintro _ _ hlo ⟨A18, c19, rfl, rfl, -⟩
    refine T_app1 ?_
    refine T_val (Ev_field rfl fld26_1 rfl) rfl ?_
    refine T_h (Wh_store rfl rfl rfl (.there (.there (.here))) (.skip (.skip (.skip (.skip (.skip (.put (.done))))))) rfl (List.cons_ne_nil _ _) one24.2 ?_)
    refine T_nil ?_
    refine T_next ?_
    obtain ⟨j8, hj8, hx17⟩ := jn_some hx17
    refine T_cutP (τ := List S_api_Cell) (γ := (Option Addr) × Nat) (J := j8) (out := r) (fun s8 y8 => [(4, .pointer (some ⟨g2, 0, none⟩)), (7, .pointer (some ⟨g12, 0, none⟩))]) (fun s8 y8 => [.r (y8.1) ((s8).length) (y8.2) 41 3 ((s8).flatMap e_api_Cell), .m g12 26 [.int .i64 (r9.X0), .int .i64 (r9.Y0), .int .i64 (r9.Step), .int .i64 (r9.NX), .int .i64 (r9.NY), .slice (y8.1) ((s8).length) (y8.2)], .m g2 26 [.int .i64 (0), .int .i64 (0), .int .i64 (0), .int .i64 (0), .int .i64 (0), .slice (none) (0) (0)]] ++ [.old w]) (fun s8 y8 => True) ?_ ?_
    · intro s8 y8 hx119 hG120
      subst hj8
      refine T_seq ?_
      refine T_reg ?_
      refine T_val (Ev_loadK rfl (i := 1) rfl rfl agg26) rfl ?_
      refine T_h (Wh_store rfl rfl rfl (.there (.there (.here))) (.put (.put (.put (.put (.put (.put (.done))))))) rfl (List.cons_ne_nil _ _) agg26.2 ?_)
      refine T_val (Ev_assign rfl) rfl ?_
      refine T_nil ?_
      refine T_next ?_
      refine T_retc ?_
      obtain rfl := Option.some.inj hx119
      exact T_retP (rs := [.cell 4 26, .tmp 5]) Try.results45 (.cell rfl (i := 2) rfl rfl agg26 (.tmp rfl (.nil))) (Ln := [.r (y8.1) ((s8).length) (y8.2) 41 3 ((s8).flatMap e_api_Cell)]) ⟨y8.1, y8.2, rfl, rfl, trivial⟩ (loCons rfl (loNil)) (by exact .pick 0 rfl (.drop 0 rfl (.drop 0 rfl (.refl))))
    · skip
      refine T_seq ?_
      refine T_reg ?_
      refine T_val (Ev_field rfl fld26_1 rfl) rfl ?_
      refine T_val (Ev_load1 rfl (i := 4) rfl rfl one24) rfl ?_
      refine T_val (Ev_len rfl 41 Try.underlying24) rfl ?_
      refine T_val (Ev_move rfl) rfl ?_
      refine T_nil ?_
      refine T_next ?_
      refine T_block ?_
      obtain ⟨t69, hl69, ho69⟩ := bnd_some hx17
      refine T_loopP (σ := (List S_api_Cell) × Int) (γ := (Option Addr) × Nat) hl69 (fun s69 y69 => [(1, .int .i64 (p1)), (2, .pointer (some ⟨g1, 0, none⟩)), (4, .pointer (some ⟨g2, 0, none⟩)), (7, .pointer (some ⟨g12, 0, none⟩)), (37, .slice (A0_0) ((p0.Cells).length) (c0_0)), (38, .int .i64 ((((p0.Cells).length : Nat) : Int))), (39, .int .i64 (s69.2))]) (fun s69 y69 => [.r (y69.1) ((s69.1).length) (y69.2) 41 3 ((s69.1).flatMap e_api_Cell), .m g12 26 [.int .i64 (r9.X0), .int .i64 (r9.Y0), .int .i64 (r9.Step), .int .i64 (r9.NX), .int .i64 (r9.NY), .slice (y69.1) ((s69.1).length) (y69.2)], .m g2 26 [.int .i64 (0), .int .i64 (0), .int .i64 (0), .int .i64 (0), .int .i64 (0), .slice (none) (0) (0)], .m g1 26 [.int .i64 (p0.Raster.X0), .int .i64 (p0.Raster.Y0), .int .i64 (p0.Raster.Step), .int .i64 (p0.Raster.NX), .int .i64 (p0.Raster.NY), .slice (A0_0) ((p0.Cells).length) (c0_0)]] ++ [.old w]) (fun s69 y69 => True) (A18, c19) trivial (by exact .cons rfl (.cons rfl (.cons rfl (.cons rfl (.cons rfl (.cons rfl (.cons rfl (.nil)))))))) (by exact .pick 0 rfl (.pick 1 rfl (.pick 1 rfl (.pick 1 rfl (.drop 0 rfl (.refl)))))) ?_
      intro s69 y69 hG69 x69 hx69 ht69
      unfold model_Coarse_l7 at hx69
      refine T_seq ?_
      refine T_reg ?_
      refine T_val (Ev_lss rfl rfl) rfl ?_
      refine T_nil ?_
      refine T_next ?_
      refine T_seq ?_
      refine T_caseP (s := 40) rfl (fun h70 => ?_) (fun h70 => ?_)
      · have hx71 := ite_t h70 hx69
        refine T_condT rfl ?_
        refine T_skip ?_
        refine T_next ?_
        refine T_seq ?_
        refine T_block ?_
        refine T_seq ?_
        refine T_reg ?_
        refine T_val (Ev_move rfl) rfl ?_
        obtain ⟨x73, h74, hx75⟩ := bnd_some hx71
        have hw83 := Has.low (E := []) ha0' hK
        obtain ⟨b76, o77, j78, hA79, hj80, hl81, hp82⟩ := Has.at_idx hw83 h74
        refine T_val (Ev_index rfl rfl hA79 (j := j78) hj80 hl81 slc24) rfl ?_
        refine T_val (Ev_loadPK0 rfl hp82 (SubE.cons2 (i := 4) rfl (SubE.nil)) rfl agg41) rfl ?_
        refine T_x (Wx_alloc zer41 rfl (fun g84 => ?_))
        refine T_val (Ev_assign rfl) rfl ?_
        refine T_h (Wh_store rfl rfl rfl (.here) (.put (.put (.put (.done)))) rfl (List.cons_ne_nil _ _) agg41.2 ?_)
        refine T_nil ?_
        refine T_next ?_
        refine T_seq ?_
        refine T_draw [0, 0, 0, 1, 0, 0, 0, 0, 0, 0, 1, 0, 0, 0, 2, 2] [[], [], [1], [1, 2], [0, 1, 2, 3], [], [0, 1, 2, 3, 4, 5], [], [], [8], [8, 9], [7, 8, 9, 10], [], [7, 8, 9, 10, 11, 12], [0, 1, 2, 3, 4, 5, 6], [0, 1, 2, 3, 4, 5, 6, 7, 8, 9, 10, 11, 12, 13, 14]] (.q 0 (.q 1 (.q 2 (.q 3 (.q 4 (.q 5 (.q 6 (.q 7 (.q 8 (.q 9 (.q 10 (.q 11 (.q 12 (.q 13 (.e 14 (.e 15 (.done) (.stop)) (.stop)))))))))))))))) mixed (by kernel_rfl) (by kernel_rfl) ?_
        refine P_p rfl rfl (Ev_move rfl) rfl ?_
        refine P_p rfl rfl (Ev_field rfl fld26_0 rfl) rfl ?_
        refine P_p rfl rfl (Ev_field rfl fld23_3 rfl) rfl ?_
        refine P_q rfl rfl (Ev_load1 rfl (i := 4) rfl rfl one3) rfl ?_
        obtain ⟨h85, hx86⟩ := gd_some hx75
        refine P_p rfl rfl (Ev_rem rfl rfl h85) rfl ?_
        refine P_p rfl rfl (Ev_move rfl) rfl ?_
        obtain ⟨h87, hx88⟩ := gd_some hx86
        refine P_p rfl rfl (Ev_quo_w64 rfl rfl h87) rfl ?_
        refine P_p rfl rfl (Ev_move rfl) rfl ?_
        refine P_p rfl rfl (Ev_field rfl fld26_0 rfl) rfl ?_
        refine P_p rfl rfl (Ev_field rfl fld23_3 rfl) rfl ?_
        refine P_q rfl rfl (Ev_load1 rfl (i := 4) rfl rfl one3) rfl ?_
        obtain ⟨h89, hx90⟩ := gd_some hx88
        refine P_p rfl rfl (Ev_quo_w64 rfl rfl h89) rfl ?_
        refine P_p rfl rfl (Ev_move rfl) rfl ?_
        obtain ⟨h91, hx92⟩ := gd_some hx90
        refine P_p rfl rfl (Ev_quo_w64 rfl rfl h91) rfl ?_
        refine P_x rfl (Wx_val (Ev_assign rfl) rfl ?_) ?_
        rotate_left; exact P_stop
        refine P_x rfl (Wx_val (Ev_assign rfl) rfl ?_) ?_
        rotate_left; exact P_stop
        refine P_done ?_
        refine T_next ?_
        refine T_seq ?_
        refine T_reg ?_
        refine T_val (Ev_move rfl) rfl ?_
        refine T_val (Ev_field rfl fld26_0 rfl) rfl ?_
        refine T_val (Ev_field rfl fld23_3 rfl) rfl ?_
        refine T_val (Ev_load1 rfl (i := 2) rfl rfl one3) rfl ?_
        refine T_val (Ev_mul_w64 rfl rfl) rfl ?_
        refine T_val (Ev_move rfl) rfl ?_
        refine T_val (Ev_add_w64 rfl rfl) rfl ?_
        refine T_val (Ev_assign rfl) rfl ?_
        refine T_nil ?_
        refine T_next ?_
        refine T_draw [0, 1, 0, 0, 1, 0, 0, 1, 1, 2, 0, 3] [[], [0], [], [], [3], [], [3, 4, 5], [3, 4, 5, 6], [], [3, 4, 5, 6, 7, 8], [0, 1, 2, 3, 4, 5, 6, 7, 8, 9], [0, 1, 2, 3, 4, 5, 6, 7, 8, 9, 10]] (.q 0 (.q 1 (.q 2 (.q 3 (.q 4 (.q 5 (.q 6 (.q 7 (.q 8 (.e 9 (.q 10 (.e 11 (.done) (.stop))) (.stop))))))))))) mixed (by kernel_rfl) (by kernel_rfl) ?_
        refine P_p rfl rfl (Ev_field rfl fld26_1 rfl) rfl ?_
        refine P_q rfl rfl (Ev_load1 rfl (i := 2) rfl rfl one24) rfl ?_
        refine P_p rfl rfl (Ev_move rfl) rfl ?_
        refine P_p rfl rfl (Ev_field rfl fld26_1 rfl) rfl ?_
        refine P_q rfl rfl (Ev_load1 rfl (i := 2) rfl rfl one24) rfl ?_
        refine P_p rfl rfl (Ev_move rfl) rfl ?_
        obtain ⟨x93, h94, hx95⟩ := bnd_some hx92
        refine T_idxR (k := 1) rfl (by decide) (fun _ => rfl) h94 (fun b96 j98 hA99 hj100 hl101 hm103 hp102 => ?_)
        refine P_p rfl rfl (Ev_index rfl rfl hA99 (j := j98) hj100 hl101 slc24) rfl ?_
        refine P_q rfl rfl (Ev_loadPK0 rfl hp102 (SubE.cons2 (i := 1) rfl (SubE.nil)) rfl agg41) rfl ?_
        refine P_q rfl rfl (Ev_loadK rfl (i := 0) rfl rfl agg41) rfl ?_
        obtain ⟨r104, h105, hx106⟩ := bnd_some hx95
        refine P_x rfl (Wx_callL rfl (fun w1 hw1 => model_joined_ok x93 x73  h105 w1) rfl ?_) ?_
        rotate_left; exact P_stop
        rintro _ _ hlo ⟨rfl, rfl, -⟩
        refine T_app0 ?_
        obtain ⟨x107, h108, hx109⟩ := bnd_some hx106
        refine T_idxR (k := 1) rfl (by decide) (fun _ => rfl) h108 (fun b110 j112 hA113 hj114 hl115 hm117 hp116 => ?_)
        refine P_p rfl rfl (Ev_index rfl rfl hA113 (j := j112) hj114 hl115 slc24) rfl ?_
        refine P_h rfl rfl (Wh_storeP e_api_Cell (s69.1) (w64 ((w64 ((w64 (Int.tdiv (w64 (Int.tdiv s69.2 p0.Raster.NX)) p1)) * r9.NX)) + (w64 (Int.tdiv (Int.tmod s69.2 p0.Raster.NX) p1)))) (r104) rfl rfl rfl (.there (.here)) hA113 rfl hj114 hl115 (fun _ => rfl) (by decide) rfl agg41.2 ?_) ?_
        rotate_left; exact P_stop
        refine P_done ?_
        refine T_inN ?_
        refine T_next ?_
        refine T_reg ?_
        refine T_val (Ev_add_w64 rfl rfl) rfl ?_
        refine T_val (Ev_move rfl) rfl ?_
        refine T_nil ?_
        have hn118 : (s69.1).length = (setI s69.1 (w64 ((w64 ((w64 (Int.tdiv (w64 (Int.tdiv s69.2 p0.Raster.NX)) p1)) * r9.NX)) + (w64 (Int.tdiv (Int.tmod s69.2 p0.Raster.NX) p1)))) r104).length := by simp [setI_len, cpy_len, List.length_append] <;> omega
        refine T_ent (.there (.here)) (e' := .r (y69.1) ((setI s69.1 (w64 ((w64 ((w64 (Int.tdiv (w64 (Int.tdiv s69.2 p0.Raster.NX)) p1)) * r9.NX)) + (w64 (Int.tdiv (Int.tmod s69.2 p0.Raster.NX) p1)))) r104).length) (y69.2) 41 3 ((setI s69.1 (w64 ((w64 ((w64 (Int.tdiv (w64 (Int.tdiv s69.2 p0.Raster.NX)) p1)) * r9.NX)) + (w64 (Int.tdiv (Int.tmod s69.2 p0.Raster.NX) p1)))) r104).flatMap e_api_Cell)) (by first | (rw [← hn118]; done) | rfl) ?_
        refine T_ent (.there (.there (.here))) (e' := .m g12 26 [.int .i64 (r9.X0), .int .i64 (r9.Y0), .int .i64 (r9.Step), .int .i64 (r9.NX), .int .i64 (r9.NY), .slice (y69.1) ((setI s69.1 (w64 ((w64 ((w64 (Int.tdiv (w64 (Int.tdiv s69.2 p0.Raster.NX)) p1)) * r9.NX)) + (w64 (Int.tdiv (Int.tmod s69.2 p0.Raster.NX) p1)))) r104).length) (y69.2)]) (by first | (rw [show ((s69.1).length) = (setI s69.1 (w64 ((w64 ((w64 (Int.tdiv (w64 (Int.tdiv s69.2 p0.Raster.NX)) p1)) * r9.NX)) + (w64 (Int.tdiv (Int.tmod s69.2 p0.Raster.NX) p1)))) r104).length from (by simp [setI_len, cpy_len, List.length_append] <;> omega)]; done) | rfl) ?_
        exact T_roundP (setI s69.1 (w64 ((w64 ((w64 (Int.tdiv (w64 (Int.tdiv s69.2 p0.Raster.NX)) p1)) * r9.NX)) + (w64 (Int.tdiv (Int.tmod s69.2 p0.Raster.NX) p1)))) r104, w64 (s69.2 + 1)) (y69.1, y69.2) hx109 trivial (by exact .cons rfl (.cons rfl (.cons rfl (.cons rfl (.cons rfl (.cons rfl (.cons rfl (.nil)))))))) (by exact .pick 1 rfl (.pick 1 rfl (.pick 1 rfl (.pick 1 rfl (.drop 0 rfl (.refl))))))
      · have hx72 := ite_f h70 hx69
        refine T_condF rfl ?_
        refine T_exit ?_
        refine T_outX ?_
        obtain rfl := exit_eq ht69 hx72
        refine T_outX ?_
        refine T_here ?_
        exact T_metP s69.1 (y69.1, y69.2) ho69 trivial (by exact .cons rfl (.cons rfl (.nil))) (by exact .pick 0 rfl (.pick 0 rfl (.pick 0 rfl (.drop 0 rfl (.refl)))))
set_option maxRecDepth 100000 in
theorem lidarlaw09_ModelCoarsens_ok (p0 : S_api_Grid) (p1 : Int) {K : List Ent} {A0_0 : Option Addr} {c0_0 : Nat} (ha0 : Has K A0_0 (p0.Cells).length c0_0 3 e_api_Cell (p0.Cells)) {r : Bool} (hx : lidarlaw09_ModelCoarsens p0 p1 = some r) (w : World) (hK : ∀ e ∈ K, Ent.ok w e) : CtL Try.prog 9 [.agg #[.int .i64 (p0.Raster.X0), .int .i64 (p0.Raster.Y0), .int .i64 (p0.Raster.Step), .int .i64 (p0.Raster.NX), .int .i64 (p0.Raster.NY), .slice (A0_0) ((p0.Cells).length) (c0_0)], .int .i64 (p1)] w fun v Ln => v = .bool (r) ∧ Ln = [] ∧ True := by
  have ha0' := Has.up0 ha0
  refine CtL.mk 61 Try.func9 rfl Try.ntmps9 (by kernel_rfl) rfl ?_
  show T 61 _ [(0, .agg #[.int .i64 (p0.Raster.X0), .int .i64 (p0.Raster.Y0), .int .i64 (p0.Raster.Step), .int .i64 (p0.Raster.NX), .int .i64 (p0.Raster.NY), .slice (A0_0) ((p0.Cells).length) (c0_0)]), (1, .int .i64 (p1))] _
  unfold lidarlaw09_ModelCoarsens at hx
  refine T_seq ?_
  refine T_reg ?_
  refine T_x (Wx_box rfl rfl rfl (fun g1 => ?_))
  refine T_val (Ev_assign rfl) rfl ?_
  refine T_nil ?_
  refine T_next ?_
  refine T_seq ?_
  refine T_seq ?_
  refine T_reg ?_
  refine T_val (Ev_loadK rfl (i := 0) rfl rfl agg26) rfl ?_
  obtain ⟨r2, h3, hx4⟩ := bnd_some hx
  refine T_x (Wx_callL rfl (fun w1 hw1 => lidarlaw09_heavy_ok p0 (Has.len' ha0') h3 w1 (okApp (K := K) (K2 := []) hK (by exact (SubE.cons2 (i := 1) rfl (SubE.nil))) (by exact (SubE.nil)) hw1)) rfl ?_)
  rintro _ _ hlo ⟨rfl, rfl, -⟩
  refine T_app0 ?_
  refine T_nil ?_
  refine T_next ?_
  refine T_caseB (s := 14) rfl (fun h5 => ?_) (fun h5 => ?_)
  · have hx6 := ite_t h5 hx4
    refine T_condT rfl ?_
    refine T_seq ?_
    refine T_reg ?_
    obtain ⟨r7, h8, hx9⟩ := bnd_some hx6
    refine T_x (Wx_callL rfl (fun w1 hw1 => lidarlaw09_first_ok  h8 w1) rfl ?_)
    rintro _ _ hlo ⟨rfl, rfl, -⟩
    refine T_app0 ?_
    refine T_val (Ev_assign rfl) rfl ?_
    refine T_nil ?_
    refine T_next ?_
    refine T_retc ?_
    refine T_outR ?_
    obtain rfl := Option.some.inj hx9
    exact T_retP (rs := [.tmp 4]) Try.results9 (.tmp rfl (.nil)) (Ln := []) ⟨rfl, rfl, trivial⟩ (loNil) (by exact .drop 0 rfl (.refl))
  · have hx10 := ite_bf h5 hx4
    refine T_condF rfl ?_
    refine T_skip ?_
    refine T_next ?_
    refine T_seq ?_
    refine T_reg ?_
    refine T_val (Ev_loadK rfl (i := 0) rfl rfl agg26) rfl ?_
    refine T_val (Ev_move rfl) rfl ?_
    obtain ⟨r11, h12, hx13⟩ := bnd_some hx10
    refine T_x (Wx_callL rfl (fun w1 hw1 => model_Thin_ok p0 p1 (Has.len' ha0') h12 w1 (okApp (K := K) (K2 := []) hK (by exact (SubE.cons2 (i := 1) rfl (SubE.nil))) (by exact (SubE.nil)) hw1)) rfl ?_)
    rintro _ _ hlo ⟨A14, c15, rfl, rfl, -⟩
    refine T_app1 ?_
    refine T_val (Ev_move rfl) rfl ?_
    refine T_val (Ev_extract rfl rfl) rfl ?_
    refine T_val (Ev_extract rfl rfl) rfl ?_
    refine T_x (Wx_alloc zer26 rfl (fun g16 => ?_))
    refine T_h (Wh_store rfl rfl rfl (.here) (.put (.put (.put (.put (.put (.put (.done))))))) rfl (List.cons_ne_nil _ _) agg26.2 ?_)
    refine T_val (Ev_assign rfl) rfl ?_
    refine T_nil ?_
    refine T_next ?_
    refine T_seq ?_
    refine T_reg ?_
    refine T_val (Ev_loadK rfl (i := 2) rfl rfl agg26) rfl ?_
    refine T_val (Ev_move rfl) rfl ?_
    obtain ⟨r17, h18, hx19⟩ := bnd_some hx13
    refine T_x (Wx_callL rfl (fun w1 hw1 => lidarref09_Thin_ok p0 p1 false (Has.len' ha0') h18 w1 (okApp (K := K) (K2 := []) hK (by exact (SubE.cons2 (i := 3) rfl (SubE.nil))) (by exact (SubE.nil)) hw1)) rfl ?_)
    rintro _ _ hlo ⟨A20, c21, rfl, rfl, -⟩
    refine T_app1 ?_
    refine T_val (Ev_move rfl) rfl ?_
    refine T_val (Ev_extract rfl rfl) rfl ?_
    refine T_val (Ev_extract rfl rfl) rfl ?_
    refine T_x (Wx_alloc zer26 rfl (fun g22 => ?_))
    refine T_h (Wh_store rfl rfl rfl (.here) (.put (.put (.put (.put (.put (.put (.done))))))) rfl (List.cons_ne_nil _ _) agg26.2 ?_)
    refine T_val (Ev_assign rfl) rfl ?_
    refine T_nil ?_
    refine T_next ?_
    refine T_seq ?_
    refine T_reg ?_
    refine T_val (Ev_loadK rfl (i := 4) rfl rfl agg26) rfl ?_
    refine T_val (Ev_move rfl) rfl ?_
    obtain ⟨r23, h24, hx25⟩ := bnd_some hx19
    refine T_x (Wx_callL rfl (fun w1 hw1 => model_Coarse_ok p0 p1 (Has.len' ha0') h24 w1 (okApp (K := K) (K2 := []) hK (by exact (SubE.cons2 (i := 5) rfl (SubE.nil))) (by exact (SubE.nil)) hw1)) rfl ?_)
    rintro _ _ hlo ⟨A26, c27, rfl, rfl, -⟩
    refine T_app1 ?_
    refine T_val (Ev_move rfl) rfl ?_
    refine T_val (Ev_extract rfl rfl) rfl ?_
    refine T_val (Ev_extract rfl rfl) rfl ?_
    refine T_x (Wx_alloc zer26 rfl (fun g28 => ?_))
    refine T_h (Wh_store rfl rfl rfl (.here) (.put (.put (.put (.put (.put (.put (.done))))))) rfl (List.cons_ne_nil _ _) agg26.2 ?_)
    refine T_val (Ev_assign rfl) rfl ?_
    refine T_nil ?_
    refine T_next ?_
    refine T_seq ?_
    refine T_reg ?_
    refine T_val (Ev_loadK rfl (i := 6) rfl rfl agg26) rfl ?_
    refine T_val (Ev_move rfl) rfl ?_
    obtain ⟨r29, h30, hx31⟩ := bnd_some hx25
    refine T_x (Wx_callL rfl (fun w1 hw1 => lidarref09_Thin_ok p0 p1 true (Has.len' ha0') h30 w1 (okApp (K := K) (K2 := []) hK (by exact (SubE.cons2 (i := 7) rfl (SubE.nil))) (by exact (SubE.nil)) hw1)) rfl ?_)
    rintro _ _ hlo ⟨A32, c33, rfl, rfl, -⟩
    refine T_app1 ?_
    refine T_val (Ev_move rfl) rfl ?_
    refine T_val (Ev_extract rfl rfl) rfl ?_
    refine T_val (Ev_extract rfl rfl) rfl ?_
    refine T_x (Wx_alloc zer26 rfl (fun g34 => ?_))
    refine T_h (Wh_store rfl rfl rfl (.here) (.put (.put (.put (.put (.put (.put (.done))))))) rfl (List.cons_ne_nil _ _) agg26.2 ?_)
    refine T_val (Ev_assign rfl) rfl ?_
    refine T_nil ?_
    refine T_next ?_
    obtain ⟨j9, hj9, hx31⟩ := jn_some hx31
    refine T_cutP (τ := Bool) (γ := Unit) (J := j9) (out := r) (fun s9 y9 => [(4, .bool (s9))]) (fun s9 y9 => [] ++ [.old w]) (fun s9 y9 => True) ?_ ?_
    · intro s9 y9 hx64 hG65
      subst hj9
      refine T_retc ?_
      obtain rfl := Option.some.inj hx64
      exact T_retP (rs := [.tmp 4]) Try.results9 (.tmp rfl (.nil)) (Ln := []) ⟨rfl, rfl, trivial⟩ (loNil) (by exact .refl)
    · skip
      refine T_reg ?_
      refine T_val (Ev_move rfl) rfl ?_
      refine T_val (Ev_move rfl) rfl ?_
      refine T_val (Ev_eql rfl rfl) rfl ?_
      refine T_val (Ev_move rfl) rfl ?_
      refine T_caseP (s := 43) rfl (fun h35 => ?_) (fun h35 => ?_)
      · have hx36 := ite_t h35 hx31
        refine T_valG rfl rfl rfl (Ev_loadK rfl (i := 6) rfl rfl agg26) rfl ?_
        refine T_valG rfl rfl rfl (Ev_loadK rfl (i := 4) rfl rfl agg26) rfl ?_
        refine T_rowP (k := 7) rfl (by decide) (fun _ => rfl) (fun hn37 hs38 => ?_)
        refine T_rowP (k := 5) rfl (by decide) (fun _ => rfl) (fun hn39 hs40 => ?_)
        obtain ⟨r41, h42, hx43⟩ := bnd_some hx36
        refine T_xG rfl rfl rfl (Wx_callL rfl (fun w1 hw1 => lidarlaw09_Same_ok r11.1 r17.1 (Has.len' (Has.up (L := ([.r (A14) ((r11.1.Cells).length) (c15) 41 3 ((r11.1.Cells).flatMap e_api_Cell), .r (A20) ((r17.1.Cells).length) (c21) 41 3 ((r17.1.Cells).flatMap e_api_Cell)] : List Ent)) hs38 (SubE.cons2 (i := 0) rfl (SubE.nil)))) (Has.len' (Has.up (L := ([.r (A14) ((r11.1.Cells).length) (c15) 41 3 ((r11.1.Cells).flatMap e_api_Cell), .r (A20) ((r17.1.Cells).length) (c21) 41 3 ((r17.1.Cells).flatMap e_api_Cell)] : List Ent)) hs40 (SubE.cons2 (i := 1) rfl (SubE.nil)))) h42 w1 (okAll (K := ([.r (A14) ((r11.1.Cells).length) (c15) 41 3 ((r11.1.Cells).flatMap e_api_Cell), .r (A20) ((r17.1.Cells).length) (c21) 41 3 ((r17.1.Cells).flatMap e_api_Cell)] : List Ent)) (by exact (SubE.cons2 (i := 7) rfl (SubE.cons2 (i := 5) rfl (SubE.nil)))) hw1)) rfl ?_)
        rintro _ _ hlo ⟨rfl, rfl, -⟩
        refine T_app0 ?_
        refine T_val (Ev_pickT rfl rfl) rfl ?_
        refine T_val (Ev_move rfl) rfl ?_
        refine T_caseB (s := 48) rfl (fun h44 => ?_) (fun h44 => ?_)
        · have hx45 := ite_t h44 hx43
          refine T_valG rfl rfl rfl (Ev_move rfl) rfl ?_
          refine T_valG rfl rfl rfl (Ev_move rfl) rfl ?_
          refine T_valG rfl rfl rfl (Ev_eql rfl rfl) rfl ?_
          refine T_val (Ev_pickT rfl rfl) rfl ?_
          refine T_val (Ev_move rfl) rfl ?_
          refine T_caseP (s := 53) rfl (fun h46 => ?_) (fun h46 => ?_)
          · have hx47 := ite_t h46 hx45
            refine T_valG rfl rfl rfl (Ev_loadK rfl (i := 2) rfl rfl agg26) rfl ?_
            refine T_valG rfl rfl rfl (Ev_loadK rfl (i := 0) rfl rfl agg26) rfl ?_
            refine T_rowP (k := 3) rfl (by decide) (fun _ => rfl) (fun hn48 hs49 => ?_)
            refine T_rowP (k := 1) rfl (by decide) (fun _ => rfl) (fun hn50 hs51 => ?_)
            obtain ⟨r52, h53, hx54⟩ := bnd_some hx47
            refine T_xG rfl rfl rfl (Wx_callL rfl (fun w1 hw1 => lidarlaw09_Same_ok r23.1 r29.1 (Has.len' (Has.up (L := ([.r (A26) ((r23.1.Cells).length) (c27) 41 3 ((r23.1.Cells).flatMap e_api_Cell), .r (A32) ((r29.1.Cells).length) (c33) 41 3 ((r29.1.Cells).flatMap e_api_Cell)] : List Ent)) hs49 (SubE.cons2 (i := 0) rfl (SubE.nil)))) (Has.len' (Has.up (L := ([.r (A26) ((r23.1.Cells).length) (c27) 41 3 ((r23.1.Cells).flatMap e_api_Cell), .r (A32) ((r29.1.Cells).length) (c33) 41 3 ((r29.1.Cells).flatMap e_api_Cell)] : List Ent)) hs51 (SubE.cons2 (i := 1) rfl (SubE.nil)))) h53 w1 (okAll (K := ([.r (A26) ((r23.1.Cells).length) (c27) 41 3 ((r23.1.Cells).flatMap e_api_Cell), .r (A32) ((r29.1.Cells).length) (c33) 41 3 ((r29.1.Cells).flatMap e_api_Cell)] : List Ent)) (by exact (SubE.cons2 (i := 3) rfl (SubE.cons2 (i := 1) rfl (SubE.nil)))) hw1)) rfl ?_)
            rintro _ _ hlo ⟨rfl, rfl, -⟩
            refine T_app0 ?_
            refine T_val (Ev_pickT rfl rfl) rfl ?_
            refine T_val (Ev_move rfl) rfl ?_
            refine T_caseB (s := 58) rfl (fun h55 => ?_) (fun h55 => ?_)
            · have hx56 := ite_t h55 hx54
              obtain ⟨r57, h58, hx59⟩ := bnd_some hx56
              refine T_xG rfl rfl rfl (Wx_callL rfl (fun w1 hw1 => lidarlaw09_first_ok  h58 w1) rfl ?_)
              rintro _ _ hlo ⟨rfl, rfl, -⟩
              refine T_app0 ?_
              refine T_val (Ev_pickT rfl rfl) rfl ?_
              refine T_val (Ev_assign rfl) rfl ?_
              refine T_nil ?_
              exact T_metP r57 () hx59 trivial (by exact .cons rfl (.nil)) (by exact .drop 0 rfl (.drop 0 rfl (.drop 0 rfl (.drop 0 rfl (.drop 0 rfl (.drop 0 rfl (.drop 0 rfl (.drop 0 rfl (.drop 0 rfl (.refl))))))))))
            · have hx60 := ite_bf h55 hx54
              refine T_skipG rfl rfl rfl rfl rfl ?_
              refine T_val (Ev_pickF rfl rfl) rfl ?_
              refine T_val (Ev_assign rfl) rfl ?_
              refine T_nil ?_
              exact T_metP false () hx60 trivial (by exact .cons rfl (.nil)) (by exact .drop 0 rfl (.drop 0 rfl (.drop 0 rfl (.drop 0 rfl (.drop 0 rfl (.drop 0 rfl (.drop 0 rfl (.drop 0 rfl (.drop 0 rfl (.refl))))))))))
          · have hx61 := ite_f h46 hx45
            refine T_skipG rfl rfl rfl rfl rfl ?_
            refine T_skipG rfl rfl rfl rfl rfl ?_
            refine T_skipG rfl rfl rfl rfl rfl ?_
            refine T_val (Ev_pickF rfl rfl) rfl ?_
            refine T_val (Ev_move rfl) rfl ?_
            refine T_skipG rfl rfl rfl rfl rfl ?_
            refine T_val (Ev_pickF rfl rfl) rfl ?_
            refine T_val (Ev_assign rfl) rfl ?_
            refine T_nil ?_
            exact T_metP false () hx61 trivial (by exact .cons rfl (.nil)) (by exact .drop 0 rfl (.drop 0 rfl (.drop 0 rfl (.drop 0 rfl (.drop 0 rfl (.drop 0 rfl (.drop 0 rfl (.drop 0 rfl (.drop 0 rfl (.refl))))))))))
        · have hx62 := ite_bf h44 hx43
          refine T_skipG rfl rfl rfl rfl rfl ?_
          refine T_skipG rfl rfl rfl rfl rfl ?_
          refine T_skipG rfl rfl rfl rfl rfl ?_
          refine T_val (Ev_pickF rfl rfl) rfl ?_
          refine T_val (Ev_move rfl) rfl ?_
          refine T_skipG rfl rfl rfl rfl rfl ?_
          refine T_skipG rfl rfl rfl rfl rfl ?_
          refine T_skipG rfl rfl rfl rfl rfl ?_
          refine T_val (Ev_pickF rfl rfl) rfl ?_
          refine T_val (Ev_move rfl) rfl ?_
          refine T_skipG rfl rfl rfl rfl rfl ?_
          refine T_val (Ev_pickF rfl rfl) rfl ?_
          refine T_val (Ev_assign rfl) rfl ?_
          refine T_nil ?_
          exact T_metP false () hx62 trivial (by exact .cons rfl (.nil)) (by exact .drop 0 rfl (.drop 0 rfl (.drop 0 rfl (.drop 0 rfl (.drop 0 rfl (.drop 0 rfl (.drop 0 rfl (.drop 0 rfl (.drop 0 rfl (.refl))))))))))
      · have hx63 := ite_f h35 hx31
        refine T_skipG rfl rfl rfl rfl rfl ?_
        refine T_skipG rfl rfl rfl rfl rfl ?_
        refine T_skipG rfl rfl rfl rfl rfl ?_
        refine T_val (Ev_pickF rfl rfl) rfl ?_
        refine T_val (Ev_move rfl) rfl ?_
        refine T_skipG rfl rfl rfl rfl rfl ?_
        refine T_skipG rfl rfl rfl rfl rfl ?_
        refine T_skipG rfl rfl rfl rfl rfl ?_
        refine T_val (Ev_pickF rfl rfl) rfl ?_
        refine T_val (Ev_move rfl) rfl ?_
        refine T_skipG rfl rfl rfl rfl rfl ?_
        refine T_skipG rfl rfl rfl rfl rfl ?_
        refine T_skipG rfl rfl rfl rfl rfl ?_
        refine T_val (Ev_pickF rfl rfl) rfl ?_
        refine T_val (Ev_move rfl) rfl ?_
        refine T_skipG rfl rfl rfl rfl rfl ?_
        refine T_val (Ev_pickF rfl rfl) rfl ?_
        refine T_val (Ev_assign rfl) rfl ?_
        refine T_nil ?_
        exact T_metP false () hx63 trivial (by exact .cons rfl (.nil)) (by exact .drop 0 rfl (.drop 0 rfl (.drop 0 rfl (.drop 0 rfl (.drop 0 rfl (.drop 0 rfl (.drop 0 rfl (.drop 0 rfl (.drop 0 rfl (.refl))))))))))
set_option maxRecDepth 100000 in
theorem lidarlaw09_ModelLevels_ok (p0 : S_api_Grid) (p1 : Int) (p2 : Int) {K : List Ent} {A0_0 : Option Addr} {c0_0 : Nat} (ha0 : Has K A0_0 (p0.Cells).length c0_0 3 e_api_Cell (p0.Cells)) {r : Bool} (hx : lidarlaw09_ModelLevels p0 p1 p2 = some r) (w : World) (hK : ∀ e ∈ K, Ent.ok w e) : CtL Try.prog 10 [.agg #[.int .i64 (p0.Raster.X0), .int .i64 (p0.Raster.Y0), .int .i64 (p0.Raster.Step), .int .i64 (p0.Raster.NX), .int .i64 (p0.Raster.NY), .slice (A0_0) ((p0.Cells).length) (c0_0)], .int .u8 (p1), .int .u8 (p2)] w fun v Ln => v = .bool (r) ∧ Ln = [] ∧ True := by
  have ha0' := Has.up0 ha0
  refine CtL.mk 165 Try.func10 rfl Try.ntmps10 (by kernel_rfl) rfl ?_
  show T 165 _ [(0, .agg #[.int .i64 (p0.Raster.X0), .int .i64 (p0.Raster.Y0), .int .i64 (p0.Raster.Step), .int .i64 (p0.Raster.NX), .int .i64 (p0.Raster.NY), .slice (A0_0) ((p0.Cells).length) (c0_0)]), (1, .int .u8 (p1)), (2, .int .u8 (p2))] _
  unfold lidarlaw09_ModelLevels at hx
  refine T_seq ?_
  refine T_reg ?_
  refine T_x (Wx_box rfl rfl rfl (fun g1 => ?_))
  refine T_val (Ev_assign rfl) rfl ?_
  refine T_nil ?_
  refine T_next ?_
  refine T_seq ?_
  refine T_reg ?_
  refine T_val (Ev_move rfl) rfl ?_
  refine T_val (Ev_conv_w64 rfl (by kernel_rfl) Try.underlying3) rfl ?_
  refine T_val (Ev_rem rfl rfl (by decide)) rfl ?_
  refine T_val (Ev_add_w64 rfl rfl) rfl ?_
  refine T_val (Ev_move rfl) rfl ?_
  refine T_val (Ev_conv_w64 rfl (by kernel_rfl) Try.underlying3) rfl ?_
  refine T_val (Ev_rem rfl rfl (by decide)) rfl ?_
  refine T_val (Ev_add_w64 rfl rfl) rfl ?_
  refine T_val (Ev_assign rfl) rfl ?_
  refine T_val (Ev_assign rfl) rfl ?_
  refine T_nil ?_
  refine T_next ?_
  refine T_seq ?_
  obtain ⟨j4, hj4, hx⟩ := jn_some hx
  refine T_cutP (τ := Bool) (γ := Unit) (J := j4) (out := r) (fun s4 y4 => [(3, .pointer (some ⟨g1, 0, none⟩)), (7, .int .i64 (w64 (1 + (Int.tmod (w64 (p1)) 6)))), (8, .int .i64 (w64 (1 + (Int.tmod (w64 (p2)) 6)))), (39, .bool (s4))]) (fun s4 y4 => [.m g1 26 [.int .i64 (p0.Raster.X0), .int .i64 (p0.Raster.Y0), .int .i64 (p0.Raster.Step), .int .i64 (p0.Raster.NX), .int .i64 (p0.Raster.NY), .slice (A0_0) ((p0.Cells).length) (c0_0)]] ++ [.old w]) (fun s4 y4 => True) ?_ ?_
  · intro s4 y4 hx8 hG9
    subst hj4
    refine T_caseB (s := 39) rfl (fun h10 => ?_) (fun h10 => ?_)
    · have hx11 := ite_t h10 hx8
      refine T_condT rfl ?_
      refine T_seq ?_
      refine T_reg ?_
      obtain ⟨r12, h13, hx14⟩ := bnd_some hx11
      refine T_x (Wx_callL rfl (fun w1 hw1 => lidarlaw09_first_ok  h13 w1) rfl ?_)
      rintro _ _ hlo ⟨rfl, rfl, -⟩
      refine T_app0 ?_
      refine T_val (Ev_assign rfl) rfl ?_
      refine T_nil ?_
      refine T_next ?_
      refine T_retc ?_
      refine T_outR ?_
      obtain rfl := Option.some.inj hx14
      exact T_retP (rs := [.tmp 6]) Try.results10 (.tmp rfl (.nil)) (Ln := []) ⟨rfl, rfl, trivial⟩ (loNil) (by exact .drop 0 rfl (.refl))
    · have hx15 := ite_bf h10 hx8
      refine T_condF rfl ?_
      refine T_skip ?_
      refine T_next ?_
      refine T_seq ?_
      refine T_reg ?_
      refine T_val (Ev_loadK rfl (i := 0) rfl rfl agg26) rfl ?_
      refine T_val (Ev_move rfl) rfl ?_
      obtain ⟨r16, h17, hx18⟩ := bnd_some hx15
      refine T_x (Wx_callL rfl (fun w1 hw1 => model_Thin_ok p0 (w64 (1 + (Int.tmod (w64 (p1)) 6))) (Has.len' ha0') h17 w1 (okApp (K := K) (K2 := []) hK (by exact (SubE.cons2 (i := 1) rfl (SubE.nil))) (by exact (SubE.nil)) hw1)) rfl ?_)
      rintro _ _ hlo ⟨A19, c20, rfl, rfl, -⟩
      refine T_app1 ?_
      refine T_val (Ev_move rfl) rfl ?_
      refine T_val (Ev_extract rfl rfl) rfl ?_
      refine T_val (Ev_extract rfl rfl) rfl ?_
      refine T_x (Wx_alloc zer26 rfl (fun g21 => ?_))
      refine T_h (Wh_store rfl rfl rfl (.here) (.put (.put (.put (.put (.put (.put (.done))))))) rfl (List.cons_ne_nil _ _) agg26.2 ?_)
      refine T_val (Ev_assign rfl) rfl ?_
      refine T_nil ?_
      refine T_next ?_
      refine T_seq ?_
      refine T_reg ?_
      refine T_val (Ev_loadK rfl (i := 0) rfl rfl agg26) rfl ?_
      refine T_val (Ev_move rfl) rfl ?_
      refine T_rowP (k := 1) rfl (by decide) (fun _ => rfl) (fun hn22 hs23 => ?_)
      obtain ⟨r24, h25, hx26⟩ := bnd_some hx18
      refine T_x (Wx_callL rfl (fun w1 hw1 => model_Thin_ok r16.1 (w64 (1 + (Int.tmod (w64 (p2)) 6))) (Has.len' hs23) h25 w1 (okAll (K := ([.r (A19) ((r16.1.Cells).length) (c20) 41 3 ((r16.1.Cells).flatMap e_api_Cell)] : List Ent)) (by exact (SubE.cons2 (i := 1) rfl (SubE.nil))) hw1)) rfl ?_)
      rintro _ _ hlo ⟨A27, c28, rfl, rfl, -⟩
      refine T_app1 ?_
      refine T_val (Ev_move rfl) rfl ?_
      refine T_val (Ev_extract rfl rfl) rfl ?_
      refine T_val (Ev_extract rfl rfl) rfl ?_
      refine T_x (Wx_alloc zer26 rfl (fun g29 => ?_))
      refine T_h (Wh_store rfl rfl rfl (.here) (.put (.put (.put (.put (.put (.put (.done))))))) rfl (List.cons_ne_nil _ _) agg26.2 ?_)
      refine T_val (Ev_assign rfl) rfl ?_
      refine T_nil ?_
      refine T_next ?_
      refine T_seq ?_
      refine T_reg ?_
      refine T_val (Ev_loadK rfl (i := 4) rfl rfl agg26) rfl ?_
      refine T_val (Ev_move rfl) rfl ?_
      refine T_val (Ev_move rfl) rfl ?_
      refine T_val (Ev_mul_w64 rfl rfl) rfl ?_
      obtain ⟨r30, h31, hx32⟩ := bnd_some hx26
      refine T_x (Wx_callL rfl (fun w1 hw1 => model_Thin_ok p0 (w64 ((w64 (1 + (Int.tmod (w64 (p1)) 6))) * (w64 (1 + (Int.tmod (w64 (p2)) 6))))) (Has.len' ha0') h31 w1 (okApp (K := K) (K2 := []) hK (by exact (SubE.cons2 (i := 5) rfl (SubE.nil))) (by exact (SubE.nil)) hw1)) rfl ?_)
      rintro _ _ hlo ⟨A33, c34, rfl, rfl, -⟩
      refine T_app1 ?_
      refine T_val (Ev_move rfl) rfl ?_
      refine T_val (Ev_extract rfl rfl) rfl ?_
      refine T_val (Ev_extract rfl rfl) rfl ?_
      refine T_x (Wx_alloc zer26 rfl (fun g35 => ?_))
      refine T_h (Wh_store rfl rfl rfl (.here) (.put (.put (.put (.put (.put (.put (.done))))))) rfl (List.cons_ne_nil _ _) agg26.2 ?_)
      refine T_val (Ev_assign rfl) rfl ?_
      refine T_nil ?_
      refine T_next ?_
      refine T_seq ?_
      obtain ⟨j10, hj10, hx32⟩ := jn_some hx32
      refine T_cutP (τ := Bool) (γ := Unit) (J := j10) (out := r) (fun s10 y10 => [(3, .pointer (some ⟨g1, 0, none⟩)), (7, .int .i64 (w64 (1 + (Int.tmod (w64 (p1)) 6)))), (8, .int .i64 (w64 (1 + (Int.tmod (w64 (p2)) 6)))), (9, .pointer (some ⟨g21, 0, none⟩)), (11, .pointer (some ⟨g29, 0, none⟩)), (13, .pointer (some ⟨g35, 0, none⟩)), (76, .bool (s10))]) (fun s10 y10 => [.m g35 26 [.int .i64 (r30.1.Raster.X0), .int .i64 (r30.1.Raster.Y0), .int .i64 (r30.1.Raster.Step), .int .i64 (r30.1.Raster.NX), .int .i64 (r30.1.Raster.NY), .slice (A33) ((r30.1.Cells).length) (c34)], .r (A33) ((r30.1.Cells).length) (c34) 41 3 ((r30.1.Cells).flatMap e_api_Cell), .m g29 26 [.int .i64 (r24.1.Raster.X0), .int .i64 (r24.1.Raster.Y0), .int .i64 (r24.1.Raster.Step), .int .i64 (r24.1.Raster.NX), .int .i64 (r24.1.Raster.NY), .slice (A27) ((r24.1.Cells).length) (c28)], .r (A27) ((r24.1.Cells).length) (c28) 41 3 ((r24.1.Cells).flatMap e_api_Cell), .m g21 26 [.int .i64 (r16.1.Raster.X0), .int .i64 (r16.1.Raster.Y0), .int .i64 (r16.1.Raster.Step), .int .i64 (r16.1.Raster.NX), .int .i64 (r16.1.Raster.NY), .slice (A19) ((r16.1.Cells).length) (c20)], .r (A19) ((r16.1.Cells).length) (c20) 41 3 ((r16.1.Cells).flatMap e_api_Cell), .m g1 26 [.int .i64 (p0.Raster.X0), .int .i64 (p0.Raster.Y0), .int .i64 (p0.Raster.Step), .int .i64 (p0.Raster.NX), .int .i64 (p0.Raster.NY), .slice (A0_0) ((p0.Cells).length) (c0_0)]] ++ [.old w]) (fun s10 y10 => True) ?_ ?_
      · intro s10 y10 hx52 hG53
        subst hj10
        refine T_caseB (s := 76) rfl (fun h54 => ?_) (fun h54 => ?_)
        · have hx55 := ite_t h54 hx52
          refine T_condT rfl ?_
          refine T_seq ?_
          refine T_reg ?_
          refine T_val (Ev_assign rfl) rfl ?_
          refine T_nil ?_
          refine T_next ?_
          refine T_retc ?_
          refine T_outR ?_
          obtain rfl := Option.some.inj hx55
          exact T_retP (rs := [.tmp 6]) Try.results10 (.tmp rfl (.nil)) (Ln := []) ⟨rfl, rfl, trivial⟩ (loNil) (by exact .drop 0 rfl (.drop 0 rfl (.drop 0 rfl (.drop 0 rfl (.drop 0 rfl (.drop 0 rfl (.drop 0 rfl (.refl))))))))
        · have hx56 := ite_bf h54 hx52
          refine T_condF rfl ?_
          refine T_skip ?_
          refine T_next ?_
          refine T_seq ?_
          refine T_reg ?_
          refine T_val (Ev_loadK rfl (i := 6) rfl rfl agg26) rfl ?_
          refine T_val (Ev_move rfl) rfl ?_
          obtain ⟨r57, h58, hx59⟩ := bnd_some hx56
          refine T_x (Wx_callL rfl (fun w1 hw1 => model_Coarse_ok p0 (w64 (1 + (Int.tmod (w64 (p1)) 6))) (Has.len' ha0') h58 w1 (okApp (K := K) (K2 := []) hK (by exact (SubE.cons2 (i := 7) rfl (SubE.nil))) (by exact (SubE.nil)) hw1)) rfl ?_)
          rintro _ _ hlo ⟨A60, c61, rfl, rfl, -⟩
          refine T_app1 ?_
          refine T_val (Ev_move rfl) rfl ?_
          refine T_val (Ev_extract rfl rfl) rfl ?_
          refine T_val (Ev_extract rfl rfl) rfl ?_
          refine T_h (Wh_store rfl rfl rfl (.there (.there (.there (.there (.there (.here)))))) (.put (.put (.put (.put (.put (.put (.done))))))) rfl (List.cons_ne_nil _ _) agg26.2 ?_)
          refine T_val (Ev_assign rfl) rfl ?_
          refine T_nil ?_
          refine T_next ?_
          refine T_seq ?_
          refine T_reg ?_
          refine T_val (Ev_loadK rfl (i := 5) rfl rfl agg26) rfl ?_
          refine T_val (Ev_move rfl) rfl ?_
          refine T_rowP (k := 0) rfl (by decide) (fun _ => rfl) (fun hn62 hs63 => ?_)
          obtain ⟨r64, h65, hx66⟩ := bnd_some hx59
          refine T_x (Wx_callL rfl (fun w1 hw1 => model_Coarse_ok r57.1 (w64 (1 + (Int.tmod (w64 (p2)) 6))) (Has.len' hs63) h65 w1 (okAll (K := ([.r (A60) ((r57.1.Cells).length) (c61) 41 3 ((r57.1.Cells).flatMap e_api_Cell)] : List Ent)) (by exact (SubE.cons2 (i := 0) rfl (SubE.nil))) hw1)) rfl ?_)
          rintro _ _ hlo ⟨A67, c68, rfl, rfl, -⟩
          refine T_app1 ?_
          refine T_val (Ev_move rfl) rfl ?_
          refine T_val (Ev_extract rfl rfl) rfl ?_
          refine T_val (Ev_extract rfl rfl) rfl ?_
          refine T_h (Wh_store rfl rfl rfl (.there (.there (.there (.there (.here))))) (.put (.put (.put (.put (.put (.put (.done))))))) rfl (List.cons_ne_nil _ _) agg26.2 ?_)
          refine T_val (Ev_assign rfl) rfl ?_
          refine T_nil ?_
          refine T_next ?_
          refine T_seq ?_
          refine T_reg ?_
          refine T_val (Ev_loadK rfl (i := 8) rfl rfl agg26) rfl ?_
          refine T_val (Ev_move rfl) rfl ?_
          refine T_val (Ev_move rfl) rfl ?_
          refine T_val (Ev_mul_w64 rfl rfl) rfl ?_
          obtain ⟨r69, h70, hx71⟩ := bnd_some hx66
          refine T_x (Wx_callL rfl (fun w1 hw1 => model_Coarse_ok p0 (w64 ((w64 (1 + (Int.tmod (w64 (p1)) 6))) * (w64 (1 + (Int.tmod (w64 (p2)) 6))))) (Has.len' ha0') h70 w1 (okApp (K := K) (K2 := []) hK (by exact (SubE.cons2 (i := 9) rfl (SubE.nil))) (by exact (SubE.nil)) hw1)) rfl ?_)
          rintro _ _ hlo ⟨A72, c73, rfl, rfl, -⟩
          refine T_app1 ?_
          refine T_val (Ev_move rfl) rfl ?_
          refine T_val (Ev_extract rfl rfl) rfl ?_
          refine T_val (Ev_extract rfl rfl) rfl ?_
          refine T_x (Wx_alloc zer26 rfl (fun g74 => ?_))
          refine T_h (Wh_store rfl rfl rfl (.here) (.put (.put (.put (.put (.put (.put (.done))))))) rfl (List.cons_ne_nil _ _) agg26.2 ?_)
          refine T_val (Ev_assign rfl) rfl ?_
          refine T_nil ?_
          refine T_next ?_
          refine T_seq ?_
          obtain ⟨j16, hj16, hx71⟩ := jn_some hx71
          refine T_cutP (τ := Bool) (γ := Unit) (J := j16) (out := r) (fun s16 y16 => [(13, .pointer (some ⟨g35, 0, none⟩)), (15, .pointer (some ⟨g74, 0, none⟩)), (121, .bool (s16))]) (fun s16 y16 => [.m g74 26 [.int .i64 (r69.1.Raster.X0), .int .i64 (r69.1.Raster.Y0), .int .i64 (r69.1.Raster.Step), .int .i64 (r69.1.Raster.NX), .int .i64 (r69.1.Raster.NY), .slice (A72) ((r69.1.Cells).length) (c73)], .r (A72) ((r69.1.Cells).length) (c73) 41 3 ((r69.1.Cells).flatMap e_api_Cell), .m g35 26 [.int .i64 (r30.1.Raster.X0), .int .i64 (r30.1.Raster.Y0), .int .i64 (r30.1.Raster.Step), .int .i64 (r30.1.Raster.NX), .int .i64 (r30.1.Raster.NY), .slice (A33) ((r30.1.Cells).length) (c34)], .r (A33) ((r30.1.Cells).length) (c34) 41 3 ((r30.1.Cells).flatMap e_api_Cell)] ++ [.old w]) (fun s16 y16 => True) ?_ ?_
          · intro s16 y16 hx94 hG95
            subst hj16
            refine T_caseB (s := 121) rfl (fun h96 => ?_) (fun h96 => ?_)
            · have hx97 := ite_t h96 hx94
              refine T_condT rfl ?_
              refine T_seq ?_
              refine T_reg ?_
              refine T_val (Ev_assign rfl) rfl ?_
              refine T_nil ?_
              refine T_next ?_
              refine T_retc ?_
              refine T_outR ?_
              obtain rfl := Option.some.inj hx97
              exact T_retP (rs := [.tmp 6]) Try.results10 (.tmp rfl (.nil)) (Ln := []) ⟨rfl, rfl, trivial⟩ (loNil) (by exact .drop 0 rfl (.drop 0 rfl (.drop 0 rfl (.drop 0 rfl (.refl)))))
            · have hx98 := ite_bf h96 hx94
              refine T_condF rfl ?_
              refine T_skip ?_
              refine T_next ?_
              obtain ⟨j18, hj18, hx98⟩ := jn_some hx98
              refine T_cutP (τ := Unit) (γ := Unit) (J := j18) (out := r) (fun s18 y18 => []) (fun s18 y18 => [] ++ [.old w]) (fun s18 y18 => True) ?_ ?_
              · intro s18 y18 hx355 hG356
                subst hj18
                refine T_seq ?_
                refine T_reg ?_
                obtain ⟨r357, h358, hx359⟩ := bnd_some hx355
                refine T_x (Wx_callL rfl (fun w1 hw1 => lidarlaw09_first_ok  h358 w1) rfl ?_)
                rintro _ _ hlo ⟨rfl, rfl, -⟩
                refine T_app0 ?_
                refine T_val (Ev_assign rfl) rfl ?_
                refine T_nil ?_
                refine T_next ?_
                refine T_retc ?_
                obtain rfl := Option.some.inj hx359
                exact T_retP (rs := [.tmp 6]) Try.results10 (.tmp rfl (.nil)) (Ln := []) ⟨rfl, rfl, trivial⟩ (loNil) (by exact .refl)
              · skip
                refine T_seq ?_
                refine T_reg ?_
                refine T_val (Ev_assign rfl) rfl ?_
                refine T_nil ?_
                refine T_next ?_
                refine T_block ?_
                obtain ⟨t227, hl227, ho227⟩ := bnd_some hx98
                refine T_loopP (σ := Int) (γ := Unit) hl227 (fun s227 y227 => [(13, .pointer (some ⟨g35, 0, none⟩)), (15, .pointer (some ⟨g74, 0, none⟩)), (16, .int .i64 (s227))]) (fun s227 y227 => [.m g74 26 [.int .i64 (r69.1.Raster.X0), .int .i64 (r69.1.Raster.Y0), .int .i64 (r69.1.Raster.Step), .int .i64 (r69.1.Raster.NX), .int .i64 (r69.1.Raster.NY), .slice (A72) ((r69.1.Cells).length) (c73)], .r (A72) ((r69.1.Cells).length) (c73) 41 3 ((r69.1.Cells).flatMap e_api_Cell), .m g35 26 [.int .i64 (r30.1.Raster.X0), .int .i64 (r30.1.Raster.Y0), .int .i64 (r30.1.Raster.Step), .int .i64 (r30.1.Raster.NX), .int .i64 (r30.1.Raster.NY), .slice (A33) ((r30.1.Cells).length) (c34)], .r (A33) ((r30.1.Cells).length) (c34) 41 3 ((r30.1.Cells).flatMap e_api_Cell)] ++ [.old w]) (fun s227 y227 => True) () trivial (by exact .cons rfl (.cons rfl (.cons rfl (.nil)))) (by exact .pick 0 rfl (.pick 0 rfl (.pick 0 rfl (.pick 0 rfl (.refl))))) ?_
                intro s227 y227 hG227 x227 hx227 ht227
                unfold lidarlaw09_ModelLevels_l15 at hx227
                refine T_seq ?_
                refine T_seq ?_
                refine T_reg ?_
                refine T_val (Ev_move rfl) rfl ?_
                refine T_val (Ev_field rfl fld26_1 rfl) rfl ?_
                refine T_val (Ev_load1 rfl (i := 2) rfl rfl one24) rfl ?_
                refine T_val (Ev_len rfl 41 Try.underlying24) rfl ?_
                refine T_val (Ev_lss rfl rfl) rfl ?_
                refine T_nil ?_
                refine T_next ?_
                refine T_caseP (s := 126) rfl (fun h228 => ?_) (fun h228 => ?_)
                · have hx229 := ite_t h228 hx227
                  refine T_condT rfl ?_
                  refine T_skip ?_
                  refine T_next ?_
                  refine T_seq ?_
                  refine T_block ?_
                  obtain ⟨j29, hj29, hx229⟩ := jn_some hx229
                  refine T_cutP (τ := Bool × Int × Int × Bool × Int × Int) (γ := Nat × Nat) (J := j29) (out := x227) (fun s29 y29 => [(13, .pointer (some ⟨g35, 0, none⟩)), (15, .pointer (some ⟨g74, 0, none⟩)), (16, .int .i64 (s227)), (17, .pointer (some ⟨y29.1, 0, none⟩)), (18, .pointer (some ⟨y29.2, 0, none⟩))]) (fun s29 y29 => [.m y29.2 41 [.bool (s29.2.2.2.1), .int .i64 (s29.2.2.2.2.1), .int .i64 (s29.2.2.2.2.2)], .m y29.1 41 [.bool (s29.1), .int .i64 (s29.2.1), .int .i64 (s29.2.2.1)], .m g74 26 [.int .i64 (r69.1.Raster.X0), .int .i64 (r69.1.Raster.Y0), .int .i64 (r69.1.Raster.Step), .int .i64 (r69.1.Raster.NX), .int .i64 (r69.1.Raster.NY), .slice (A72) ((r69.1.Cells).length) (c73)], .r (A72) ((r69.1.Cells).length) (c73) 41 3 ((r69.1.Cells).flatMap e_api_Cell), .m g35 26 [.int .i64 (r30.1.Raster.X0), .int .i64 (r30.1.Raster.Y0), .int .i64 (r30.1.Raster.Step), .int .i64 (r30.1.Raster.NX), .int .i64 (r30.1.Raster.NY), .slice (A33) ((r30.1.Cells).length) (c34)], .r (A33) ((r30.1.Cells).length) (c34) 41 3 ((r30.1.Cells).flatMap e_api_Cell)] ++ [.old w]) (fun s29 y29 => True) ?_ ?_
                  · intro s29 y29 hx339 hG340
                    subst hj29
                    obtain ⟨j30, hj30, hx339⟩ := jn_some hx339
                    refine T_cutP (τ := Bool) (γ := Unit) (J := j30) (out := x227) (fun s30 y30 => [(13, .pointer (some ⟨g35, 0, none⟩)), (15, .pointer (some ⟨g74, 0, none⟩)), (16, .int .i64 (s227)), (163, .bool (s30))]) (fun s30 y30 => [.m g74 26 [.int .i64 (r69.1.Raster.X0), .int .i64 (r69.1.Raster.Y0), .int .i64 (r69.1.Raster.Step), .int .i64 (r69.1.Raster.NX), .int .i64 (r69.1.Raster.NY), .slice (A72) ((r69.1.Cells).length) (c73)], .r (A72) ((r69.1.Cells).length) (c73) 41 3 ((r69.1.Cells).flatMap e_api_Cell), .m g35 26 [.int .i64 (r30.1.Raster.X0), .int .i64 (r30.1.Raster.Y0), .int .i64 (r30.1.Raster.Step), .int .i64 (r30.1.Raster.NX), .int .i64 (r30.1.Raster.NY), .slice (A33) ((r30.1.Cells).length) (c34)], .r (A33) ((r30.1.Cells).length) (c34) 41 3 ((r30.1.Cells).flatMap e_api_Cell)] ++ [.old w]) (fun s30 y30 => True) ?_ ?_
                    · intro s30 y30 hx350 hG351
                      subst hj30
                      refine T_caseB (s := 163) rfl (fun h352 => ?_) (fun h352 => ?_)
                      · have hx353 := ite_t h352 hx350
                        refine T_condT rfl ?_
                        refine T_seq ?_
                        refine T_reg ?_
                        refine T_val (Ev_assign rfl) rfl ?_
                        refine T_nil ?_
                        refine T_next ?_
                        refine T_retc ?_
                        refine T_inR ?_
                        refine T_outR ?_
                        obtain rfl := exit_eq ht227 hx353
                        refine T_outR ?_
                        refine T_inR ?_
                        refine T_outR ?_
                        obtain rfl := Option.some.inj ho227
                        exact T_retP (rs := [.tmp 6]) Try.results10 (.tmp rfl (.nil)) (Ln := []) ⟨rfl, rfl, trivial⟩ (loNil) (by exact .drop 0 rfl (.drop 0 rfl (.drop 0 rfl (.drop 0 rfl (.refl)))))
                      · have hx354 := ite_bf h352 hx350
                        refine T_condF rfl ?_
                        refine T_skip ?_
                        refine T_inN ?_
                        refine T_next ?_
                        refine T_reg ?_
                        refine T_val (Ev_move rfl) rfl ?_
                        refine T_val (Ev_add_w64 rfl rfl) rfl ?_
                        refine T_val (Ev_assign rfl) rfl ?_
                        refine T_nil ?_
                        exact T_roundP (w64 (s227 + 1)) () hx354 trivial (by exact .cons rfl (.cons rfl (.cons rfl (.nil)))) (by exact .pick 0 rfl (.pick 0 rfl (.pick 0 rfl (.pick 0 rfl (.refl)))))
                    · skip
                      refine T_reg ?_
                      refine T_val (Ev_field rfl fld41_0 rfl) rfl ?_
                      refine T_val (Ev_load1 rfl (i := 1) rfl rfl one4) rfl ?_
                      refine T_val (Ev_not rfl) rfl ?_
                      refine T_val (Ev_move rfl) rfl ?_
                      refine T_caseNB (s := 142) rfl (fun h341 => ?_) (fun h341 => ?_)
                      · have hx342 := ite_bf h341 hx339
                        refine T_valG rfl rfl rfl (Ev_field rfl fld41_0 rfl) rfl ?_
                        refine T_valG rfl rfl rfl (Ev_load1 rfl (i := 0) rfl rfl one4) rfl ?_
                        refine T_valG rfl rfl rfl (Ev_move rfl) rfl ?_
                        refine T_caseB (s := 145) rfl (fun h343 => ?_) (fun h343 => ?_)
                        · have hx344 := ite_t h343 hx342
                          refine T_skipG rfl rfl rfl rfl rfl ?_
                          refine T_skipG rfl rfl rfl rfl rfl ?_
                          refine T_skipG rfl rfl rfl rfl rfl ?_
                          refine T_skipG rfl rfl rfl rfl rfl ?_
                          refine T_skipG rfl rfl rfl rfl rfl ?_
                          refine T_skipG rfl rfl rfl rfl rfl ?_
                          refine T_skipG rfl rfl rfl rfl rfl ?_
                          refine T_valG rfl rfl rfl (Ev_pickT rfl rfl) rfl ?_
                          refine T_valG rfl rfl rfl (Ev_move rfl) rfl ?_
                          refine T_skipG rfl rfl rfl rfl rfl ?_
                          refine T_skipG rfl rfl rfl rfl rfl ?_
                          refine T_skipG rfl rfl rfl rfl rfl ?_
                          refine T_skipG rfl rfl rfl rfl rfl ?_
                          refine T_skipG rfl rfl rfl rfl rfl ?_
                          refine T_skipG rfl rfl rfl rfl rfl ?_
                          refine T_skipG rfl rfl rfl rfl rfl ?_
                          refine T_valG rfl rfl rfl (Ev_pickT rfl rfl) rfl ?_
                          refine T_val (Ev_pickT rfl rfl) rfl ?_
                          refine T_nil ?_
                          exact T_metP true () hx344 trivial (by exact .cons rfl (.cons rfl (.cons rfl (.cons rfl (.nil))))) (by exact .pick 2 rfl (.pick 2 rfl (.pick 2 rfl (.pick 2 rfl (.drop 0 rfl (.drop 0 rfl (.refl)))))))
                        · have hx345 := ite_bf h343 hx342
                          refine T_valG rfl rfl rfl (Ev_field rfl fld41_1 rfl) rfl ?_
                          refine T_valG rfl rfl rfl (Ev_field rfl fld39_0 rfl) rfl ?_
                          refine T_valG rfl rfl rfl (Ev_load1 rfl (i := 1) rfl rfl one3) rfl ?_
                          refine T_valG rfl rfl rfl (Ev_field rfl fld41_1 rfl) rfl ?_
                          refine T_valG rfl rfl rfl (Ev_field rfl fld39_0 rfl) rfl ?_
                          refine T_valG rfl rfl rfl (Ev_load1 rfl (i := 0) rfl rfl one3) rfl ?_
                          refine T_valG rfl rfl rfl (Ev_lss rfl rfl) rfl ?_
                          refine T_valG rfl rfl rfl (Ev_pickF rfl rfl) rfl ?_
                          refine T_valG rfl rfl rfl (Ev_move rfl) rfl ?_
                          refine T_caseP (s := 154) rfl (fun h346 => ?_) (fun h346 => ?_)
                          · have hx347 := ite_t h346 hx345
                            refine T_skipG rfl rfl rfl rfl rfl ?_
                            refine T_skipG rfl rfl rfl rfl rfl ?_
                            refine T_skipG rfl rfl rfl rfl rfl ?_
                            refine T_skipG rfl rfl rfl rfl rfl ?_
                            refine T_skipG rfl rfl rfl rfl rfl ?_
                            refine T_skipG rfl rfl rfl rfl rfl ?_
                            refine T_skipG rfl rfl rfl rfl rfl ?_
                            refine T_valG rfl rfl rfl (Ev_pickT rfl rfl) rfl ?_
                            refine T_val (Ev_pickT rfl rfl) rfl ?_
                            refine T_nil ?_
                            exact T_metP true () hx347 trivial (by exact .cons rfl (.cons rfl (.cons rfl (.cons rfl (.nil))))) (by exact .pick 2 rfl (.pick 2 rfl (.pick 2 rfl (.pick 2 rfl (.drop 0 rfl (.drop 0 rfl (.refl)))))))
                          · have hx348 := ite_f h346 hx345
                            refine T_valG rfl rfl rfl (Ev_field rfl fld41_1 rfl) rfl ?_
                            refine T_valG rfl rfl rfl (Ev_field rfl fld39_1 rfl) rfl ?_
                            refine T_valG rfl rfl rfl (Ev_load1 rfl (i := 1) rfl rfl one3) rfl ?_
                            refine T_valG rfl rfl rfl (Ev_field rfl fld41_1 rfl) rfl ?_
                            refine T_valG rfl rfl rfl (Ev_field rfl fld39_1 rfl) rfl ?_
                            refine T_valG rfl rfl rfl (Ev_load1 rfl (i := 0) rfl rfl one3) rfl ?_
                            refine T_valG rfl rfl rfl (Ev_gtr rfl rfl) rfl ?_
                            refine T_valG rfl rfl rfl (Ev_pickF rfl rfl) rfl ?_
                            refine T_val (Ev_pickT rfl rfl) rfl ?_
                            refine T_nil ?_
                            exact T_metP (decide (s29.2.2.2.2.2 < s29.2.2.1)) () hx348 trivial (by exact .cons rfl (.cons rfl (.cons rfl (.cons rfl (.nil))))) (by exact .pick 2 rfl (.pick 2 rfl (.pick 2 rfl (.pick 2 rfl (.drop 0 rfl (.drop 0 rfl (.refl)))))))
                      · have hx349 := ite_t h341 hx339
                        refine T_skipG rfl rfl rfl rfl rfl ?_
                        refine T_skipG rfl rfl rfl rfl rfl ?_
                        refine T_skipG rfl rfl rfl rfl rfl ?_
                        refine T_skipU rfl rfl rfl rfl ?_
                        refine T_skipU rfl rfl rfl rfl ?_
                        refine T_skipU rfl rfl rfl rfl ?_
                        refine T_skipU rfl rfl rfl rfl ?_
                        refine T_skipU rfl rfl rfl rfl ?_
                        refine T_skipU rfl rfl rfl rfl ?_
                        refine T_skipU rfl rfl rfl rfl ?_
                        refine T_skipG rfl rfl rfl rfl rfl ?_
                        refine T_skipG rfl rfl rfl rfl rfl ?_
                        refine T_skipU rfl rfl rfl rfl ?_
                        refine T_skipU rfl rfl rfl rfl ?_
                        refine T_skipU rfl rfl rfl rfl ?_
                        refine T_skipU rfl rfl rfl rfl ?_
                        refine T_skipU rfl rfl rfl rfl ?_
                        refine T_skipU rfl rfl rfl rfl ?_
                        refine T_skipU rfl rfl rfl rfl ?_
                        refine T_skipG rfl rfl rfl rfl rfl ?_
                        refine T_val (Ev_pickF rfl rfl) rfl ?_
                        refine T_nil ?_
                        exact T_metP false () hx349 trivial (by exact .cons rfl (.cons rfl (.cons rfl (.cons rfl (.nil))))) (by exact .pick 2 rfl (.pick 2 rfl (.pick 2 rfl (.pick 2 rfl (.drop 0 rfl (.drop 0 rfl (.refl)))))))
                  · skip
                    obtain ⟨x231, h232, hx255⟩ := bnd_some hx229
                    obtain ⟨x242, h243, hx256⟩ := bnd_some hx255
                    refine T_draw [0, 1, 0, 0, 1, 0, 2, 0, 0, 2, 2, 2, 3, 3] [[], [0], [], [0, 1, 2], [0, 1, 2, 3], [], [5], [], [5, 6, 7], [5, 6, 7, 8], [], [], [0, 1, 2, 3, 4, 10, 11], [0, 1, 2, 3, 4, 5, 6, 7, 8, 9, 10, 11, 12]] (.q 0 (.q 1 (.q 2 (.q 3 (.q 4 (.q 5 (.q 7 (.e 6 (.q 8 (.e 9 (.e 10 (.e 11 (.e 12 (.e 13 (.done) (.stop)) (.stop)) (.stop)) (.e 11 (.e 10 (.e 12 (.e 13 (.done) (.stop)) (.stop)) (.stop)) (.stop))) (.e 10 (.e 9 (.e 11 (.e 12 (.e 13 (.done) (.stop)) (.stop)) (.stop)) (.e 11 (.e 9 (.e 12 (.e 13 (.done) (.stop)) (.stop)) (.e 12 (.e 9 (.e 13 (.done) (.stop)) (.stop)) (.stop))) (.stop))) (.e 11 (.e 9 (.e 10 (.e 12 (.e 13 (.done) (.stop)) (.stop)) (.stop)) (.e 10 (.e 9 (.e 12 (.e 13 (.done) (.stop)) (.stop)) (.e 12 (.e 9 (.e 13 (.done) (.stop)) (.stop)) (.stop))) (.stop))) (.stop))))) (.e 10 (.e 6 (.q 8 (.e 9 (.e 11 (.e 12 (.e 13 (.done) (.stop)) (.stop)) (.stop)) (.e 11 (.e 9 (.e 12 (.e 13 (.done) (.stop)) (.stop)) (.e 12 (.e 9 (.e 13 (.done) (.stop)) (.stop)) (.stop))) (.stop)))) (.e 11 (.e 6 (.q 8 (.e 9 (.e 12 (.e 13 (.done) (.stop)) (.stop)) (.e 12 (.e 9 (.e 13 (.done) (.stop)) (.stop)) (.stop)))) (.e 12 (.e 6 (.q 8 (.e 9 (.e 13 (.done) (.stop)) (.stop))) (.stop)) (.stop))) (.stop))) (.e 11 (.e 6 (.q 8 (.e 9 (.e 10 (.e 12 (.e 13 (.done) (.stop)) (.stop)) (.stop)) (.e 10 (.e 9 (.e 12 (.e 13 (.done) (.stop)) (.stop)) (.e 12 (.e 9 (.e 13 (.done) (.stop)) (.stop)) (.stop))) (.stop)))) (.e 10 (.e 6 (.q 8 (.e 9 (.e 12 (.e 13 (.done) (.stop)) (.stop)) (.e 12 (.e 9 (.e 13 (.done) (.stop)) (.stop)) (.stop)))) (.e 12 (.e 6 (.q 8 (.e 9 (.e 13 (.done) (.stop)) (.stop))) (.stop)) (.stop))) (.stop))) (.stop))))))))))) mixed (by kernel_rfl) (by kernel_rfl) ?_
                    refine P_p rfl rfl (Ev_field rfl fld26_1 rfl) rfl ?_
                    refine P_q rfl rfl (Ev_load1 rfl (i := 2) rfl rfl one24) rfl ?_
                    refine P_p rfl rfl (Ev_move rfl) rfl ?_
                    refine T_idxR (k := 3) rfl (by decide) (fun _ => rfl) h232 (fun b257 j259 hA260 hj261 hl262 hm264 hp263 => ?_)
                    refine P_p rfl rfl (Ev_index rfl rfl hA260 (j := j259) hj261 hl262 slc24) rfl ?_
                    refine P_q rfl rfl (Ev_loadPK0 rfl hp263 (SubE.cons2 (i := 3) rfl (SubE.nil)) rfl agg41) rfl ?_
                    refine P_p rfl rfl (Ev_field rfl fld26_1 rfl) rfl ?_
                    refine P_p rfl rfl (Ev_move rfl) rfl ?_
                    refine P_x rfl (Wx_val (Ev_load1 rfl (i := 0) rfl rfl one24) rfl ?_) ?_
                    · skip
                      refine T_idxR (k := 1) rfl (by decide) (fun _ => rfl) h243 (fun b265 j267 hA268 hj269 hl270 hm272 hp271 => ?_)
                      refine P_p rfl rfl (Ev_index rfl rfl hA268 (j := j267) hj269 hl270 slc24) rfl ?_
                      refine P_x rfl (Wx_val (Ev_loadPK0 rfl hp271 (SubE.cons2 (i := 1) rfl (SubE.nil)) rfl agg41) rfl ?_) ?_
                      · skip
                        refine P_x rfl (Wx_alloc zer41 rfl (fun g273 => ?_)) ?_
                        · skip
                          refine P_x rfl (Wx_alloc zer41 rfl (fun g274 => ?_)) ?_
                          rotate_left; exact P_stop
                          refine P_h rfl rfl (Wh_store rfl rfl rfl (.there (.here)) (.put (.put (.put (.done)))) rfl (List.cons_ne_nil _ _) agg41.2 ?_) ?_
                          rotate_left; exact P_stop
                          refine P_h rfl rfl (Wh_store rfl rfl rfl (.here) (.put (.put (.put (.done)))) rfl (List.cons_ne_nil _ _) agg41.2 ?_) ?_
                          rotate_left; exact P_stop
                          refine P_done ?_
                          exact T_metP (x231.Void, x231.Z.Lo, x231.Z.Hi, x242.Void, x242.Z.Lo, x242.Z.Hi) (g273, g274) hx256 trivial (by exact .cons rfl (.cons rfl (.cons rfl (.cons rfl (.cons rfl (.nil)))))) (by exact .pick 0 rfl (.pick 0 rfl (.pick 0 rfl (.pick 0 rfl (.pick 0 rfl (.pick 0 rfl (.refl)))))))
                        · skip
                          refine P_x rfl (Wx_alloc zer41 rfl (fun g275 => ?_)) ?_
                          rotate_left; exact P_stop
                          refine P_x rfl (Wx_alloc zer41 rfl (fun g276 => ?_)) ?_
                          rotate_left; exact P_stop
                          refine P_h rfl rfl (Wh_store rfl rfl rfl (.here) (.put (.put (.put (.done)))) rfl (List.cons_ne_nil _ _) agg41.2 ?_) ?_
                          rotate_left; exact P_stop
                          refine P_h rfl rfl (Wh_store rfl rfl rfl (.there (.here)) (.put (.put (.put (.done)))) rfl (List.cons_ne_nil _ _) agg41.2 ?_) ?_
                          rotate_left; exact P_stop
                          refine P_done ?_
                          exact T_metP (x231.Void, x231.Z.Lo, x231.Z.Hi, x242.Void, x242.Z.Lo, x242.Z.Hi) (g276, g275) hx256 trivial (by exact .cons rfl (.cons rfl (.cons rfl (.cons rfl (.cons rfl (.nil)))))) (by exact .pick 1 rfl (.pick 0 rfl (.pick 0 rfl (.pick 0 rfl (.pick 0 rfl (.pick 0 rfl (.refl)))))))
                      · skip
                        refine P_x rfl (Wx_alloc zer41 rfl (fun g277 => ?_)) ?_
                        · skip
                          refine P_x rfl (Wx_val (Ev_loadPK0 rfl hp271 (SubE.cons2 (i := 2) rfl (SubE.nil)) rfl agg41) rfl ?_) ?_
                          · skip
                            refine P_x rfl (Wx_alloc zer41 rfl (fun g278 => ?_)) ?_
                            rotate_left; exact P_stop
                            refine P_h rfl rfl (Wh_store rfl rfl rfl (.there (.here)) (.put (.put (.put (.done)))) rfl (List.cons_ne_nil _ _) agg41.2 ?_) ?_
                            rotate_left; exact P_stop
                            refine P_h rfl rfl (Wh_store rfl rfl rfl (.here) (.put (.put (.put (.done)))) rfl (List.cons_ne_nil _ _) agg41.2 ?_) ?_
                            rotate_left; exact P_stop
                            refine P_done ?_
                            exact T_metP (x231.Void, x231.Z.Lo, x231.Z.Hi, x242.Void, x242.Z.Lo, x242.Z.Hi) (g277, g278) hx256 trivial (by exact .cons rfl (.cons rfl (.cons rfl (.cons rfl (.cons rfl (.nil)))))) (by exact .pick 0 rfl (.pick 0 rfl (.pick 0 rfl (.pick 0 rfl (.pick 0 rfl (.pick 0 rfl (.refl)))))))
                          · skip
                            refine P_x rfl (Wx_alloc zer41 rfl (fun g279 => ?_)) ?_
                            rotate_left; exact P_stop
                            refine P_x rfl (Wx_val (Ev_loadPK0 rfl hp271 (SubE.cons2 (i := 3) rfl (SubE.nil)) rfl agg41) rfl ?_) ?_
                            · skip
                              refine P_h rfl rfl (Wh_store rfl rfl rfl (.there (.here)) (.put (.put (.put (.done)))) rfl (List.cons_ne_nil _ _) agg41.2 ?_) ?_
                              rotate_left; exact P_stop
                              refine P_h rfl rfl (Wh_store rfl rfl rfl (.here) (.put (.put (.put (.done)))) rfl (List.cons_ne_nil _ _) agg41.2 ?_) ?_
                              rotate_left; exact P_stop
                              refine P_done ?_
                              exact T_metP (x231.Void, x231.Z.Lo, x231.Z.Hi, x242.Void, x242.Z.Lo, x242.Z.Hi) (g277, g279) hx256 trivial (by exact .cons rfl (.cons rfl (.cons rfl (.cons rfl (.cons rfl (.nil)))))) (by exact .pick 0 rfl (.pick 0 rfl (.pick 0 rfl (.pick 0 rfl (.pick 0 rfl (.pick 0 rfl (.refl)))))))
                            · skip
                              refine P_h rfl rfl (Wh_store rfl rfl rfl (.there (.here)) (.put (.put (.put (.done)))) rfl (List.cons_ne_nil _ _) agg41.2 ?_) ?_
                              rotate_left; exact P_stop
                              refine P_x rfl (Wx_val (Ev_loadPK0 rfl hp271 (SubE.cons2 (i := 3) rfl (SubE.nil)) rfl agg41) rfl ?_) ?_
                              rotate_left; exact P_stop
                              refine P_h rfl rfl (Wh_store rfl rfl rfl (.here) (.put (.put (.put (.done)))) rfl (List.cons_ne_nil _ _) agg41.2 ?_) ?_
                              rotate_left; exact P_stop
                              refine P_done ?_
                              exact T_metP (x231.Void, x231.Z.Lo, x231.Z.Hi, x242.Void, x242.Z.Lo, x242.Z.Hi) (g277, g279) hx256 trivial (by exact .cons rfl (.cons rfl (.cons rfl (.cons rfl (.cons rfl (.nil)))))) (by exact .pick 0 rfl (.pick 0 rfl (.pick 0 rfl (.pick 0 rfl (.pick 0 rfl (.pick 0 rfl (.refl)))))))
                        · skip
                          refine P_x rfl (Wx_alloc zer41 rfl (fun g280 => ?_)) ?_
                          rotate_left; exact P_stop
                          refine P_x rfl (Wx_val (Ev_loadPK0 rfl hp271 (SubE.cons2 (i := 2) rfl (SubE.nil)) rfl agg41) rfl ?_) ?_
                          · skip
                            refine P_x rfl (Wx_alloc zer41 rfl (fun g281 => ?_)) ?_
                            rotate_left; exact P_stop
                            refine P_h rfl rfl (Wh_store rfl rfl rfl (.here) (.put (.put (.put (.done)))) rfl (List.cons_ne_nil _ _) agg41.2 ?_) ?_
                            rotate_left; exact P_stop
                            refine P_h rfl rfl (Wh_store rfl rfl rfl (.there (.here)) (.put (.put (.put (.done)))) rfl (List.cons_ne_nil _ _) agg41.2 ?_) ?_
                            rotate_left; exact P_stop
                            refine P_done ?_
                            exact T_metP (x231.Void, x231.Z.Lo, x231.Z.Hi, x242.Void, x242.Z.Lo, x242.Z.Hi) (g281, g280) hx256 trivial (by exact .cons rfl (.cons rfl (.cons rfl (.cons rfl (.cons rfl (.nil)))))) (by exact .pick 1 rfl (.pick 0 rfl (.pick 0 rfl (.pick 0 rfl (.pick 0 rfl (.pick 0 rfl (.refl)))))))
                          · skip
                            refine P_x rfl (Wx_alloc zer41 rfl (fun g282 => ?_)) ?_
                            rotate_left; exact P_stop
                            refine P_x rfl (Wx_val (Ev_loadPK0 rfl hp271 (SubE.cons2 (i := 3) rfl (SubE.nil)) rfl agg41) rfl ?_) ?_
                            · skip
                              refine P_h rfl rfl (Wh_store rfl rfl rfl (.here) (.put (.put (.put (.done)))) rfl (List.cons_ne_nil _ _) agg41.2 ?_) ?_
                              rotate_left; exact P_stop
                              refine P_h rfl rfl (Wh_store rfl rfl rfl (.there (.here)) (.put (.put (.put (.done)))) rfl (List.cons_ne_nil _ _) agg41.2 ?_) ?_
                              rotate_left; exact P_stop
                              refine P_done ?_
                              exact T_metP (x231.Void, x231.Z.Lo, x231.Z.Hi, x242.Void, x242.Z.Lo, x242.Z.Hi) (g282, g280) hx256 trivial (by exact .cons rfl (.cons rfl (.cons rfl (.cons rfl (.cons rfl (.nil)))))) (by exact .pick 1 rfl (.pick 0 rfl (.pick 0 rfl (.pick 0 rfl (.pick 0 rfl (.pick 0 rfl (.refl)))))))
                            · skip
                              refine P_h rfl rfl (Wh_store rfl rfl rfl (.here) (.put (.put (.put (.done)))) rfl (List.cons_ne_nil _ _) agg41.2 ?_) ?_
                              rotate_left; exact P_stop
                              refine P_x rfl (Wx_val (Ev_loadPK0 rfl hp271 (SubE.cons2 (i := 3) rfl (SubE.nil)) rfl agg41) rfl ?_) ?_
                              rotate_left; exact P_stop
                              refine P_h rfl rfl (Wh_store rfl rfl rfl (.there (.here)) (.put (.put (.put (.done)))) rfl (List.cons_ne_nil _ _) agg41.2 ?_) ?_
                              rotate_left; exact P_stop
                              refine P_done ?_
                              exact T_metP (x231.Void, x231.Z.Lo, x231.Z.Hi, x242.Void, x242.Z.Lo, x242.Z.Hi) (g282, g280) hx256 trivial (by exact .cons rfl (.cons rfl (.cons rfl (.cons rfl (.cons rfl (.nil)))))) (by exact .pick 1 rfl (.pick 0 rfl (.pick 0 rfl (.pick 0 rfl (.pick 0 rfl (.pick 0 rfl (.refl)))))))
                    · skip
                      refine P_x rfl (Wx_alloc zer41 rfl (fun g283 => ?_)) ?_
                      · skip
                        refine P_x rfl (Wx_val (Ev_load1 rfl (i := 1) rfl rfl one24) rfl ?_) ?_
                        · skip
                          refine T_idxR (k := 2) rfl (by decide) (fun _ => rfl) h243 (fun b284 j286 hA287 hj288 hl289 hm291 hp290 => ?_)
                          refine P_p rfl rfl (Ev_index rfl rfl hA287 (j := j286) hj288 hl289 slc24) rfl ?_
                          refine P_x rfl (Wx_val (Ev_loadPK0 rfl hp290 (SubE.cons2 (i := 2) rfl (SubE.nil)) rfl agg41) rfl ?_) ?_
                          · skip
                            refine P_x rfl (Wx_alloc zer41 rfl (fun g292 => ?_)) ?_
                            rotate_left; exact P_stop
                            refine P_h rfl rfl (Wh_store rfl rfl rfl (.there (.here)) (.put (.put (.put (.done)))) rfl (List.cons_ne_nil _ _) agg41.2 ?_) ?_
                            rotate_left; exact P_stop
                            refine P_h rfl rfl (Wh_store rfl rfl rfl (.here) (.put (.put (.put (.done)))) rfl (List.cons_ne_nil _ _) agg41.2 ?_) ?_
                            rotate_left; exact P_stop
                            refine P_done ?_
                            exact T_metP (x231.Void, x231.Z.Lo, x231.Z.Hi, x242.Void, x242.Z.Lo, x242.Z.Hi) (g283, g292) hx256 trivial (by exact .cons rfl (.cons rfl (.cons rfl (.cons rfl (.cons rfl (.nil)))))) (by exact .pick 0 rfl (.pick 0 rfl (.pick 0 rfl (.pick 0 rfl (.pick 0 rfl (.pick 0 rfl (.refl)))))))
                          · skip
                            refine P_x rfl (Wx_alloc zer41 rfl (fun g293 => ?_)) ?_
                            rotate_left; exact P_stop
                            refine P_x rfl (Wx_val (Ev_loadPK0 rfl hp290 (SubE.cons2 (i := 3) rfl (SubE.nil)) rfl agg41) rfl ?_) ?_
                            · skip
                              refine P_h rfl rfl (Wh_store rfl rfl rfl (.there (.here)) (.put (.put (.put (.done)))) rfl (List.cons_ne_nil _ _) agg41.2 ?_) ?_
                              rotate_left; exact P_stop
                              refine P_h rfl rfl (Wh_store rfl rfl rfl (.here) (.put (.put (.put (.done)))) rfl (List.cons_ne_nil _ _) agg41.2 ?_) ?_
                              rotate_left; exact P_stop
                              refine P_done ?_
                              exact T_metP (x231.Void, x231.Z.Lo, x231.Z.Hi, x242.Void, x242.Z.Lo, x242.Z.Hi) (g283, g293) hx256 trivial (by exact .cons rfl (.cons rfl (.cons rfl (.cons rfl (.cons rfl (.nil)))))) (by exact .pick 0 rfl (.pick 0 rfl (.pick 0 rfl (.pick 0 rfl (.pick 0 rfl (.pick 0 rfl (.refl)))))))
                            · skip
                              refine P_h rfl rfl (Wh_store rfl rfl rfl (.there (.here)) (.put (.put (.put (.done)))) rfl (List.cons_ne_nil _ _) agg41.2 ?_) ?_
                              rotate_left; exact P_stop
                              refine P_x rfl (Wx_val (Ev_loadPK0 rfl hp290 (SubE.cons2 (i := 3) rfl (SubE.nil)) rfl agg41) rfl ?_) ?_
                              rotate_left; exact P_stop
                              refine P_h rfl rfl (Wh_store rfl rfl rfl (.here) (.put (.put (.put (.done)))) rfl (List.cons_ne_nil _ _) agg41.2 ?_) ?_
                              rotate_left; exact P_stop
                              refine P_done ?_
                              exact T_metP (x231.Void, x231.Z.Lo, x231.Z.Hi, x242.Void, x242.Z.Lo, x242.Z.Hi) (g283, g293) hx256 trivial (by exact .cons rfl (.cons rfl (.cons rfl (.cons rfl (.cons rfl (.nil)))))) (by exact .pick 0 rfl (.pick 0 rfl (.pick 0 rfl (.pick 0 rfl (.pick 0 rfl (.pick 0 rfl (.refl)))))))
                        · skip
                          refine P_x rfl (Wx_alloc zer41 rfl (fun g294 => ?_)) ?_
                          rotate_left; exact P_stop
                          refine P_x rfl (Wx_val (Ev_load1 rfl (i := 2) rfl rfl one24) rfl ?_) ?_
                          · skip
                            refine T_idxR (k := 3) rfl (by decide) (fun _ => rfl) h243 (fun b295 j297 hA298 hj299 hl300 hm302 hp301 => ?_)
                            refine P_p rfl rfl (Ev_index rfl rfl hA298 (j := j297) hj299 hl300 slc24) rfl ?_
                            refine P_x rfl (Wx_val (Ev_loadPK0 rfl hp301 (SubE.cons2 (i := 3) rfl (SubE.nil)) rfl agg41) rfl ?_) ?_
                            · skip
                              refine P_h rfl rfl (Wh_store rfl rfl rfl (.there (.here)) (.put (.put (.put (.done)))) rfl (List.cons_ne_nil _ _) agg41.2 ?_) ?_
                              rotate_left; exact P_stop
                              refine P_h rfl rfl (Wh_store rfl rfl rfl (.here) (.put (.put (.put (.done)))) rfl (List.cons_ne_nil _ _) agg41.2 ?_) ?_
                              rotate_left; exact P_stop
                              refine P_done ?_
                              exact T_metP (x231.Void, x231.Z.Lo, x231.Z.Hi, x242.Void, x242.Z.Lo, x242.Z.Hi) (g283, g294) hx256 trivial (by exact .cons rfl (.cons rfl (.cons rfl (.cons rfl (.cons rfl (.nil)))))) (by exact .pick 0 rfl (.pick 0 rfl (.pick 0 rfl (.pick 0 rfl (.pick 0 rfl (.pick 0 rfl (.refl)))))))
                            · skip
                              refine P_h rfl rfl (Wh_store rfl rfl rfl (.there (.here)) (.put (.put (.put (.done)))) rfl (List.cons_ne_nil _ _) agg41.2 ?_) ?_
                              rotate_left; exact P_stop
                              refine P_x rfl (Wx_val (Ev_loadPK0 rfl hp301 (SubE.cons2 (i := 3) rfl (SubE.nil)) rfl agg41) rfl ?_) ?_
                              rotate_left; exact P_stop
                              refine P_h rfl rfl (Wh_store rfl rfl rfl (.here) (.put (.put (.put (.done)))) rfl (List.cons_ne_nil _ _) agg41.2 ?_) ?_
                              rotate_left; exact P_stop
                              refine P_done ?_
                              exact T_metP (x231.Void, x231.Z.Lo, x231.Z.Hi, x242.Void, x242.Z.Lo, x242.Z.Hi) (g283, g294) hx256 trivial (by exact .cons rfl (.cons rfl (.cons rfl (.cons rfl (.cons rfl (.nil)))))) (by exact .pick 0 rfl (.pick 0 rfl (.pick 0 rfl (.pick 0 rfl (.pick 0 rfl (.pick 0 rfl (.refl)))))))
                          · skip
                            refine P_h rfl rfl (Wh_store rfl rfl rfl (.there (.here)) (.put (.put (.put (.done)))) rfl (List.cons_ne_nil _ _) agg41.2 ?_) ?_
                            rotate_left; exact P_stop
                            refine P_x rfl (Wx_val (Ev_load1 rfl (i := 2) rfl rfl one24) rfl ?_) ?_
                            rotate_left; exact P_stop
                            refine T_idxR (k := 3) rfl (by decide) (fun _ => rfl) h243 (fun b303 j305 hA306 hj307 hl308 hm310 hp309 => ?_)
                            refine P_p rfl rfl (Ev_index rfl rfl hA306 (j := j305) hj307 hl308 slc24) rfl ?_
                            refine P_x rfl (Wx_val (Ev_loadPK0 rfl hp309 (SubE.cons2 (i := 3) rfl (SubE.nil)) rfl agg41) rfl ?_) ?_
                            rotate_left; exact P_stop
                            refine P_h rfl rfl (Wh_store rfl rfl rfl (.here) (.put (.put (.put (.done)))) rfl (List.cons_ne_nil _ _) agg41.2 ?_) ?_
                            rotate_left; exact P_stop
                            refine P_done ?_
                            exact T_metP (x231.Void, x231.Z.Lo, x231.Z.Hi, x242.Void, x242.Z.Lo, x242.Z.Hi) (g283, g294) hx256 trivial (by exact .cons rfl (.cons rfl (.cons rfl (.cons rfl (.cons rfl (.nil)))))) (by exact .pick 0 rfl (.pick 0 rfl (.pick 0 rfl (.pick 0 rfl (.pick 0 rfl (.pick 0 rfl (.refl)))))))
                      · skip
                        refine P_x rfl (Wx_alloc zer41 rfl (fun g311 => ?_)) ?_
                        rotate_left; exact P_stop
                        refine P_x rfl (Wx_val (Ev_load1 rfl (i := 1) rfl rfl one24) rfl ?_) ?_
                        · skip
                          refine T_idxR (k := 2) rfl (by decide) (fun _ => rfl) h243 (fun b312 j314 hA315 hj316 hl317 hm319 hp318 => ?_)
                          refine P_p rfl rfl (Ev_index rfl rfl hA315 (j := j314) hj316 hl317 slc24) rfl ?_
                          refine P_x rfl (Wx_val (Ev_loadPK0 rfl hp318 (SubE.cons2 (i := 2) rfl (SubE.nil)) rfl agg41) rfl ?_) ?_
                          · skip
                            refine P_x rfl (Wx_alloc zer41 rfl (fun g320 => ?_)) ?_
                            rotate_left; exact P_stop
                            refine P_h rfl rfl (Wh_store rfl rfl rfl (.here) (.put (.put (.put (.done)))) rfl (List.cons_ne_nil _ _) agg41.2 ?_) ?_
                            rotate_left; exact P_stop
                            refine P_h rfl rfl (Wh_store rfl rfl rfl (.there (.here)) (.put (.put (.put (.done)))) rfl (List.cons_ne_nil _ _) agg41.2 ?_) ?_
                            rotate_left; exact P_stop
                            refine P_done ?_
                            exact T_metP (x231.Void, x231.Z.Lo, x231.Z.Hi, x242.Void, x242.Z.Lo, x242.Z.Hi) (g320, g311) hx256 trivial (by exact .cons rfl (.cons rfl (.cons rfl (.cons rfl (.cons rfl (.nil)))))) (by exact .pick 1 rfl (.pick 0 rfl (.pick 0 rfl (.pick 0 rfl (.pick 0 rfl (.pick 0 rfl (.refl)))))))
                          · skip
                            refine P_x rfl (Wx_alloc zer41 rfl (fun g321 => ?_)) ?_
                            rotate_left; exact P_stop
                            refine P_x rfl (Wx_val (Ev_loadPK0 rfl hp318 (SubE.cons2 (i := 3) rfl (SubE.nil)) rfl agg41) rfl ?_) ?_
                            · skip
                              refine P_h rfl rfl (Wh_store rfl rfl rfl (.here) (.put (.put (.put (.done)))) rfl (List.cons_ne_nil _ _) agg41.2 ?_) ?_
                              rotate_left; exact P_stop
                              refine P_h rfl rfl (Wh_store rfl rfl rfl (.there (.here)) (.put (.put (.put (.done)))) rfl (List.cons_ne_nil _ _) agg41.2 ?_) ?_
                              rotate_left; exact P_stop
                              refine P_done ?_
                              exact T_metP (x231.Void, x231.Z.Lo, x231.Z.Hi, x242.Void, x242.Z.Lo, x242.Z.Hi) (g321, g311) hx256 trivial (by exact .cons rfl (.cons rfl (.cons rfl (.cons rfl (.cons rfl (.nil)))))) (by exact .pick 1 rfl (.pick 0 rfl (.pick 0 rfl (.pick 0 rfl (.pick 0 rfl (.pick 0 rfl (.refl)))))))
                            · skip
                              refine P_h rfl rfl (Wh_store rfl rfl rfl (.here) (.put (.put (.put (.done)))) rfl (List.cons_ne_nil _ _) agg41.2 ?_) ?_
                              rotate_left; exact P_stop
                              refine P_x rfl (Wx_val (Ev_loadPK0 rfl hp318 (SubE.cons2 (i := 3) rfl (SubE.nil)) rfl agg41) rfl ?_) ?_
                              rotate_left; exact P_stop
                              refine P_h rfl rfl (Wh_store rfl rfl rfl (.there (.here)) (.put (.put (.put (.done)))) rfl (List.cons_ne_nil _ _) agg41.2 ?_) ?_
                              rotate_left; exact P_stop
                              refine P_done ?_
                              exact T_metP (x231.Void, x231.Z.Lo, x231.Z.Hi, x242.Void, x242.Z.Lo, x242.Z.Hi) (g321, g311) hx256 trivial (by exact .cons rfl (.cons rfl (.cons rfl (.cons rfl (.cons rfl (.nil)))))) (by exact .pick 1 rfl (.pick 0 rfl (.pick 0 rfl (.pick 0 rfl (.pick 0 rfl (.pick 0 rfl (.refl)))))))
                        · skip
                          refine P_x rfl (Wx_alloc zer41 rfl (fun g322 => ?_)) ?_
                          rotate_left; exact P_stop
                          refine P_x rfl (Wx_val (Ev_load1 rfl (i := 2) rfl rfl one24) rfl ?_) ?_
                          · skip
                            refine T_idxR (k := 3) rfl (by decide) (fun _ => rfl) h243 (fun b323 j325 hA326 hj327 hl328 hm330 hp329 => ?_)
                            refine P_p rfl rfl (Ev_index rfl rfl hA326 (j := j325) hj327 hl328 slc24) rfl ?_
                            refine P_x rfl (Wx_val (Ev_loadPK0 rfl hp329 (SubE.cons2 (i := 3) rfl (SubE.nil)) rfl agg41) rfl ?_) ?_
                            · skip
                              refine P_h rfl rfl (Wh_store rfl rfl rfl (.here) (.put (.put (.put (.done)))) rfl (List.cons_ne_nil _ _) agg41.2 ?_) ?_
                              rotate_left; exact P_stop
                              refine P_h rfl rfl (Wh_store rfl rfl rfl (.there (.here)) (.put (.put (.put (.done)))) rfl (List.cons_ne_nil _ _) agg41.2 ?_) ?_
                              rotate_left; exact P_stop
                              refine P_done ?_
                              exact T_metP (x231.Void, x231.Z.Lo, x231.Z.Hi, x242.Void, x242.Z.Lo, x242.Z.Hi) (g322, g311) hx256 trivial (by exact .cons rfl (.cons rfl (.cons rfl (.cons rfl (.cons rfl (.nil)))))) (by exact .pick 1 rfl (.pick 0 rfl (.pick 0 rfl (.pick 0 rfl (.pick 0 rfl (.pick 0 rfl (.refl)))))))
                            · skip
                              refine P_h rfl rfl (Wh_store rfl rfl rfl (.here) (.put (.put (.put (.done)))) rfl (List.cons_ne_nil _ _) agg41.2 ?_) ?_
                              rotate_left; exact P_stop
                              refine P_x rfl (Wx_val (Ev_loadPK0 rfl hp329 (SubE.cons2 (i := 3) rfl (SubE.nil)) rfl agg41) rfl ?_) ?_
                              rotate_left; exact P_stop
                              refine P_h rfl rfl (Wh_store rfl rfl rfl (.there (.here)) (.put (.put (.put (.done)))) rfl (List.cons_ne_nil _ _) agg41.2 ?_) ?_
                              rotate_left; exact P_stop
                              refine P_done ?_
                              exact T_metP (x231.Void, x231.Z.Lo, x231.Z.Hi, x242.Void, x242.Z.Lo, x242.Z.Hi) (g322, g311) hx256 trivial (by exact .cons rfl (.cons rfl (.cons rfl (.cons rfl (.cons rfl (.nil)))))) (by exact .pick 1 rfl (.pick 0 rfl (.pick 0 rfl (.pick 0 rfl (.pick 0 rfl (.pick 0 rfl (.refl)))))))
                          · skip
                            refine P_h rfl rfl (Wh_store rfl rfl rfl (.here) (.put (.put (.put (.done)))) rfl (List.cons_ne_nil _ _) agg41.2 ?_) ?_
                            rotate_left; exact P_stop
                            refine P_x rfl (Wx_val (Ev_load1 rfl (i := 2) rfl rfl one24) rfl ?_) ?_
                            rotate_left; exact P_stop
                            refine T_idxR (k := 3) rfl (by decide) (fun _ => rfl) h243 (fun b331 j333 hA334 hj335 hl336 hm338 hp337 => ?_)
                            refine P_p rfl rfl (Ev_index rfl rfl hA334 (j := j333) hj335 hl336 slc24) rfl ?_
                            refine P_x rfl (Wx_val (Ev_loadPK0 rfl hp337 (SubE.cons2 (i := 3) rfl (SubE.nil)) rfl agg41) rfl ?_) ?_
                            rotate_left; exact P_stop
                            refine P_h rfl rfl (Wh_store rfl rfl rfl (.there (.here)) (.put (.put (.put (.done)))) rfl (List.cons_ne_nil _ _) agg41.2 ?_) ?_
                            rotate_left; exact P_stop
                            refine P_done ?_
                            exact T_metP (x231.Void, x231.Z.Lo, x231.Z.Hi, x242.Void, x242.Z.Lo, x242.Z.Hi) (g322, g311) hx256 trivial (by exact .cons rfl (.cons rfl (.cons rfl (.cons rfl (.cons rfl (.nil)))))) (by exact .pick 1 rfl (.pick 0 rfl (.pick 0 rfl (.pick 0 rfl (.pick 0 rfl (.pick 0 rfl (.refl)))))))
                · have hx230 := ite_f h228 hx227
                  refine T_condF rfl ?_
                  refine T_exit ?_
                  refine T_outX ?_
                  obtain rfl := exit_eq ht227 hx230
                  refine T_outX ?_
                  refine T_here ?_
                  exact T_metP () () ho227 trivial (by exact .nil) (by exact .drop 0 rfl (.drop 0 rfl (.drop 0 rfl (.drop 0 rfl (.refl)))))
          · skip
            refine T_reg ?_
            refine T_val (Ev_move rfl) rfl ?_
            refine T_val (Ev_neq rfl rfl) rfl ?_
            refine T_val (Ev_move rfl) rfl ?_
            refine T_caseNP (s := 99) rfl (fun h75 => ?_) (fun h75 => ?_)
            · have hx76 := ite_f h75 hx71
              refine T_skipG rfl rfl rfl rfl rfl ?_
              refine T_skipG rfl rfl rfl rfl rfl ?_
              refine T_val (Ev_pickT rfl rfl) rfl ?_
              refine T_val (Ev_move rfl) rfl ?_
              refine T_skipG rfl rfl rfl rfl rfl ?_
              refine T_skipG rfl rfl rfl rfl rfl ?_
              refine T_val (Ev_pickT rfl rfl) rfl ?_
              refine T_val (Ev_move rfl) rfl ?_
              refine T_skipG rfl rfl rfl rfl rfl ?_
              refine T_skipG rfl rfl rfl rfl rfl ?_
              refine T_skipG rfl rfl rfl rfl rfl ?_
              refine T_skipG rfl rfl rfl rfl rfl ?_
              refine T_val (Ev_pickT rfl rfl) rfl ?_
              refine T_val (Ev_move rfl) rfl ?_
              refine T_skipG rfl rfl rfl rfl rfl ?_
              refine T_skipG rfl rfl rfl rfl rfl ?_
              refine T_skipG rfl rfl rfl rfl rfl ?_
              refine T_skipG rfl rfl rfl rfl rfl ?_
              refine T_skipG rfl rfl rfl rfl rfl ?_
              refine T_skipG rfl rfl rfl rfl rfl ?_
              refine T_skipG rfl rfl rfl rfl rfl ?_
              refine T_val (Ev_pickT rfl rfl) rfl ?_
              refine T_nil ?_
              exact T_metP true () hx76 trivial (by exact .cons rfl (.cons rfl (.cons rfl (.nil)))) (by exact .pick 0 rfl (.pick 0 rfl (.pick 2 rfl (.pick 2 rfl (.drop 0 rfl (.drop 0 rfl (.drop 0 rfl (.drop 0 rfl (.drop 0 rfl (.drop 0 rfl (.drop 0 rfl (.refl))))))))))))
            · have hx77 := ite_t h75 hx71
              refine T_valG rfl rfl rfl (Ev_move rfl) rfl ?_
              refine T_valG rfl rfl rfl (Ev_neq rfl rfl) rfl ?_
              refine T_val (Ev_pickF rfl rfl) rfl ?_
              refine T_val (Ev_move rfl) rfl ?_
              refine T_caseNP (s := 103) rfl (fun h78 => ?_) (fun h78 => ?_)
              · have hx79 := ite_f h78 hx77
                refine T_skipG rfl rfl rfl rfl rfl ?_
                refine T_skipG rfl rfl rfl rfl rfl ?_
                refine T_val (Ev_pickT rfl rfl) rfl ?_
                refine T_val (Ev_move rfl) rfl ?_
                refine T_skipG rfl rfl rfl rfl rfl ?_
                refine T_skipG rfl rfl rfl rfl rfl ?_
                refine T_skipG rfl rfl rfl rfl rfl ?_
                refine T_skipG rfl rfl rfl rfl rfl ?_
                refine T_val (Ev_pickT rfl rfl) rfl ?_
                refine T_val (Ev_move rfl) rfl ?_
                refine T_skipG rfl rfl rfl rfl rfl ?_
                refine T_skipG rfl rfl rfl rfl rfl ?_
                refine T_skipG rfl rfl rfl rfl rfl ?_
                refine T_skipG rfl rfl rfl rfl rfl ?_
                refine T_skipG rfl rfl rfl rfl rfl ?_
                refine T_skipG rfl rfl rfl rfl rfl ?_
                refine T_skipG rfl rfl rfl rfl rfl ?_
                refine T_val (Ev_pickT rfl rfl) rfl ?_
                refine T_nil ?_
                exact T_metP true () hx79 trivial (by exact .cons rfl (.cons rfl (.cons rfl (.nil)))) (by exact .pick 0 rfl (.pick 0 rfl (.pick 2 rfl (.pick 2 rfl (.drop 0 rfl (.drop 0 rfl (.drop 0 rfl (.drop 0 rfl (.drop 0 rfl (.drop 0 rfl (.drop 0 rfl (.refl))))))))))))
              · have hx80 := ite_t h78 hx77
                refine T_valG rfl rfl rfl (Ev_move rfl) rfl ?_
                refine T_valG rfl rfl rfl (Ev_neq rfl rfl) rfl ?_
                refine T_val (Ev_pickF rfl rfl) rfl ?_
                refine T_val (Ev_move rfl) rfl ?_
                refine T_caseNP (s := 107) rfl (fun h81 => ?_) (fun h81 => ?_)
                · have hx82 := ite_f h81 hx80
                  refine T_skipG rfl rfl rfl rfl rfl ?_
                  refine T_skipG rfl rfl rfl rfl rfl ?_
                  refine T_skipG rfl rfl rfl rfl rfl ?_
                  refine T_skipG rfl rfl rfl rfl rfl ?_
                  refine T_val (Ev_pickT rfl rfl) rfl ?_
                  refine T_val (Ev_move rfl) rfl ?_
                  refine T_skipG rfl rfl rfl rfl rfl ?_
                  refine T_skipG rfl rfl rfl rfl rfl ?_
                  refine T_skipG rfl rfl rfl rfl rfl ?_
                  refine T_skipG rfl rfl rfl rfl rfl ?_
                  refine T_skipG rfl rfl rfl rfl rfl ?_
                  refine T_skipG rfl rfl rfl rfl rfl ?_
                  refine T_skipG rfl rfl rfl rfl rfl ?_
                  refine T_val (Ev_pickT rfl rfl) rfl ?_
                  refine T_nil ?_
                  exact T_metP true () hx82 trivial (by exact .cons rfl (.cons rfl (.cons rfl (.nil)))) (by exact .pick 0 rfl (.pick 0 rfl (.pick 2 rfl (.pick 2 rfl (.drop 0 rfl (.drop 0 rfl (.drop 0 rfl (.drop 0 rfl (.drop 0 rfl (.drop 0 rfl (.drop 0 rfl (.refl))))))))))))
                · have hx83 := ite_t h81 hx80
                  refine T_valG rfl rfl rfl (Ev_loadK rfl (i := 6) rfl rfl agg26) rfl ?_
                  refine T_valG rfl rfl rfl (Ev_loadK rfl (i := 0) rfl rfl agg26) rfl ?_
                  refine T_rowP (k := 2) rfl (by decide) (fun _ => rfl) (fun hn84 hs85 => ?_)
                  refine T_rowP (k := 1) rfl (by decide) (fun _ => rfl) (fun hn86 hs87 => ?_)
                  obtain ⟨r88, h89, hx90⟩ := bnd_some hx83
                  refine T_xG rfl rfl rfl (Wx_callL rfl (fun w1 hw1 => lidarlaw09_Same_ok r64.1 r69.1 (Has.len' (Has.up (L := ([.r (A67) ((r64.1.Cells).length) (c68) 41 3 ((r64.1.Cells).flatMap e_api_Cell), .r (A72) ((r69.1.Cells).length) (c73) 41 3 ((r69.1.Cells).flatMap e_api_Cell)] : List Ent)) hs85 (SubE.cons2 (i := 0) rfl (SubE.nil)))) (Has.len' (Has.up (L := ([.r (A67) ((r64.1.Cells).length) (c68) 41 3 ((r64.1.Cells).flatMap e_api_Cell), .r (A72) ((r69.1.Cells).length) (c73) 41 3 ((r69.1.Cells).flatMap e_api_Cell)] : List Ent)) hs87 (SubE.cons2 (i := 1) rfl (SubE.nil)))) h89 w1 (okAll (K := ([.r (A67) ((r64.1.Cells).length) (c68) 41 3 ((r64.1.Cells).flatMap e_api_Cell), .r (A72) ((r69.1.Cells).length) (c73) 41 3 ((r69.1.Cells).flatMap e_api_Cell)] : List Ent)) (by exact (SubE.cons2 (i := 2) rfl (SubE.cons2 (i := 1) rfl (SubE.nil)))) hw1)) rfl ?_)
                  rintro _ _ hlo ⟨rfl, rfl, -⟩
                  refine T_app0 ?_
                  refine T_valG rfl rfl rfl (Ev_not rfl) rfl ?_
                  refine T_val (Ev_pickF rfl rfl) rfl ?_
                  refine T_val (Ev_move rfl) rfl ?_
                  refine T_caseNB (s := 113) rfl (fun h91 => ?_) (fun h91 => ?_)
                  · have hx92 := ite_bf h91 hx90
                    refine T_skipG rfl rfl rfl rfl rfl ?_
                    refine T_skipG rfl rfl rfl rfl rfl ?_
                    refine T_skipG rfl rfl rfl rfl rfl ?_
                    refine T_skipG rfl rfl rfl rfl rfl ?_
                    refine T_skipG rfl rfl rfl rfl rfl ?_
                    refine T_skipG rfl rfl rfl rfl rfl ?_
                    refine T_skipG rfl rfl rfl rfl rfl ?_
                    refine T_val (Ev_pickT rfl rfl) rfl ?_
                    refine T_nil ?_
                    exact T_metP true () hx92 trivial (by exact .cons rfl (.cons rfl (.cons rfl (.nil)))) (by exact .pick 0 rfl (.pick 0 rfl (.pick 2 rfl (.pick 2 rfl (.drop 0 rfl (.drop 0 rfl (.drop 0 rfl (.drop 0 rfl (.drop 0 rfl (.drop 0 rfl (.drop 0 rfl (.refl))))))))))))
                  · have hx93 := ite_t h91 hx90
                    refine T_valG rfl rfl rfl (Ev_field rfl fld26_1 rfl) rfl ?_
                    refine T_valG rfl rfl rfl (Ev_load1 rfl (i := 4) rfl rfl one24) rfl ?_
                    refine T_valG rfl rfl rfl (Ev_len rfl 41 Try.underlying24) rfl ?_
                    refine T_valG rfl rfl rfl (Ev_field rfl fld26_1 rfl) rfl ?_
                    refine T_valG rfl rfl rfl (Ev_load1 rfl (i := 0) rfl rfl one24) rfl ?_
                    refine T_valG rfl rfl rfl (Ev_len rfl 41 Try.underlying24) rfl ?_
                    refine T_valG rfl rfl rfl (Ev_neq rfl rfl) rfl ?_
                    refine T_val (Ev_pickF rfl rfl) rfl ?_
                    refine T_nil ?_
                    exact T_metP (!(decide (((((r30.1.Cells).length : Nat) : Int)) = ((((r69.1.Cells).length : Nat) : Int))))) () hx93 trivial (by exact .cons rfl (.cons rfl (.cons rfl (.nil)))) (by exact .pick 0 rfl (.pick 0 rfl (.pick 2 rfl (.pick 2 rfl (.drop 0 rfl (.drop 0 rfl (.drop 0 rfl (.drop 0 rfl (.drop 0 rfl (.drop 0 rfl (.drop 0 rfl (.refl))))))))))))
      · skip
        refine T_reg ?_
        refine T_val (Ev_move rfl) rfl ?_
        refine T_val (Ev_neq rfl rfl) rfl ?_
        refine T_val (Ev_move rfl) rfl ?_
        refine T_caseNP (s := 63) rfl (fun h36 => ?_) (fun h36 => ?_)
        · have hx37 := ite_f h36 hx32
          refine T_skipG rfl rfl rfl rfl rfl ?_
          refine T_skipG rfl rfl rfl rfl rfl ?_
          refine T_val (Ev_pickT rfl rfl) rfl ?_
          refine T_val (Ev_move rfl) rfl ?_
          refine T_skipG rfl rfl rfl rfl rfl ?_
          refine T_skipG rfl rfl rfl rfl rfl ?_
          refine T_val (Ev_pickT rfl rfl) rfl ?_
          refine T_val (Ev_move rfl) rfl ?_
          refine T_skipG rfl rfl rfl rfl rfl ?_
          refine T_skipG rfl rfl rfl rfl rfl ?_
          refine T_skipG rfl rfl rfl rfl rfl ?_
          refine T_skipG rfl rfl rfl rfl rfl ?_
          refine T_val (Ev_pickT rfl rfl) rfl ?_
          refine T_nil ?_
          exact T_metP true () hx37 trivial (by exact .cons rfl (.cons rfl (.cons rfl (.cons rfl (.cons rfl (.cons rfl (.cons rfl (.nil)))))))) (by exact .pick 0 rfl (.pick 0 rfl (.pick 0 rfl (.pick 0 rfl (.pick 0 rfl (.pick 0 rfl (.pick 0 rfl (.refl))))))))
        · have hx38 := ite_t h36 hx32
          refine T_valG rfl rfl rfl (Ev_move rfl) rfl ?_
          refine T_valG rfl rfl rfl (Ev_neq rfl rfl) rfl ?_
          refine T_val (Ev_pickF rfl rfl) rfl ?_
          refine T_val (Ev_move rfl) rfl ?_
          refine T_caseNP (s := 67) rfl (fun h39 => ?_) (fun h39 => ?_)
          · have hx40 := ite_f h39 hx38
            refine T_skipG rfl rfl rfl rfl rfl ?_
            refine T_skipG rfl rfl rfl rfl rfl ?_
            refine T_val (Ev_pickT rfl rfl) rfl ?_
            refine T_val (Ev_move rfl) rfl ?_
            refine T_skipG rfl rfl rfl rfl rfl ?_
            refine T_skipG rfl rfl rfl rfl rfl ?_
            refine T_skipG rfl rfl rfl rfl rfl ?_
            refine T_skipG rfl rfl rfl rfl rfl ?_
            refine T_val (Ev_pickT rfl rfl) rfl ?_
            refine T_nil ?_
            exact T_metP true () hx40 trivial (by exact .cons rfl (.cons rfl (.cons rfl (.cons rfl (.cons rfl (.cons rfl (.cons rfl (.nil)))))))) (by exact .pick 0 rfl (.pick 0 rfl (.pick 0 rfl (.pick 0 rfl (.pick 0 rfl (.pick 0 rfl (.pick 0 rfl (.refl))))))))
          · have hx41 := ite_t h39 hx38
            refine T_valG rfl rfl rfl (Ev_move rfl) rfl ?_
            refine T_valG rfl rfl rfl (Ev_neq rfl rfl) rfl ?_
            refine T_val (Ev_pickF rfl rfl) rfl ?_
            refine T_val (Ev_move rfl) rfl ?_
            refine T_caseNP (s := 71) rfl (fun h42 => ?_) (fun h42 => ?_)
            · have hx43 := ite_f h42 hx41
              refine T_skipG rfl rfl rfl rfl rfl ?_
              refine T_skipG rfl rfl rfl rfl rfl ?_
              refine T_skipG rfl rfl rfl rfl rfl ?_
              refine T_skipG rfl rfl rfl rfl rfl ?_
              refine T_val (Ev_pickT rfl rfl) rfl ?_
              refine T_nil ?_
              exact T_metP true () hx43 trivial (by exact .cons rfl (.cons rfl (.cons rfl (.cons rfl (.cons rfl (.cons rfl (.cons rfl (.nil)))))))) (by exact .pick 0 rfl (.pick 0 rfl (.pick 0 rfl (.pick 0 rfl (.pick 0 rfl (.pick 0 rfl (.pick 0 rfl (.refl))))))))
            · have hx44 := ite_t h42 hx41
              refine T_valG rfl rfl rfl (Ev_loadK rfl (i := 2) rfl rfl agg26) rfl ?_
              refine T_valG rfl rfl rfl (Ev_loadK rfl (i := 0) rfl rfl agg26) rfl ?_
              refine T_rowP (k := 3) rfl (by decide) (fun _ => rfl) (fun hn45 hs46 => ?_)
              refine T_rowP (k := 1) rfl (by decide) (fun _ => rfl) (fun hn47 hs48 => ?_)
              obtain ⟨r49, h50, hx51⟩ := bnd_some hx44
              refine T_xG rfl rfl rfl (Wx_callL rfl (fun w1 hw1 => lidarlaw09_Same_ok r24.1 r30.1 (Has.len' (Has.up (L := ([.r (A27) ((r24.1.Cells).length) (c28) 41 3 ((r24.1.Cells).flatMap e_api_Cell), .r (A33) ((r30.1.Cells).length) (c34) 41 3 ((r30.1.Cells).flatMap e_api_Cell)] : List Ent)) hs46 (SubE.cons2 (i := 0) rfl (SubE.nil)))) (Has.len' (Has.up (L := ([.r (A27) ((r24.1.Cells).length) (c28) 41 3 ((r24.1.Cells).flatMap e_api_Cell), .r (A33) ((r30.1.Cells).length) (c34) 41 3 ((r30.1.Cells).flatMap e_api_Cell)] : List Ent)) hs48 (SubE.cons2 (i := 1) rfl (SubE.nil)))) h50 w1 (okAll (K := ([.r (A27) ((r24.1.Cells).length) (c28) 41 3 ((r24.1.Cells).flatMap e_api_Cell), .r (A33) ((r30.1.Cells).length) (c34) 41 3 ((r30.1.Cells).flatMap e_api_Cell)] : List Ent)) (by exact (SubE.cons2 (i := 3) rfl (SubE.cons2 (i := 1) rfl (SubE.nil)))) hw1)) rfl ?_)
              rintro _ _ hlo ⟨rfl, rfl, -⟩
              refine T_app0 ?_
              refine T_valG rfl rfl rfl (Ev_not rfl) rfl ?_
              refine T_val (Ev_pickF rfl rfl) rfl ?_
              refine T_nil ?_
              exact T_metP (!(r49)) () hx51 trivial (by exact .cons rfl (.cons rfl (.cons rfl (.cons rfl (.cons rfl (.cons rfl (.cons rfl (.nil)))))))) (by exact .pick 0 rfl (.pick 0 rfl (.pick 0 rfl (.pick 0 rfl (.pick 0 rfl (.pick 0 rfl (.pick 0 rfl (.refl))))))))
  · skip
    refine T_reg ?_
    refine T_val (Ev_loadK rfl (i := 0) rfl rfl agg26) rfl ?_
    obtain ⟨r2, h3, hx4⟩ := bnd_some hx
    refine T_x (Wx_callL rfl (fun w1 hw1 => lidarlaw09_good_ok p0 (Has.len' ha0') h3 w1 (okApp (K := K) (K2 := []) hK (by exact (SubE.cons2 (i := 1) rfl (SubE.nil))) (by exact (SubE.nil)) hw1)) rfl ?_)
    rintro _ _ hlo ⟨rfl, rfl, -⟩
    refine T_app0 ?_
    refine T_val (Ev_not rfl) rfl ?_
    refine T_val (Ev_move rfl) rfl ?_
    refine T_caseNB (s := 30) rfl (fun h5 => ?_) (fun h5 => ?_)
    · have hx6 := ite_bf h5 hx4
      refine T_skipG rfl rfl rfl rfl rfl ?_
      refine T_skipG rfl rfl rfl rfl rfl ?_
      refine T_skipG rfl rfl rfl rfl rfl ?_
      refine T_skipG rfl rfl rfl rfl rfl ?_
      refine T_skipG rfl rfl rfl rfl rfl ?_
      refine T_skipG rfl rfl rfl rfl rfl ?_
      refine T_skipG rfl rfl rfl rfl rfl ?_
      refine T_skipG rfl rfl rfl rfl rfl ?_
      refine T_val (Ev_pickT rfl rfl) rfl ?_
      refine T_nil ?_
      exact T_metP true () hx6 trivial (by exact .cons rfl (.cons rfl (.cons rfl (.cons rfl (.nil))))) (by exact .pick 0 rfl (.refl))
    · have hx7 := ite_t h5 hx4
      refine T_valG rfl rfl rfl (Ev_field rfl fld26_0 rfl) rfl ?_
      refine T_valG rfl rfl rfl (Ev_field rfl fld23_2 rfl) rfl ?_
      refine T_valG rfl rfl rfl (Ev_load1 rfl (i := 0) rfl rfl one3) rfl ?_
      refine T_valG rfl rfl rfl (Ev_move rfl) rfl ?_
      refine T_valG rfl rfl rfl (Ev_mul_w64 rfl rfl) rfl ?_
      refine T_valG rfl rfl rfl (Ev_move rfl) rfl ?_
      refine T_valG rfl rfl rfl (Ev_mul_w64 rfl rfl) rfl ?_
      refine T_valG rfl rfl rfl (Ev_gtr rfl rfl) rfl ?_
      refine T_val (Ev_pickF rfl rfl) rfl ?_
      refine T_nil ?_
      exact T_metP (decide (1000000 < (w64 ((w64 (p0.Raster.Step * (w64 (1 + (Int.tmod (w64 (p1)) 6))))) * (w64 (1 + (Int.tmod (w64 (p2)) 6))))))) () hx7 trivial (by exact .cons rfl (.cons rfl (.cons rfl (.cons rfl (.nil))))) (by exact .pick 0 rfl (.refl))
end Go.Proofs.Ytjhknbpiaikblaa
