/- Walks of the program, with their plain functions: numbers, turns, circles. -/
import Derived.Test.YtlkgeeppfifeeaaGreatFlow15
import Derived.Test.YtlkgeeppfifeeaaGreatProg
namespace Go.Proofs.YtlkgeeppfifeeaaGreat
open Go Go.RowKit
theorem mixed : Tryz.prog.follows .mixedOrders = true := by kernel_rfl
theorem slc123 : SliceOf Tryz.prog 123 141 1 := .mk Tryz.underlying123 (show Tryz.prog.info? 141 = some Tryz.t141 from by kernel_rfl) (by kernel_rfl)
theorem one141 : OneOf Tryz.prog 141 := .mk Tryz.underlying141 rfl (show Tryz.prog.info? 141 = some Tryz.t141 from by kernel_rfl) (by kernel_rfl)
theorem bls123_2_0u321u32 (x0 : Int) (x1 : Int) : BuildSliceOf Tryz.prog 123 2 [(0, .int .u32 x0), (1, .int .u32 x1)] 141 [.int .u32 x0, .int .u32 x1] := fun w => by kernel_rfl
theorem zer125 : ZeroOf Tryz.prog 125 [.bool (false), .slice (none) (0) (0), .slice (none) (0) (0)] := ⟨_, Tryz.zeroValue125, rfl⟩
theorem fld125_0 : FieldOf Tryz.prog 125 0 0 := .mk Tryz.underlying125 rfl rfl (show Tryz.prog.info? 4 = some Tryz.t4 from by kernel_rfl) (show Tryz.t4.size = 1 from by kernel_rfl) rfl
theorem one4 : OneOf Tryz.prog 4 := .mk Tryz.underlying4 rfl (show Tryz.prog.info? 4 = some Tryz.t4 from by kernel_rfl) (by kernel_rfl)
theorem fld125_1 : FieldOf Tryz.prog 125 1 1 := .mk Tryz.underlying125 rfl rfl (show Tryz.prog.info? 123 = some Tryz.t123 from by kernel_rfl) (show Tryz.t123.size = 1 from by kernel_rfl) rfl
theorem one123 : OneOf Tryz.prog 123 := .mk Tryz.underlying123 rfl (show Tryz.prog.info? 123 = some Tryz.t123 from by kernel_rfl) (by kernel_rfl)
theorem fld125_2 : FieldOf Tryz.prog 125 2 2 := .mk Tryz.underlying125 rfl rfl (show Tryz.prog.info? 123 = some Tryz.t123 from by kernel_rfl) (show Tryz.t123.size = 1 from by kernel_rfl) rfl
theorem bld125_0b1s2s (x0 : Bool) (x1 : Option Addr) (x2 : Nat) (x3 : Nat) (x4 : Option Addr) (x5 : Nat) (x6 : Nat) : BuildOf Tryz.prog 125 [(0, .bool x0), (1, .slice x1 x2 x3), (2, .slice x4 x5 x6)] [.bool x0, .slice x1 x2 x3, .slice x4 x5 x6] := fun w => by kernel_rfl
theorem agg125 : AggOf Tryz.prog 125 3 := .mk Tryz.underlying125 rfl (show Tryz.prog.info? 125 = some Tryz.t125 from by kernel_rfl) (by kernel_rfl)
theorem bls123_1_0u32 (x0 : Int) : BuildSliceOf Tryz.prog 123 1 [(0, .int .u32 x0)] 141 [.int .u32 x0] := fun w => by kernel_rfl
theorem slc84 : SliceOf Tryz.prog 84 38 2 := .mk Tryz.underlying84 (show Tryz.prog.info? 38 = some Tryz.t38 from by kernel_rfl) (by kernel_rfl)
theorem agg38 : AggOf Tryz.prog 38 2 := .mk Tryz.underlying38 rfl (show Tryz.prog.info? 38 = some Tryz.t38 from by kernel_rfl) (by kernel_rfl)
theorem zer38 : ZeroOf Tryz.prog 38 [.int .i64 (0), .int .i64 (0)] := ⟨_, Tryz.zeroValue38, rfl⟩
theorem fld38_0 : FieldOf Tryz.prog 38 0 0 := .mk Tryz.underlying38 rfl rfl (show Tryz.prog.info? 3 = some Tryz.t3 from by kernel_rfl) (show Tryz.t3.size = 1 from by kernel_rfl) rfl
theorem one3 : OneOf Tryz.prog 3 := .mk Tryz.underlying3 rfl (show Tryz.prog.info? 3 = some Tryz.t3 from by kernel_rfl) (by kernel_rfl)
theorem fld38_1 : FieldOf Tryz.prog 38 1 1 := .mk Tryz.underlying38 rfl rfl (show Tryz.prog.info? 3 = some Tryz.t3 from by kernel_rfl) (show Tryz.t3.size = 1 from by kernel_rfl) rfl
theorem bls84_3_0ai64i641ai64i642ai64i64 (x0 : Int) (x1 : Int) (x2 : Int) (x3 : Int) (x4 : Int) (x5 : Int) : BuildSliceOf Tryz.prog 84 3 [(0, .agg #[.int .i64 x0, .int .i64 x1]), (1, .agg #[.int .i64 x2, .int .i64 x3]), (2, .agg #[.int .i64 x4, .int .i64 x5])] 38 [.int .i64 x0, .int .i64 x1, .int .i64 x2, .int .i64 x3, .int .i64 x4, .int .i64 x5] := fun w => by kernel_rfl
theorem bls84_4_0ai64i641ai64i642ai64i643ai64i64 (x0 : Int) (x1 : Int) (x2 : Int) (x3 : Int) (x4 : Int) (x5 : Int) (x6 : Int) (x7 : Int) : BuildSliceOf Tryz.prog 84 4 [(0, .agg #[.int .i64 x0, .int .i64 x1]), (1, .agg #[.int .i64 x2, .int .i64 x3]), (2, .agg #[.int .i64 x4, .int .i64 x5]), (3, .agg #[.int .i64 x6, .int .i64 x7])] 38 [.int .i64 x0, .int .i64 x1, .int .i64 x2, .int .i64 x3, .int .i64 x4, .int .i64 x5, .int .i64 x6, .int .i64 x7] := fun w => by kernel_rfl
theorem fld41_0 : FieldOf Tryz.prog 41 0 0 := .mk Tryz.underlying41 rfl rfl (show Tryz.prog.info? 3 = some Tryz.t3 from by kernel_rfl) (show Tryz.t3.size = 1 from by kernel_rfl) rfl
theorem fld41_1 : FieldOf Tryz.prog 41 1 1 := .mk Tryz.underlying41 rfl rfl (show Tryz.prog.info? 3 = some Tryz.t3 from by kernel_rfl) (show Tryz.t3.size = 1 from by kernel_rfl) rfl
theorem fld43_0 : FieldOf Tryz.prog 43 0 0 := .mk Tryz.underlying43 rfl rfl (show Tryz.prog.info? 3 = some Tryz.t3 from by kernel_rfl) (show Tryz.t3.size = 1 from by kernel_rfl) rfl
theorem fld43_1 : FieldOf Tryz.prog 43 1 1 := .mk Tryz.underlying43 rfl rfl (show Tryz.prog.info? 3 = some Tryz.t3 from by kernel_rfl) (show Tryz.t3.size = 1 from by kernel_rfl) rfl
theorem bld38_0i641i64 (x0 : Int) (x1 : Int) : BuildOf Tryz.prog 38 [(0, .int .i64 x0), (1, .int .i64 x1)] [.int .i64 x0, .int .i64 x1] := fun w => by kernel_rfl
theorem agg43 : AggOf Tryz.prog 43 4 := .mk Tryz.underlying43 rfl (show Tryz.prog.info? 43 = some Tryz.t43 from by kernel_rfl) (by kernel_rfl)
theorem fld43_2 : FieldOf Tryz.prog 43 2 2 := .mk Tryz.underlying43 rfl rfl (show Tryz.prog.info? 41 = some Tryz.t41 from by kernel_rfl) (show Tryz.t41.size = 2 from by kernel_rfl) rfl
theorem agg41 : AggOf Tryz.prog 41 2 := .mk Tryz.underlying41 rfl (show Tryz.prog.info? 41 = some Tryz.t41 from by kernel_rfl) (by kernel_rfl)
theorem zer48 : ZeroOf Tryz.prog 48 [.int .i64 (0), .int .i64 (0)] := ⟨_, Tryz.zeroValue48, rfl⟩
theorem bld48_0i641i64 (x0 : Int) (x1 : Int) : BuildOf Tryz.prog 48 [(0, .int .i64 x0), (1, .int .i64 x1)] [.int .i64 x0, .int .i64 x1] := fun w => by kernel_rfl
theorem agg48 : AggOf Tryz.prog 48 2 := .arr Tryz.underlying48 (show Tryz.prog.info? 48 = some Tryz.t48 from by kernel_rfl) (by kernel_rfl)
theorem arr48 : ArrOf Tryz.prog 48 2 1 := .mk Tryz.underlying48 (show Tryz.prog.info? 3 = some Tryz.t3 from by kernel_rfl) (by kernel_rfl)
theorem seq38 (a0 : Int) (a1 : Int) (b0 : Int) (b1 : Int) : ∀ w, (Op.equalIn 10000 38 (.agg #[.int .i64 (a0), .int .i64 (a1)]) (.agg #[.int .i64 (b0), .int .i64 (b1)])).run Tryz.prog w = .ok ((((a0) == (b0)) && (((a1) == (b1)) && true))) w :=
  EqF.struct Tryz.underlying38 (by kernel_rfl) (.cons rfl (fun w => by kernel_rfl) (fun w => by kernel_rfl) (fun w => run_equalIn_int w 9998 3 .i64 .i64 _ _ Tryz.underlying3) (.cons rfl (fun w => by kernel_rfl) (fun w => by kernel_rfl) (fun w => run_equalIn_int w 9998 3 .i64 .i64 _ _ Tryz.underlying3) (EqF.nil)))
theorem slc22 : SliceOf Tryz.prog 22 43 4 := .mk Tryz.underlying22 (show Tryz.prog.info? 43 = some Tryz.t43 from by kernel_rfl) (by kernel_rfl)
theorem bld112_0ai64i641ai64i642ai64i64 (x0 : Int) (x1 : Int) (x2 : Int) (x3 : Int) (x4 : Int) (x5 : Int) : BuildOf Tryz.prog 112 [(0, .agg #[.int .i64 x0, .int .i64 x1]), (1, .agg #[.int .i64 x2, .int .i64 x3]), (2, .agg #[.int .i64 x4, .int .i64 x5])] [.int .i64 x0, .int .i64 x1, .int .i64 x2, .int .i64 x3, .int .i64 x4, .int .i64 x5] := fun w => by kernel_rfl
def e_u32 (x : Int) : List Value := [.int .u32 (x)]
noncomputable def ratio_nat_norm_l1  : (List Int) → Option (Sum (List Int) (List Int)) := fun s25 =>
 jn (fun (s6 : Bool) =>
 if s6 = true then (gd (0 ≤ (w64 (((((s25).length : Nat) : Int)) - 1)) ∧ (w64 (((((s25).length : Nat) : Int)) - 1)) ≤ (((s25).length : Nat) : Int)) <|
 some (.inl (subl s25 0 (w64 (((((s25).length : Nat) : Int)) - 1)))))
 else (some (.inr s25)))
 (fun j6 => if 0 < ((((s25).length : Nat) : Int)) then (bnd (idx s25 (w64 (((((s25).length : Nat) : Int)) - 1))) fun x29 =>
 j6 (decide (x29 = 0)))
 else (j6 false))
noncomputable def ratio_nat_norm (p0 : List Int) : Option (List Int) :=
 jn (fun (s2 : List Int) =>
 some s2)
 (fun j2 => bnd (lfix (ratio_nat_norm_l1) p0) fun t25 =>
 j2 t25)
noncomputable def ratio_natOf (p0 : Int) : Option (List Int) :=
 bnd (ratio_nat_norm ([wu32 (p0), wu32 (shr_ .u64 p0 32)])) fun r3 =>
 some r3
noncomputable def math_bits_Add32 (p0 : Int) (p1 : Int) (p2 : Int) : Option (Int × Int) :=
 some (wu32 (wu64 ((wu64 ((wu64 (p0)) + (wu64 (p1)))) + (wu64 (p2)))), wu32 (shr_ .u64 (wu64 ((wu64 ((wu64 (p0)) + (wu64 (p1)))) + (wu64 (p2)))) 32))
noncomputable def math_bits_Sub32 (p0 : Int) (p1 : Int) (p2 : Int) : Option (Int × Int) :=
 some (wu32 ((wu32 (p0 - p1)) - p2), shr_ .u32 (bit_or .u32 (bit_and .u32 (bit_xor .u32 (if IntKind.signed .u32 then -1 else IntKind.max .u32) p0) p1) (bit_and .u32 (bit_xor .u32 (if IntKind.signed .u32 then -1 else IntKind.max .u32) (bit_xor .u32 p0 p1)) (wu32 ((wu32 (p0 - p1)) - p2)))) 31)
noncomputable def ratio_nat_mul_l7 (p1 : List Int) (s108 : (List Int) × Int) (x112 : Int) : ((List Int) × Int × Int) → Option (Sum ((List Int) × Int × Int) ((List Int) × Int)) := fun s160 =>
 if s160.2.2 < ((((p1).length : Nat) : Int)) then (bnd (idx p1 s160.2.2) fun x164 =>
 bnd (idx s160.1 (w64 (s108.2 + s160.2.2))) fun x175 =>
 bnd (idx s160.1 (w64 (s108.2 + s160.2.2))) fun x186 =>
 some (.inl (setI s160.1 (w64 (s108.2 + s160.2.2)) (wu32 (wu64 ((wu64 ((wu64 ((wu64 (x112)) * (wu64 (x164)))) + (wu64 (x175)))) + s160.2.1))), shr_ .u64 (wu64 ((wu64 ((wu64 ((wu64 (x112)) * (wu64 (x164)))) + (wu64 (x175)))) + s160.2.1)) 32, w64 (s160.2.2 + 1))))
 else (some (.inr (s160.1, s160.2.1)))
noncomputable def ratio_nat_mul_l3 (p0 : List Int) (p1 : List Int) : ((List Int) × Int) → Option (Sum ((List Int) × Int) (List Int)) := fun s108 =>
 if s108.2 < ((((p0).length : Nat) : Int)) then (bnd (idx p0 s108.2) fun x112 =>
 jn (fun (s29 : (List Int) × Int) =>
 bnd (idx s29.1 (w64 (s108.2 + ((((p1).length : Nat) : Int))))) fun x201 =>
 some (.inl (setI s29.1 (w64 (s108.2 + ((((p1).length : Nat) : Int)))) (wu32 (s29.2)), w64 (s108.2 + 1))))
 (fun j29 => bnd (lfix (ratio_nat_mul_l7 p1 s108 x112) (s108.1, 0, 0)) fun t160 =>
 j29 t160))
 else (some (.inr s108.1))
noncomputable def ratio_nat_mul (p0 : List Int) (p1 : List Int) : Option (List Int) :=
 gd ((0 : Int) ≤ (w64 (((((p0).length : Nat) : Int)) + ((((p1).length : Nat) : Int)))) ∧ 4 * Int.toNat (w64 (((((p0).length : Nat) : Int)) + ((((p1).length : Nat) : Int)))) ≤ 140737488355328) <|
 jn (fun (s3 : List Int) =>
 bnd (ratio_nat_norm s3) fun r218 =>
 some r218)
 (fun j3 => bnd (lfix (ratio_nat_mul_l3 p0 p1) (List.replicate (Int.toNat (w64 (((((p0).length : Nat) : Int)) + ((((p1).length : Nat) : Int))))) (0 : Int), 0)) fun t108 =>
 j3 t108)
noncomputable def ratio_nat_cmp_l6 (p0 : List Int) (p1 : List Int) : Int → Option (Sum Int (Sum Unit Int)) := fun s61 =>
 if 0 ≤ s61 then (bnd (idx p0 s61) fun x65 =>
 bnd (idx p1 s61) fun x76 =>
 if x65 = x76 then (some (.inl (w64 (s61 - 1))))
 else (bnd (idx p0 s61) fun x89 =>
 bnd (idx p1 s61) fun x100 =>
 if x89 < x100 then (some (.inr (.inr (-1))))
 else (some (.inr (.inr (1))))))
 else (some (.inr (.inl ())))
noncomputable def ratio_nat_cmp (p0 : List Int) (p1 : List Int) : Option Int :=
 if ((((p0).length : Nat) : Int)) = ((((p1).length : Nat) : Int)) then (jn (fun (s8 : Unit) =>
 some 0)
 (fun j8 => bnd (lfix (ratio_nat_cmp_l6 p0 p1) (w64 (((((p0).length : Nat) : Int)) - 1))) fun t61 =>
 (match t61 with
 | (.inl z61) => j8 z61
 | (.inr (z61)) => some z61
 )))
 else (if ((((p0).length : Nat) : Int)) < ((((p1).length : Nat) : Int)) then (some (-1))
 else (some 1))
noncomputable def ratio_nat_add_l6 (s2 : (List Int) × (List Int)) : ((List Int) × Int × Int) → Option (Sum ((List Int) × Int × Int) ((List Int) × Int)) := fun s56 =>
 if s56.2.2 < ((((s2.1).length : Nat) : Int)) then (jn (fun (s20 : Int) =>
 bnd (idx s2.1 s56.2.2) fun x76 =>
 bnd (math_bits_Add32 x76 s20 s56.2.1) fun r87 =>
 bnd (idx s56.1 s56.2.2) fun x90 =>
 some (.inl (setI s56.1 s56.2.2 r87.1, r87.2, w64 (s56.2.2 + 1))))
 (fun j20 => if s56.2.2 < ((((s2.2).length : Nat) : Int)) then (bnd (idx s2.2 s56.2.2) fun x62 =>
 j20 x62)
 else (j20 0)))
 else (some (.inr (s56.1, s56.2.1)))
noncomputable def ratio_nat_add (p0 : List Int) (p1 : List Int) : Option (List Int) :=
 jn (fun (s2 : (List Int) × (List Int)) =>
 gd ((0 : Int) ≤ (w64 (((((s2.1).length : Nat) : Int)) + 1)) ∧ 4 * Int.toNat (w64 (((((s2.1).length : Nat) : Int)) + 1)) ≤ 140737488355328) <|
 jn (fun (s6 : (List Int) × Int) =>
 bnd (idx s6.1 ((((s2.1).length : Nat) : Int))) fun x105 =>
 bnd (ratio_nat_norm (setI s6.1 ((((s2.1).length : Nat) : Int)) s6.2)) fun r122 =>
 some r122)
 (fun j6 => bnd (lfix (ratio_nat_add_l6 s2) (List.replicate (Int.toNat (w64 (((((s2.1).length : Nat) : Int)) + 1))) (0 : Int), 0, 0)) fun t56 =>
 j6 t56))
 (fun j2 => if ((((p0).length : Nat) : Int)) < ((((p1).length : Nat) : Int)) then (j2 (p1, p0))
 else (j2 (p0, p1)))
noncomputable def ratio_nat_sub_l4 (p0 : List Int) (p1 : List Int) : ((List Int) × Int × Int) → Option (Sum ((List Int) × Int × Int) (List Int)) := fun s49 =>
 if s49.2.2 < ((((p0).length : Nat) : Int)) then (jn (fun (s18 : Int) =>
 bnd (idx p0 s49.2.2) fun x69 =>
 bnd (math_bits_Sub32 x69 s18 s49.2.1) fun r80 =>
 bnd (idx s49.1 s49.2.2) fun x83 =>
 some (.inl (setI s49.1 s49.2.2 r80.1, r80.2, w64 (s49.2.2 + 1))))
 (fun j18 => if s49.2.2 < ((((p1).length : Nat) : Int)) then (bnd (idx p1 s49.2.2) fun x55 =>
 j18 x55)
 else (j18 0)))
 else (some (.inr s49.1))
noncomputable def ratio_nat_sub (p0 : List Int) (p1 : List Int) : Option (List Int) :=
 gd ((0 : Int) ≤ ((((p0).length : Nat) : Int)) ∧ 4 * Int.toNat ((((p0).length : Nat) : Int)) ≤ 140737488355328) <|
 jn (fun (s4 : List Int) =>
 bnd (ratio_nat_norm s4) fun r100 =>
 some r100)
 (fun j4 => bnd (lfix (ratio_nat_sub_l4 p0 p1) (List.replicate (Int.toNat ((((p0).length : Nat) : Int))) (0 : Int), 0, 0)) fun t49 =>
 j4 t49)
structure S_ratio_Num where
  neg : Bool
  n : List Int
  d : List Int
noncomputable def ratio_Num_Mul (p0 : S_ratio_Num) (p1 : S_ratio_Num) : Option S_ratio_Num :=
 bnd (ratio_nat_mul p0.n p1.n) fun r4 =>
 bnd (ratio_nat_mul p0.d p1.d) fun r13 =>
 some (⟨!((p0.neg) == (p1.neg)), r4, r13⟩ : S_ratio_Num)
noncomputable def ratio_Num_Add (p0 : S_ratio_Num) (p1 : S_ratio_Num) : Option S_ratio_Num :=
 bnd (ratio_nat_mul p0.n p1.d) fun r4 =>
 bnd (ratio_nat_mul p1.n p0.d) fun r13 =>
 bnd (ratio_nat_mul p0.d p1.d) fun r22 =>
 if ((p0.neg) == (p1.neg)) = true then (bnd (ratio_nat_add r4 r13) fun r33 =>
 some (⟨p0.neg, r33, r22⟩ : S_ratio_Num))
 else (bnd (ratio_nat_cmp r4 r13) fun r43 =>
 if 0 ≤ r43 then (bnd (ratio_nat_sub r4 r13) fun r48 =>
 some (⟨p0.neg, r48, r22⟩ : S_ratio_Num))
 else (bnd (ratio_nat_sub r13 r4) fun r58 =>
 some (⟨p1.neg, r58, r22⟩ : S_ratio_Num)))
noncomputable def ratio_Num_Sign (p0 : S_ratio_Num) : Option Int :=
 if ((((p0.n).length : Nat) : Int)) = 0 then (some 0)
 else (if p0.neg = true then (some (-1))
 else (some 1))
noncomputable def ratio_Int (p0 : Int) : Option S_ratio_Num :=
 if p0 < 0 then (bnd (ratio_natOf (wu64 ((wu64 (w64 (-(w64 (p0 + 1))))) + 1))) fun r4 =>
 some (⟨true, r4, [1]⟩ : S_ratio_Num))
 else (bnd (ratio_natOf (wu64 (p0))) fun r15 =>
 some (⟨false, r15, [1]⟩ : S_ratio_Num))
structure S_api_XY where
  X : Int
  Y : Int
noncomputable def exact_inside_l2 (p0 : List S_api_XY) : Int → Option (Sum Int (Sum Unit Bool)) := fun s31 =>
 if s31 < ((((p0).length : Nat) : Int)) then (bnd (idx p0 s31) fun x35 =>
 jn (fun (s14 : Bool) =>
 if s14 = true then (some (.inr (.inr (false))))
 else (some (.inl (w64 (s31 + 1)))))
 (fun j14 => if x35.X < (-268435456) then (j14 true)
 else (if 268435456 < x35.X then (j14 true)
 else (if x35.Y < (-268435456) then (j14 true)
 else (j14 (decide (268435456 < x35.Y)))))))
 else (some (.inr (.inl ())))
noncomputable def exact_inside (p0 : List S_api_XY) : Option Bool :=
 jn (fun (s2 : Unit) =>
 some true)
 (fun j2 => bnd (lfix (exact_inside_l2 p0) 0) fun t31 =>
 (match t31 with
 | (.inl z31) => j2 z31
 | (.inr (z31)) => some z31
 ))
def e_api_XY (x : S_api_XY) : List Value := [.int .i64 (x.X), .int .i64 (x.Y)]
noncomputable def exact_sign_int_ (p0 : Int) : Option Int :=
 if p0 < 0 then (some (-1))
 else (if 0 < p0 then (some 1)
 else (some 0))
noncomputable def exact_cross (p0 : S_api_XY) (p1 : S_api_XY) (p2 : S_api_XY) : Option Int :=
 some (w64 ((w64 ((w64 (p1.X - p0.X)) * (w64 (p2.Y - p0.Y)))) - (w64 ((w64 (p1.Y - p0.Y)) * (w64 (p2.X - p0.X))))))
structure S_api_Span where
  Lo : Int
  Hi : Int
structure S_api_Vertex where
  X : Int
  Y : Int
  Z : S_api_Span
noncomputable def exact_Turn (p0 : S_api_XY) (p1 : S_api_XY) (p2 : S_api_XY) : Option (Int × Int) :=
 bnd (exact_inside ([p0, p1, p2])) fun r6 =>
 if r6 = true then (bnd (exact_cross p0 p1 p2) fun r12 =>
 bnd (exact_sign_int_ r12) fun r15 =>
 some (r15, 0))
 else (some (0, 11))
noncomputable def exact_lift (p0 : S_api_XY) (p1 : S_api_XY) : Option Int :=
 some (w64 ((w64 ((w64 (p0.X - p1.X)) * (w64 (p0.X - p1.X)))) + (w64 ((w64 (p0.Y - p1.Y)) * (w64 (p0.Y - p1.Y))))))
noncomputable def exact_Circle (p0 : S_api_XY) (p1 : S_api_XY) (p2 : S_api_XY) (p3 : S_api_XY) : Option (Int × Int) :=
 bnd (exact_inside ([p0, p1, p2, p3])) fun r7 =>
 if r7 = true then (bnd (exact_cross p0 p1 p2) fun r13 =>
 bnd (exact_sign_int_ r13) fun r16 =>
 if r16 = 0 then (some (0, 12))
 else (jn (fun (s9 : Bool × (List Int) × (List Int)) =>
 bnd (exact_lift p1 p3) fun r236 =>
 bnd (ratio_Int r236) fun r239 =>
 bnd (exact_cross p3 p2 p0) fun r249 =>
 bnd (ratio_Int r249) fun r252 =>
 bnd (ratio_Num_Mul r239 r252) fun r266 =>
 bnd (ratio_Num_Add (⟨s9.1, s9.2.1, s9.2.2⟩ : S_ratio_Num) r266) fun r281 =>
 bnd (exact_lift p2 p3) fun r300 =>
 bnd (ratio_Int r300) fun r303 =>
 bnd (exact_cross p3 p0 p1) fun r313 =>
 bnd (ratio_Int r313) fun r316 =>
 bnd (ratio_Num_Mul r303 r316) fun r330 =>
 bnd (ratio_Num_Add r281 r330) fun r345 =>
 bnd (ratio_Num_Sign r345) fun r364 =>
 some (w64 (r16 * r364), 0))
 (fun j9 => bnd (exact_lift p0 p3) fun r22 =>
 bnd (ratio_Int r22) fun r25 =>
 bnd (exact_cross p3 p1 p2) fun r35 =>
 bnd (ratio_Int r35) fun r38 =>
 bnd (ratio_Num_Mul r25 r38) fun r52 =>
 j9 (r52.neg, r52.n, r52.d))))
 else (some (0, 11))
noncomputable def exact_Valid (p0 : S_api_Span) : Option Bool :=
 jn (fun (s2 : Bool) =>
 some s2)
 (fun j2 => if (-1152921504606846976) ≤ p0.Lo then (if p0.Lo ≤ p0.Hi then (j2 (decide (p0.Hi ≤ 1152921504606846976)))
 else (j2 false))
 else (j2 false))
noncomputable def mesh_at (p0 : S_api_Vertex) : Option S_api_XY :=
 some (⟨p0.X, p0.Y⟩ : S_api_XY)
noncomputable def mesh_before (p0 : S_api_XY) (p1 : S_api_XY) : Option Bool :=
 jn (fun (s2 : Bool) =>
 some s2)
 (fun j2 => if p0.X < p1.X then (j2 true)
 else (if p0.X = p1.X then (j2 (decide (p0.Y < p1.Y)))
 else (j2 false)))
noncomputable def mesh_turn (p0 : S_api_XY) (p1 : S_api_XY) (p2 : S_api_XY) : Option Int :=
 bnd (exact_Turn p0 p1 p2) fun r4 =>
 some r4.1
noncomputable def mesh_good (p0 : S_api_Vertex) : Option Bool :=
 bnd (mesh_at p0) fun r2 =>
 bnd (mesh_at p0) fun r5 =>
 bnd (mesh_at p0) fun r8 =>
 bnd (exact_Turn r2 r5 r8) fun r11 =>
 jn (fun (s3 : Bool) =>
 some s3)
 (fun j3 => if r11.2 = 0 then (bnd (exact_Valid p0.Z) fun r16 =>
 if r16 = true then (if (-268435456) ≤ p0.Z.Lo then (j3 (decide (p0.Z.Hi ≤ 268435456)))
 else (j3 false))
 else (j3 false))
 else (j3 false))
structure S_arr2_int where
  a0 : Int
  a1 : Int
noncomputable def mesh_pair (p0 : Int) (p1 : Int) : Option S_arr2_int :=
 some (⟨min p0 p1, max p0 p1⟩ : S_arr2_int)
noncomputable def mesh_order (p0 : S_arr2_int) (p1 : S_arr2_int) : Option Int :=
 if p0.a0 = p1.a0 then (some (w64 (p0.a1 - p1.a1)))
 else (some (w64 (p0.a0 - p1.a0)))
noncomputable def mesh_between (p0 : S_api_XY) (p1 : S_api_XY) (p2 : S_api_XY) : Option Bool :=
 jn (fun (s2 : Bool) =>
 some s2)
 (fun j2 => bnd (mesh_turn p0 p1 p2) fun r4 =>
 if r4 = 0 then (if ((((p2.X) == (p0.X)) && (((p2.Y) == (p0.Y)) && true))) = true then (j2 false)
 else (if ((((p2.X) == (p1.X)) && (((p2.Y) == (p1.Y)) && true))) = true then (j2 false)
 else (bnd (mesh_before p0 p2) fun r13 =>
 bnd (mesh_before p1 p2) fun r16 =>
 j2 (!((r13) == (r16))))))
 else (j2 false))
noncomputable def mesh_meet (p0 : S_api_XY) (p1 : S_api_XY) (p2 : S_api_XY) (p3 : S_api_XY) : Option Bool :=
 jn (fun (s3 : Bool) =>
 if s3 = true then (some true)
 else (jn (fun (s5 : Bool) =>
 some s5)
 (fun j5 => bnd (mesh_turn p0 p1 p2) fun r31 =>
 bnd (mesh_turn p0 p1 p3) fun r34 =>
 if (w64 (r31 * r34)) < 0 then (bnd (mesh_turn p2 p3 p0) fun r39 =>
 bnd (mesh_turn p2 p3 p1) fun r42 =>
 j5 (decide ((w64 (r39 * r42)) < 0)))
 else (j5 false))))
 (fun j3 => bnd (mesh_between p0 p1 p2) fun r5 =>
 if r5 = true then (j3 true)
 else (bnd (mesh_between p0 p1 p3) fun r11 =>
 if r11 = true then (j3 true)
 else (bnd (mesh_between p2 p3 p0) fun r17 =>
 if r17 = true then (j3 true)
 else (bnd (mesh_between p2 p3 p1) fun r23 =>
 j3 r23))))
noncomputable def mesh_crossing (p0 : List S_api_Vertex) (p1 : S_arr2_int) (p2 : S_arr2_int) : Option Bool :=
 jn (fun (s3 : Bool) =>
 if s3 = true then (some false)
 else (bnd (idx p0 p1.a0) fun x17 =>
 bnd (idx p0 p1.a1) fun x28 =>
 bnd (idx p0 p2.a0) fun x39 =>
 bnd (idx p0 p2.a1) fun x50 =>
 bnd (mesh_at x17) fun r61 =>
 bnd (mesh_at x28) fun r64 =>
 bnd (mesh_at x39) fun r67 =>
 bnd (mesh_at x50) fun r70 =>
 bnd (mesh_meet r61 r64 r67 r70) fun r73 =>
 some r73))
 (fun j3 => if p1.a0 = p2.a0 then (j3 true)
 else (if p1.a0 = p2.a1 then (j3 true)
 else (if p1.a1 = p2.a0 then (j3 true)
 else (j3 (decide (p1.a1 = p2.a1))))))
def e_api_Vertex (x : S_api_Vertex) : List Value := [.int .i64 (x.X), .int .i64 (x.Y), .int .i64 (x.Z.Lo), .int .i64 (x.Z.Hi)]
theorem ixs112 (x0 : Int) (x1 : Int) (x2 : Int) (x3 : Int) (x4 : Int) (x5 : Int) : IndexVS Tryz.prog 112 [.int .i64 x0, .int .i64 x1, .int .i64 x2, .int .i64 x3, .int .i64 x4, .int .i64 x5] [.agg #[.int .i64 x0, .int .i64 x1], .agg #[.int .i64 x2, .int .i64 x3], .agg #[.int .i64 x4, .int .i64 x5]] := by
  intro j h k w
  have h' : j < 3 := h
  match j, h, h' with
  | 0, _, _ => exact (show (Instr.index 112 (.agg ([.int .i64 x0, .int .i64 x1, .int .i64 x2, .int .i64 x3, .int .i64 x4, .int .i64 x5] : List Value).toArray) (.int k ((0 : Nat) : Int))).run Tryz.prog w = .ok (.agg #[.int .i64 x0, .int .i64 x1]) w by kernel_rfl)
  | 1, _, _ => exact (show (Instr.index 112 (.agg ([.int .i64 x0, .int .i64 x1, .int .i64 x2, .int .i64 x3, .int .i64 x4, .int .i64 x5] : List Value).toArray) (.int k ((1 : Nat) : Int))).run Tryz.prog w = .ok (.agg #[.int .i64 x2, .int .i64 x3]) w by kernel_rfl)
  | 2, _, _ => exact (show (Instr.index 112 (.agg ([.int .i64 x0, .int .i64 x1, .int .i64 x2, .int .i64 x3, .int .i64 x4, .int .i64 x5] : List Value).toArray) (.int k ((2 : Nat) : Int))).run Tryz.prog w = .ok (.agg #[.int .i64 x4, .int .i64 x5]) w by kernel_rfl)
def v_api_XY (x : S_api_XY) : Value := .agg #[.int .i64 (x.X), .int .i64 (x.Y)]
theorem v_api_XY_inj (x y : S_api_XY) (h : v_api_XY x = v_api_XY y) : x = y := by
  rcases x with ⟨_, _⟩; rcases y with ⟨_, _⟩; simp [v_api_XY] at h; simp [h]
noncomputable def mesh_legal_l6 (p1 : S_api_XY) (p2 : S_api_XY) (p3 : S_api_XY) : (Int × Int × Int) → Option (Sum (Int × Int × Int) (Int × Int)) := fun s28 =>
 if s28.2.2 < 3 then (jn (fun (s16 : Int × Int) =>
 some (.inl (s16.1, s16.2, w64 (s28.2.2 + 1))))
 (fun j16 => bnd (idx [p1, p2, p3] s28.2.2) fun x32 =>
 bnd (mesh_before x32 (⟨s28.1, s28.2.1⟩ : S_api_XY)) fun r36 =>
 if r36 = true then (j16 (x32.X, x32.Y))
 else (j16 (s28.1, s28.2.1))))
 else (some (.inr (s28.1, s28.2.1)))
noncomputable def mesh_legal (p0 : S_api_XY) (p1 : S_api_XY) (p2 : S_api_XY) (p3 : S_api_XY) : Option Bool :=
 bnd (exact_Circle p0 p1 p2 p3) fun r5 =>
 if r5.1 = 0 then (jn (fun (s7 : Int × Int) =>
 jn (fun (s19 : Bool) =>
 some s19)
 (fun j19 => if ((((s7.1) == (p2.X)) && (((s7.2) == (p2.Y)) && true))) = true then (j19 true)
 else (j19 (((s7.1) == (p3.X)) && (((s7.2) == (p3.Y)) && true)))))
 (fun j7 => bnd (lfix (mesh_legal_l6 p1 p2 p3) (p0.X, p0.Y, 0)) fun t28 =>
 j7 t28))
 else (some (decide (r5.1 < 0)))
set_option maxRecDepth 100000 in
theorem ratio_nat_norm_ok (p0 : List Int) {K : List Ent} {A0_0 : Option Addr} {c0_0 : Nat} (ha0 : Has K A0_0 (p0).length c0_0 1 e_u32 (p0)) {r : List Int} (hx : ratio_nat_norm p0 = some r) (w : World) (hK : ∀ e ∈ K, Ent.ok w e) : CtL Tryz.prog 145 [.slice (A0_0) ((p0).length) (c0_0)] w fun v Ln => ∃ (A0 : Option Addr) (c0 : Nat), v = .slice (A0) ((r).length) (c0) ∧ Ln = [] ∧ Has (K ++ []) A0 (r).length c0 1 e_u32 (r) ∧ True := by
  have ha0' := Has.up0 ha0
  refine CtL.mk 21 Tryz.func145 rfl Tryz.ntmps145 (by kernel_rfl) rfl ?_
  show T 21 _ [(0, .slice (A0_0) ((p0).length) (c0_0))] _
  unfold ratio_nat_norm at hx
  refine T_seq ?_
  refine T_reg ?_
  refine T_val (Ev_assign rfl) rfl ?_
  refine T_nil ?_
  refine T_next ?_
  obtain ⟨j2, hj2, hx⟩ := jn_some hx
  refine T_cutP (τ := List Int) (γ := (Option Addr) × Nat) (J := j2) (out := r) (fun s2 y2 => [(0, .slice (y2.1) ((s2).length) (y2.2))]) (fun s2 y2 => [] ++ [.old w]) (fun s2 y2 => Has (K ++ []) (y2.1) ((s2).length) (y2.2) 1 e_u32 (s2) ∧ True) ?_ ?_
  · intro s2 y2 hx50 hG51
    obtain ⟨hs52, -⟩ := hG51
    subst hj2
    refine T_seq ?_
    refine T_reg ?_
    refine T_val (Ev_move rfl) rfl ?_
    refine T_val (Ev_assign rfl) rfl ?_
    refine T_nil ?_
    refine T_next ?_
    refine T_retc ?_
    obtain rfl := Option.some.inj hx50
    exact T_retP (rs := [.tmp 2]) Tryz.results145 (.tmp rfl (.nil)) (Ln := []) ⟨y2.1, y2.2, rfl, rfl, Has.len' hs52, trivial⟩ (loNil) (by exact .refl)
  · skip
    refine T_block ?_
    obtain ⟨t25, hl25, ho25⟩ := bnd_some hx
    refine T_loopP (σ := List Int) (γ := (Option Addr) × Nat) hl25 (fun s25 y25 => [(0, .slice (y25.1) ((s25).length) (y25.2))]) (fun s25 y25 => [] ++ [.old w]) (fun s25 y25 => Has (K ++ []) (y25.1) ((s25).length) (y25.2) 1 e_u32 (s25) ∧ True) (A0_0, c0_0) ((by exact ⟨Has.len' ha0', trivial⟩)) (by exact .cons rfl (.nil)) (by exact .refl) ?_
    intro s25 y25 hG25 x25 hx25 ht25
    unfold ratio_nat_norm_l1 at hx25
    obtain ⟨hs26, -⟩ := hG25
    refine T_seq ?_
    obtain ⟨j6, hj6, hx25⟩ := jn_some hx25
    refine T_cutP (τ := Bool) (γ := Unit) (J := j6) (out := x25) (fun s6 y6 => [(0, .slice (y25.1) ((s25).length) (y25.2)), (14, .bool (s6))]) (fun s6 y6 => [] ++ [.old w]) (fun s6 y6 => True) ?_ ?_
    · intro s6 y6 hx41 hG42
      subst hj6
      refine T_caseB (s := 14) rfl (fun h43 => ?_) (fun h43 => ?_)
      · have hx44 := ite_t h43 hx41
        refine T_condT rfl ?_
        refine T_skip ?_
        refine T_next ?_
        refine T_block ?_
        refine T_reg ?_
        refine T_val (Ev_move rfl) rfl ?_
        refine T_val (Ev_move rfl) rfl ?_
        refine T_val (Ev_len rfl 141 Tryz.underlying123) rfl ?_
        refine T_val (Ev_sub_w64 rfl rfl) rfl ?_
        obtain ⟨h47, hx48⟩ := gd_some hx44
        have hs46 := Has.subH hs26 h47.1 h47.2
        refine T_val (Ev_subH rfl rfl slc123 h47.1 (by have := Has.nc hs26; omega)) rfl ?_
        refine T_val (Ev_assign rfl) rfl ?_
        refine T_nil ?_
        refine T_inN ?_
        refine T_slot (s := 0) (v' := .slice (y25.1) ((subl s25 0 (w64 (((((s25).length : Nat) : Int)) - 1))).length) (y25.2)) rfl (by have hn49 : (Int.toNat (w64 (((((s25).length : Nat) : Int)) - 1))) = (subl s25 0 (w64 (((((s25).length : Nat) : Int)) - 1))).length := (Has.len hs46).symm; first | (rw [← hn49]; done) | rfl) ?_
        exact T_roundP (subl s25 0 (w64 (((((s25).length : Nat) : Int)) - 1))) (y25.1, y25.2) hx48 ((by exact ⟨Has.len' hs46, trivial⟩)) (by exact .cons rfl (.nil)) (by exact .refl)
      · have hx45 := ite_bf h43 hx41
        refine T_condF rfl ?_
        refine T_exit ?_
        refine T_outX ?_
        obtain rfl := exit_eq ht25 hx45
        refine T_outX ?_
        refine T_here ?_
        exact T_metP s25 (y25.1, y25.2) ho25 ((by exact ⟨Has.len' hs26, trivial⟩)) (by exact .cons rfl (.nil)) (by exact .refl)
    · skip
      refine T_reg ?_
      refine T_val (Ev_move rfl) rfl ?_
      refine T_val (Ev_len rfl 141 Tryz.underlying123) rfl ?_
      refine T_val (Ev_gtr rfl rfl) rfl ?_
      refine T_val (Ev_move rfl) rfl ?_
      refine T_caseP (s := 6) rfl (fun h27 => ?_) (fun h27 => ?_)
      · have hx28 := ite_t h27 hx25
        refine T_valG rfl rfl rfl (Ev_move rfl) rfl ?_
        refine T_valG rfl rfl rfl (Ev_move rfl) rfl ?_
        refine T_valG rfl rfl rfl (Ev_len rfl 141 Tryz.underlying123) rfl ?_
        refine T_valG rfl rfl rfl (Ev_sub_w64 rfl rfl) rfl ?_
        obtain ⟨x29, h30, hx31⟩ := bnd_some hx28
        have hw39 := Has.low (E := []) hs26 hK
        obtain ⟨b32, o33, j34, hA35, hj36, hl37, hp38⟩ := Has.at_idx hw39 h30
        refine T_valG rfl rfl rfl (Ev_index rfl rfl hA35 (j := j34) hj36 hl37 slc123) rfl ?_
        refine T_valG rfl rfl rfl (Ev_loadP0 rfl hp38 (SubE.cons2 (i := 0) rfl (SubE.nil)) rfl one141) rfl ?_
        refine T_valG rfl rfl rfl (Ev_eql rfl rfl) rfl ?_
        refine T_val (Ev_pickT rfl rfl) rfl ?_
        refine T_nil ?_
        exact T_metP (decide (x29 = 0)) () hx31 trivial (by exact .cons rfl (.cons rfl (.nil))) (by exact .refl)
      · have hx40 := ite_f h27 hx25
        refine T_skipG rfl rfl rfl rfl rfl ?_
        refine T_skipG rfl rfl rfl rfl rfl ?_
        refine T_skipG rfl rfl rfl rfl rfl ?_
        refine T_skipG rfl rfl rfl rfl rfl ?_
        refine T_skipG rfl rfl rfl rfl rfl ?_
        refine T_skipG rfl rfl rfl rfl rfl ?_
        refine T_skipG rfl rfl rfl rfl rfl ?_
        refine T_val (Ev_pickF rfl rfl) rfl ?_
        refine T_nil ?_
        exact T_metP false () hx40 trivial (by exact .cons rfl (.cons rfl (.nil))) (by exact .refl)
set_option maxRecDepth 100000 in
theorem ratio_natOf_ok (p0 : Int)  {r : List Int} (hx : ratio_natOf p0 = some r) (w : World) : CtL Tryz.prog 129 [.int .u64 (p0)] w fun v Ln => ∃ (A0 : Option Addr) (c0 : Nat) (e0 : Ent), v = .slice (A0) ((r).length) (c0) ∧ Ln = [e0] ∧ Has ([e0] : List Ent) A0 (r).length c0 1 e_u32 (r) ∧ True := by
  refine CtL.mk 10 Tryz.func129 rfl Tryz.ntmps129 (by kernel_rfl) rfl ?_
  show T 10 _ [(0, .int .u64 (p0))] _
  unfold ratio_natOf at hx
  refine T_seq ?_
  refine T_reg ?_
  refine T_val (Ev_assign rfl) rfl ?_
  refine T_nil ?_
  refine T_next ?_
  refine T_seq ?_
  refine T_reg ?_
  refine T_val (Ev_move rfl) rfl ?_
  refine T_val (Ev_conv_wu32 rfl (by kernel_rfl) Tryz.underlying141) rfl ?_
  refine T_val (Ev_move rfl) rfl ?_
  refine T_val (Ev_shrW rfl rfl (by decide)) rfl ?_
  refine T_val (Ev_conv_wu32 rfl (by kernel_rfl) Tryz.underlying141) rfl ?_
  refine T_x (Wx_buildSlice rfl (bls123_2_0u321u32 _ _) rfl (fun g1 => ?_))
  have hs2 : Has [.m g1 141 [.int .u32 (wu32 (p0)), .int .u32 (wu32 (shr_ .u64 p0 32))]] (some ⟨g1, 0, none⟩) 2 2 1 e_u32 [wu32 (p0), wu32 (shr_ .u64 p0 32)] := Has.ofM (fun _ _ => rfl) rfl (by decide) rfl
  obtain ⟨r3, h4, hx5⟩ := bnd_some hx
  refine T_x (Wx_callL rfl (fun w1 hw1 => ratio_nat_norm_ok ([wu32 (p0), wu32 (shr_ .u64 p0 32)]) (Has.len' hs2) h4 w1 (okAll (K := ([.m g1 141 [.int .u32 (wu32 (p0)), .int .u32 (wu32 (shr_ .u64 p0 32))]] : List Ent)) (by exact (SubE.cons2 (i := 0) rfl (SubE.nil))) hw1)) rfl ?_)
  rintro _ _ hlo ⟨A6, c7, rfl, rfl, hs8, -⟩
  refine T_app0 ?_
  refine T_val (Ev_assign rfl) rfl ?_
  refine T_nil ?_
  refine T_next ?_
  refine T_retc ?_
  obtain rfl := Option.some.inj hx5
  exact T_retP (rs := [.tmp 2]) Tryz.results129 (.tmp rfl (.nil)) (Ln := [.m g1 141 [.int .u32 (wu32 (p0)), .int .u32 (wu32 (shr_ .u64 p0 32))]]) ⟨A6, c7, (.m g1 141 [.int .u32 (wu32 (p0)), .int .u32 (wu32 (shr_ .u64 p0 32))]), rfl, rfl, Has.len' hs8, trivial⟩ (loCons rfl (loNil)) (by exact .pick 0 rfl (.refl))
set_option maxRecDepth 100000 in
theorem math_bits_Add32_ok (p0 : Int) (p1 : Int) (p2 : Int)  {r : Int × Int} (hx : math_bits_Add32 p0 p1 p2 = some r) (w : World) : CtL Tryz.prog 146 [.int .u32 (p0), .int .u32 (p1), .int .u32 (p2)] w fun v Ln => v = .tuple #[.int .u32 (r.1), .int .u32 (r.2)] ∧ Ln = [] ∧ True := by
  refine CtL.mk 22 Tryz.func146 rfl Tryz.ntmps146 (by kernel_rfl) rfl ?_
  show T 22 _ [(0, .int .u32 (p0)), (1, .int .u32 (p1)), (2, .int .u32 (p2))] _
  unfold math_bits_Add32 at hx
  refine T_seq ?_
  refine T_reg ?_
  refine T_val (Ev_assign rfl) rfl ?_
  refine T_val (Ev_assign rfl) rfl ?_
  refine T_nil ?_
  refine T_next ?_
  refine T_seq ?_
  refine T_reg ?_
  refine T_val (Ev_move rfl) rfl ?_
  refine T_val (Ev_conv_wu64 rfl (by kernel_rfl) Tryz.underlying143) rfl ?_
  refine T_val (Ev_move rfl) rfl ?_
  refine T_val (Ev_conv_wu64 rfl (by kernel_rfl) Tryz.underlying143) rfl ?_
  refine T_val (Ev_add_wu64 rfl rfl) rfl ?_
  refine T_val (Ev_move rfl) rfl ?_
  refine T_val (Ev_conv_wu64 rfl (by kernel_rfl) Tryz.underlying143) rfl ?_
  refine T_val (Ev_add_wu64 rfl rfl) rfl ?_
  refine T_val (Ev_assign rfl) rfl ?_
  refine T_nil ?_
  refine T_next ?_
  refine T_seq ?_
  refine T_reg ?_
  refine T_val (Ev_move rfl) rfl ?_
  refine T_val (Ev_conv_wu32 rfl (by kernel_rfl) Tryz.underlying141) rfl ?_
  refine T_val (Ev_assign rfl) rfl ?_
  refine T_nil ?_
  refine T_next ?_
  refine T_seq ?_
  refine T_reg ?_
  refine T_val (Ev_move rfl) rfl ?_
  refine T_val (Ev_shrW rfl rfl (by decide)) rfl ?_
  refine T_val (Ev_conv_wu32 rfl (by kernel_rfl) Tryz.underlying141) rfl ?_
  refine T_val (Ev_assign rfl) rfl ?_
  refine T_nil ?_
  refine T_next ?_
  refine T_retc ?_
  obtain rfl := Option.some.inj hx
  exact T_retP (rs := [.tmp 6, .tmp 7]) Tryz.results146 (.tmp rfl (.tmp rfl (.nil))) (Ln := []) ⟨rfl, rfl, trivial⟩ (loNil) (by exact .refl)
set_option maxRecDepth 100000 in
theorem math_bits_Sub32_ok (p0 : Int) (p1 : Int) (p2 : Int)  {r : Int × Int} (hx : math_bits_Sub32 p0 p1 p2 = some r) (w : World) : CtL Tryz.prog 147 [.int .u32 (p0), .int .u32 (p1), .int .u32 (p2)] w fun v Ln => v = .tuple #[.int .u32 (r.1), .int .u32 (r.2)] ∧ Ln = [] ∧ True := by
  refine CtL.mk 25 Tryz.func147 rfl Tryz.ntmps147 (by kernel_rfl) rfl ?_
  show T 25 _ [(0, .int .u32 (p0)), (1, .int .u32 (p1)), (2, .int .u32 (p2))] _
  unfold math_bits_Sub32 at hx
  refine T_seq ?_
  refine T_reg ?_
  refine T_val (Ev_assign rfl) rfl ?_
  refine T_val (Ev_assign rfl) rfl ?_
  refine T_nil ?_
  refine T_next ?_
  refine T_seq ?_
  refine T_reg ?_
  refine T_val (Ev_move rfl) rfl ?_
  refine T_val (Ev_move rfl) rfl ?_
  refine T_val (Ev_sub_wu32 rfl rfl) rfl ?_
  refine T_val (Ev_move rfl) rfl ?_
  refine T_val (Ev_sub_wu32 rfl rfl) rfl ?_
  refine T_val (Ev_assign rfl) rfl ?_
  refine T_nil ?_
  refine T_next ?_
  refine T_seq ?_
  refine T_reg ?_
  refine T_val (Ev_move rfl) rfl ?_
  refine T_val (Ev_xorW rfl) rfl ?_
  refine T_val (Ev_move rfl) rfl ?_
  refine T_val (Ev_bitW_and rfl rfl) rfl ?_
  refine T_val (Ev_move rfl) rfl ?_
  refine T_val (Ev_move rfl) rfl ?_
  refine T_val (Ev_bitW_xor rfl rfl) rfl ?_
  refine T_val (Ev_xorW rfl) rfl ?_
  refine T_val (Ev_move rfl) rfl ?_
  refine T_val (Ev_bitW_and rfl rfl) rfl ?_
  refine T_val (Ev_bitW_or rfl rfl) rfl ?_
  refine T_val (Ev_shrW rfl rfl (by decide)) rfl ?_
  refine T_val (Ev_assign rfl) rfl ?_
  refine T_nil ?_
  refine T_next ?_
  refine T_retc ?_
  obtain rfl := Option.some.inj hx
  exact T_retP (rs := [.tmp 6, .tmp 7]) Tryz.results147 (.tmp rfl (.tmp rfl (.nil))) (Ln := []) ⟨rfl, rfl, trivial⟩ (loNil) (by exact .refl)
set_option maxRecDepth 100000 in
theorem ratio_nat_mul_ok (p0 : List Int) (p1 : List Int) {K : List Ent} {A0_0 : Option Addr} {c0_0 : Nat} {A0_1 : Option Addr} {c0_1 : Nat} (ha0 : Has K A0_0 (p0).length c0_0 1 e_u32 (p0)) (ha1 : Has K A0_1 (p1).length c0_1 1 e_u32 (p1)) {r : List Int} (hx : ratio_nat_mul p0 p1 = some r) (w : World) (hK : ∀ e ∈ K, Ent.ok w e) : CtL Tryz.prog 130 [.slice (A0_0) ((p0).length) (c0_0), .slice (A0_1) ((p1).length) (c0_1)] w fun v Ln => ∃ (A0 : Option Addr) (c0 : Nat) (e0 : Ent), v = .slice (A0) ((r).length) (c0) ∧ Ln = [e0] ∧ Has (K ++ [e0]) A0 (r).length c0 1 e_u32 (r) ∧ True := by
  have ha0' := Has.up0 ha0
  have ha1' := Has.up0 ha1
  refine CtL.mk 68 Tryz.func130 rfl Tryz.ntmps130 (by kernel_rfl) rfl ?_
  show T 68 _ [(0, .slice (A0_0) ((p0).length) (c0_0)), (1, .slice (A0_1) ((p1).length) (c0_1))] _
  unfold ratio_nat_mul at hx
  refine T_seq ?_
  refine T_reg ?_
  refine T_val (Ev_assign rfl) rfl ?_
  refine T_nil ?_
  refine T_next ?_
  refine T_seq ?_
  refine T_reg ?_
  refine T_val (Ev_move rfl) rfl ?_
  refine T_val (Ev_len rfl 141 Tryz.underlying123) rfl ?_
  refine T_val (Ev_move rfl) rfl ?_
  refine T_val (Ev_len rfl 141 Tryz.underlying123) rfl ?_
  refine T_val (Ev_add_w64 rfl rfl) rfl ?_
  obtain ⟨h2, hx3⟩ := gd_some hx
  refine T_x (Wx_makeP e_u32 (0) (z := .int .u32 (0)) rfl rfl rfl h2.1 Tryz.underlying123 (show Tryz.prog.info? 141 = some Tryz.t141 from by kernel_rfl) (by kernel_rfl) rfl rfl (by kernel_rfl) (show 4 * _ ≤ _ from h2.2) (by decide) rfl (fun A1 => ?_))
  refine T_val (Ev_assign rfl) rfl ?_
  refine T_nil ?_
  refine T_next ?_
  obtain ⟨j3, hj3, hx3⟩ := jn_some hx3
  refine T_cutP (τ := List Int) (γ := (Option Addr) × Nat) (J := j3) (out := r) (fun s3 y3 => [(5, .slice (y3.1) ((s3).length) (y3.2))]) (fun s3 y3 => [.r (y3.1) ((s3).length) (y3.2) 141 1 ((s3).flatMap e_u32)] ++ [.old w]) (fun s3 y3 => True) ?_ ?_
  · intro s3 y3 hx214 hG215
    subst hj3
    refine T_seq ?_
    refine T_reg ?_
    refine T_val (Ev_move rfl) rfl ?_
    refine T_rowP (k := 0) rfl (by decide) (fun _ => rfl) (fun hn216 hs217 => ?_)
    obtain ⟨r218, h219, hx220⟩ := bnd_some hx214
    refine T_x (Wx_callL rfl (fun w1 hw1 => ratio_nat_norm_ok s3 (Has.len' hs217) h219 w1 (okAll (K := ([.r (y3.1) ((s3).length) (y3.2) 141 1 ((s3).flatMap e_u32)] : List Ent)) (by exact (SubE.cons2 (i := 0) rfl (SubE.nil))) hw1)) rfl ?_)
    rintro _ _ hlo ⟨A221, c222, rfl, rfl, hs223, -⟩
    refine T_app0 ?_
    refine T_val (Ev_assign rfl) rfl ?_
    refine T_nil ?_
    refine T_next ?_
    refine T_retc ?_
    obtain rfl := Option.some.inj hx220
    exact T_retP (rs := [.tmp 4]) Tryz.results130 (.tmp rfl (.nil)) (Ln := [.r (y3.1) ((s3).length) (y3.2) 141 1 ((s3).flatMap e_u32)]) ⟨A221, c222, (.r (y3.1) ((s3).length) (y3.2) 141 1 ((s3).flatMap e_u32)), rfl, rfl, Has.len' (Has.up (L := (K ++ [.r (y3.1) ((s3).length) (y3.2) 141 1 ((s3).flatMap e_u32)])) hs223 (SubE.appR2 (SubE.cons2 (i := 0) rfl (SubE.nil)))), trivial⟩ (loCons rfl (loNil)) (by exact .pick 0 rfl (.refl))
  · skip
    refine T_seq ?_
    refine T_reg ?_
    refine T_val (Ev_move rfl) rfl ?_
    refine T_val (Ev_len rfl 141 Tryz.underlying123) rfl ?_
    refine T_val (Ev_move rfl) rfl ?_
    refine T_nil ?_
    refine T_next ?_
    refine T_block ?_
    obtain ⟨t108, hl108, ho108⟩ := bnd_some hx3
    refine T_loopP (σ := (List Int) × Int) (γ := (Option Addr) × Nat) hl108 (fun s108 y108 => [(1, .slice (A0_1) ((p1).length) (c0_1)), (5, .slice (y108.1) ((s108.1).length) (y108.2)), (18, .slice (A0_0) ((p0).length) (c0_0)), (19, .int .i64 ((((p0).length : Nat) : Int))), (20, .int .i64 (s108.2))]) (fun s108 y108 => [.r (y108.1) ((s108.1).length) (y108.2) 141 1 ((s108.1).flatMap e_u32)] ++ [.old w]) (fun s108 y108 => True) (A1, (List.replicate (Int.toNat (w64 (((((p0).length : Nat) : Int)) + ((((p1).length : Nat) : Int))))) (0 : Int)).length) trivial (by exact .cons rfl (.cons rfl (.cons rfl (.cons rfl (.cons rfl (.nil)))))) (by exact .pick 0 rfl (.refl)) ?_
    intro s108 y108 hG108 x108 hx108 ht108
    unfold ratio_nat_mul_l3 at hx108
    refine T_seq ?_
    refine T_reg ?_
    refine T_val (Ev_lss rfl rfl) rfl ?_
    refine T_nil ?_
    refine T_next ?_
    refine T_seq ?_
    refine T_caseP (s := 21) rfl (fun h109 => ?_) (fun h109 => ?_)
    · have hx110 := ite_t h109 hx108
      refine T_condT rfl ?_
      refine T_skip ?_
      refine T_next ?_
      refine T_seq ?_
      refine T_block ?_
      refine T_seq ?_
      refine T_reg ?_
      refine T_val (Ev_move rfl) rfl ?_
      obtain ⟨x112, h113, hx114⟩ := bnd_some hx110
      have hw122 := Has.low (E := []) ha0' hK
      obtain ⟨b115, o116, j117, hA118, hj119, hl120, hp121⟩ := Has.at_idx hw122 h113
      refine T_val (Ev_index rfl rfl hA118 (j := j117) hj119 hl120 slc123) rfl ?_
      refine T_val (Ev_loadP0 rfl hp121 (SubE.cons2 (i := 1) rfl (SubE.nil)) rfl one141) rfl ?_
      refine T_val (Ev_assign rfl) rfl ?_
      refine T_val (Ev_assign rfl) rfl ?_
      refine T_nil ?_
      refine T_next ?_
      refine T_seq ?_
      refine T_reg ?_
      refine T_val (Ev_assign rfl) rfl ?_
      refine T_nil ?_
      refine T_next ?_
      obtain ⟨j29, hj29, hx114⟩ := jn_some hx114
      refine T_cutP (τ := (List Int) × Int) (γ := (Option Addr) × Nat) (J := j29) (out := x108) (fun s29 y29 => [(1, .slice (A0_1) ((p1).length) (c0_1)), (5, .slice (y29.1) ((s29.1).length) (y29.2)), (6, .int .i64 (s108.2)), (8, .int .u64 (s29.2)), (18, .slice (A0_0) ((p0).length) (c0_0)), (19, .int .i64 ((((p0).length : Nat) : Int))), (20, .int .i64 (s108.2))]) (fun s29 y29 => [.r (y29.1) ((s29.1).length) (y29.2) 141 1 ((s29.1).flatMap e_u32)] ++ [.old w]) (fun s29 y29 => True) ?_ ?_
      · intro s29 y29 hx199 hG200
        subst hj29
        refine T_reg ?_
        refine T_val (Ev_move rfl) rfl ?_
        refine T_val (Ev_move rfl) rfl ?_
        refine T_val (Ev_move rfl) rfl ?_
        refine T_val (Ev_len rfl 141 Tryz.underlying123) rfl ?_
        refine T_val (Ev_add_w64 rfl rfl) rfl ?_
        refine T_val (Ev_move rfl) rfl ?_
        refine T_val (Ev_conv_wu32 rfl (by kernel_rfl) Tryz.underlying141) rfl ?_
        obtain ⟨x201, h202, hx203⟩ := bnd_some hx199
        refine T_idxR (k := 0) rfl (by decide) (fun _ => rfl) h202 (fun b204 j206 hA207 hj208 hl209 hm211 hp210 => ?_)
        refine T_val (Ev_index rfl rfl hA207 (j := j206) hj208 hl209 slc123) rfl ?_
        refine T_h (Wh_storeP e_u32 (s29.1) (w64 (s108.2 + ((((p1).length : Nat) : Int)))) (wu32 (s29.2)) rfl rfl rfl (.here) hA207 rfl hj208 hl209 (fun _ => rfl) (by decide) rfl one141.2 ?_)
        refine T_nil ?_
        refine T_inN ?_
        refine T_next ?_
        refine T_reg ?_
        refine T_val (Ev_add_w64 rfl rfl) rfl ?_
        refine T_val (Ev_move rfl) rfl ?_
        refine T_nil ?_
        have hn212 : (s29.1).length = (setI s29.1 (w64 (s108.2 + ((((p1).length : Nat) : Int)))) (wu32 (s29.2))).length := by simp [setI_len, cpy_len, List.length_append] <;> omega
        refine T_ent (.here) (e' := .r (y29.1) ((setI s29.1 (w64 (s108.2 + ((((p1).length : Nat) : Int)))) (wu32 (s29.2))).length) (y29.2) 141 1 ((setI s29.1 (w64 (s108.2 + ((((p1).length : Nat) : Int)))) (wu32 (s29.2))).flatMap e_u32)) (by first | (rw [← hn212]; done) | rfl) ?_
        refine T_slot (s := 5) (v' := .slice (y29.1) ((setI s29.1 (w64 (s108.2 + ((((p1).length : Nat) : Int)))) (wu32 (s29.2))).length) (y29.2)) rfl (by have hn213 : ((s29.1).length) = (setI s29.1 (w64 (s108.2 + ((((p1).length : Nat) : Int)))) (wu32 (s29.2))).length := (by simp [setI_len, cpy_len, List.length_append] <;> omega); first | (rw [← hn213]; done) | rfl) ?_
        exact T_roundP (setI s29.1 (w64 (s108.2 + ((((p1).length : Nat) : Int)))) (wu32 (s29.2)), w64 (s108.2 + 1)) (y29.1, y29.2) hx203 trivial (by exact .cons rfl (.cons rfl (.cons rfl (.cons rfl (.cons rfl (.nil)))))) (by exact .pick 0 rfl (.refl))
      · skip
        refine T_seq ?_
        refine T_reg ?_
        refine T_val (Ev_move rfl) rfl ?_
        refine T_val (Ev_len rfl 141 Tryz.underlying123) rfl ?_
        refine T_val (Ev_move rfl) rfl ?_
        refine T_nil ?_
        refine T_next ?_
        refine T_block ?_
        obtain ⟨t160, hl160, ho160⟩ := bnd_some hx114
        refine T_loopP (σ := (List Int) × Int × Int) (γ := (Option Addr) × Nat) hl160 (fun s160 y160 => [(1, .slice (A0_1) ((p1).length) (c0_1)), (5, .slice (y160.1) ((s160.1).length) (y160.2)), (6, .int .i64 (s108.2)), (7, .int .u32 (x112)), (8, .int .u64 (s160.2.1)), (18, .slice (A0_0) ((p0).length) (c0_0)), (19, .int .i64 ((((p0).length : Nat) : Int))), (20, .int .i64 (s108.2)), (25, .slice (A0_1) ((p1).length) (c0_1)), (26, .int .i64 ((((p1).length : Nat) : Int))), (27, .int .i64 (s160.2.2))]) (fun s160 y160 => [.r (y160.1) ((s160.1).length) (y160.2) 141 1 ((s160.1).flatMap e_u32)] ++ [.old w]) (fun s160 y160 => True) (y108.1, y108.2) trivial (by exact .cons rfl (.cons rfl (.cons rfl (.cons rfl (.cons rfl (.cons rfl (.cons rfl (.cons rfl (.cons rfl (.cons rfl (.cons rfl (.nil)))))))))))) (by exact .pick 0 rfl (.refl)) ?_
        intro s160 y160 hG160 x160 hx160 ht160
        unfold ratio_nat_mul_l7 at hx160
        refine T_seq ?_
        refine T_reg ?_
        refine T_val (Ev_lss rfl rfl) rfl ?_
        refine T_nil ?_
        refine T_next ?_
        refine T_seq ?_
        refine T_caseP (s := 28) rfl (fun h161 => ?_) (fun h161 => ?_)
        · have hx162 := ite_t h161 hx160
          refine T_condT rfl ?_
          refine T_skip ?_
          refine T_next ?_
          refine T_seq ?_
          refine T_block ?_
          refine T_seq ?_
          refine T_reg ?_
          refine T_val (Ev_move rfl) rfl ?_
          obtain ⟨x164, h165, hx166⟩ := bnd_some hx162
          have hw174 := Has.low (E := []) ha1' hK
          obtain ⟨b167, o168, j169, hA170, hj171, hl172, hp173⟩ := Has.at_idx hw174 h165
          refine T_val (Ev_index rfl rfl hA170 (j := j169) hj171 hl172 slc123) rfl ?_
          refine T_val (Ev_loadP0 rfl hp173 (SubE.cons2 (i := 1) rfl (SubE.nil)) rfl one141) rfl ?_
          refine T_val (Ev_assign rfl) rfl ?_
          refine T_val (Ev_assign rfl) rfl ?_
          refine T_nil ?_
          refine T_next ?_
          refine T_seq ?_
          refine T_reg ?_
          refine T_val (Ev_move rfl) rfl ?_
          refine T_val (Ev_conv_wu64 rfl (by kernel_rfl) Tryz.underlying143) rfl ?_
          refine T_val (Ev_move rfl) rfl ?_
          refine T_val (Ev_conv_wu64 rfl (by kernel_rfl) Tryz.underlying143) rfl ?_
          refine T_val (Ev_mul_wu64 rfl rfl) rfl ?_
          refine T_val (Ev_move rfl) rfl ?_
          refine T_val (Ev_move rfl) rfl ?_
          refine T_val (Ev_move rfl) rfl ?_
          refine T_val (Ev_add_w64 rfl rfl) rfl ?_
          obtain ⟨x175, h176, hx177⟩ := bnd_some hx166
          refine T_idxR (k := 0) rfl (by decide) (fun _ => rfl) h176 (fun b178 j180 hA181 hj182 hl183 hm185 hp184 => ?_)
          refine T_val (Ev_index rfl rfl hA181 (j := j180) hj182 hl183 slc123) rfl ?_
          refine T_val (Ev_loadP0 rfl hp184 (SubE.cons2 (i := 0) rfl (SubE.nil)) rfl one141) rfl ?_
          refine T_val (Ev_conv_wu64 rfl (by kernel_rfl) Tryz.underlying143) rfl ?_
          refine T_val (Ev_add_wu64 rfl rfl) rfl ?_
          refine T_val (Ev_move rfl) rfl ?_
          refine T_val (Ev_add_wu64 rfl rfl) rfl ?_
          refine T_val (Ev_assign rfl) rfl ?_
          refine T_nil ?_
          refine T_next ?_
          refine T_seq ?_
          refine T_reg ?_
          refine T_val (Ev_move rfl) rfl ?_
          refine T_val (Ev_move rfl) rfl ?_
          refine T_val (Ev_move rfl) rfl ?_
          refine T_val (Ev_add_w64 rfl rfl) rfl ?_
          refine T_val (Ev_move rfl) rfl ?_
          refine T_val (Ev_conv_wu32 rfl (by kernel_rfl) Tryz.underlying141) rfl ?_
          obtain ⟨x186, h187, hx188⟩ := bnd_some hx177
          refine T_idxR (k := 0) rfl (by decide) (fun _ => rfl) h187 (fun b189 j191 hA192 hj193 hl194 hm196 hp195 => ?_)
          refine T_val (Ev_index rfl rfl hA192 (j := j191) hj193 hl194 slc123) rfl ?_
          refine T_h (Wh_storeP e_u32 (s160.1) (w64 (s108.2 + s160.2.2)) (wu32 (wu64 ((wu64 ((wu64 ((wu64 (x112)) * (wu64 (x164)))) + (wu64 (x175)))) + s160.2.1))) rfl rfl rfl (.here) hA192 rfl hj193 hl194 (fun _ => rfl) (by decide) rfl one141.2 ?_)
          refine T_nil ?_
          refine T_next ?_
          refine T_reg ?_
          refine T_val (Ev_move rfl) rfl ?_
          refine T_val (Ev_shrW rfl rfl (by decide)) rfl ?_
          refine T_val (Ev_assign rfl) rfl ?_
          refine T_nil ?_
          refine T_inN ?_
          refine T_next ?_
          refine T_reg ?_
          refine T_val (Ev_add_w64 rfl rfl) rfl ?_
          refine T_val (Ev_move rfl) rfl ?_
          refine T_nil ?_
          have hn197 : (s160.1).length = (setI s160.1 (w64 (s108.2 + s160.2.2)) (wu32 (wu64 ((wu64 ((wu64 ((wu64 (x112)) * (wu64 (x164)))) + (wu64 (x175)))) + s160.2.1)))).length := by simp [setI_len, cpy_len, List.length_append] <;> omega
          refine T_ent (.here) (e' := .r (y160.1) ((setI s160.1 (w64 (s108.2 + s160.2.2)) (wu32 (wu64 ((wu64 ((wu64 ((wu64 (x112)) * (wu64 (x164)))) + (wu64 (x175)))) + s160.2.1)))).length) (y160.2) 141 1 ((setI s160.1 (w64 (s108.2 + s160.2.2)) (wu32 (wu64 ((wu64 ((wu64 ((wu64 (x112)) * (wu64 (x164)))) + (wu64 (x175)))) + s160.2.1)))).flatMap e_u32)) (by first | (rw [← hn197]; done) | rfl) ?_
          refine T_slot (s := 5) (v' := .slice (y160.1) ((setI s160.1 (w64 (s108.2 + s160.2.2)) (wu32 (wu64 ((wu64 ((wu64 ((wu64 (x112)) * (wu64 (x164)))) + (wu64 (x175)))) + s160.2.1)))).length) (y160.2)) rfl (by have hn198 : ((s160.1).length) = (setI s160.1 (w64 (s108.2 + s160.2.2)) (wu32 (wu64 ((wu64 ((wu64 ((wu64 (x112)) * (wu64 (x164)))) + (wu64 (x175)))) + s160.2.1)))).length := (by simp [setI_len, cpy_len, List.length_append] <;> omega); first | (rw [← hn198]; done) | rfl) ?_
          exact T_roundP (setI s160.1 (w64 (s108.2 + s160.2.2)) (wu32 (wu64 ((wu64 ((wu64 ((wu64 (x112)) * (wu64 (x164)))) + (wu64 (x175)))) + s160.2.1))), shr_ .u64 (wu64 ((wu64 ((wu64 ((wu64 (x112)) * (wu64 (x164)))) + (wu64 (x175)))) + s160.2.1)) 32, w64 (s160.2.2 + 1)) (y160.1, y160.2) hx188 trivial (by exact .cons rfl (.cons rfl (.cons rfl (.cons rfl (.cons rfl (.cons rfl (.cons rfl (.cons rfl (.cons rfl (.cons rfl (.cons rfl (.nil)))))))))))) (by exact .pick 0 rfl (.refl))
        · have hx163 := ite_f h161 hx160
          refine T_condF rfl ?_
          refine T_exit ?_
          refine T_outX ?_
          obtain rfl := exit_eq ht160 hx163
          refine T_outX ?_
          refine T_here ?_
          exact T_metP (s160.1, s160.2.1) (y160.1, y160.2) ho160 trivial (by exact .cons rfl (.cons rfl (.cons rfl (.cons rfl (.cons rfl (.cons rfl (.cons rfl (.nil)))))))) (by exact .pick 0 rfl (.refl))
    · have hx111 := ite_f h109 hx108
      refine T_condF rfl ?_
      refine T_exit ?_
      refine T_outX ?_
      obtain rfl := exit_eq ht108 hx111
      refine T_outX ?_
      refine T_here ?_
      exact T_metP s108.1 (y108.1, y108.2) ho108 trivial (by exact .cons rfl (.nil)) (by exact .pick 0 rfl (.refl))
set_option maxRecDepth 100000 in
theorem ratio_nat_cmp_ok (p0 : List Int) (p1 : List Int) {K : List Ent} {A0_0 : Option Addr} {c0_0 : Nat} {A0_1 : Option Addr} {c0_1 : Nat} (ha0 : Has K A0_0 (p0).length c0_0 1 e_u32 (p0)) (ha1 : Has K A0_1 (p1).length c0_1 1 e_u32 (p1)) {r : Int} (hx : ratio_nat_cmp p0 p1 = some r) (w : World) (hK : ∀ e ∈ K, Ent.ok w e) : CtL Tryz.prog 132 [.slice (A0_0) ((p0).length) (c0_0), .slice (A0_1) ((p1).length) (c0_1)] w fun v Ln => v = .int .i64 (r) ∧ Ln = [] ∧ True := by
  have ha0' := Has.up0 ha0
  have ha1' := Has.up0 ha1
  refine CtL.mk 41 Tryz.func132 rfl Tryz.ntmps132 (by kernel_rfl) rfl ?_
  show T 41 _ [(0, .slice (A0_0) ((p0).length) (c0_0)), (1, .slice (A0_1) ((p1).length) (c0_1))] _
  unfold ratio_nat_cmp at hx
  refine T_seq ?_
  refine T_reg ?_
  refine T_val (Ev_assign rfl) rfl ?_
  refine T_nil ?_
  refine T_next ?_
  refine T_seq ?_
  refine T_seq ?_
  refine T_reg ?_
  refine T_val (Ev_move rfl) rfl ?_
  refine T_val (Ev_len rfl 141 Tryz.underlying123) rfl ?_
  refine T_val (Ev_move rfl) rfl ?_
  refine T_val (Ev_len rfl 141 Tryz.underlying123) rfl ?_
  refine T_val (Ev_neq rfl rfl) rfl ?_
  refine T_nil ?_
  refine T_next ?_
  refine T_caseNP (s := 10) rfl (fun h1 => ?_) (fun h1 => ?_)
  · have hx2 := ite_f h1 hx
    refine T_condT rfl ?_
    refine T_seq ?_
    refine T_seq ?_
    refine T_reg ?_
    refine T_val (Ev_move rfl) rfl ?_
    refine T_val (Ev_len rfl 141 Tryz.underlying123) rfl ?_
    refine T_val (Ev_move rfl) rfl ?_
    refine T_val (Ev_len rfl 141 Tryz.underlying123) rfl ?_
    refine T_val (Ev_lss rfl rfl) rfl ?_
    refine T_nil ?_
    refine T_next ?_
    refine T_caseP (s := 15) rfl (fun h3 => ?_) (fun h3 => ?_)
    · have hx4 := ite_t h3 hx2
      refine T_condT rfl ?_
      refine T_seq ?_
      refine T_reg ?_
      refine T_val (Ev_assign rfl) rfl ?_
      refine T_nil ?_
      refine T_next ?_
      refine T_retc ?_
      refine T_outR ?_
      refine T_outR ?_
      obtain rfl := Option.some.inj hx4
      exact T_retP (rs := [.tmp 4]) Tryz.results132 (.tmp rfl (.nil)) (Ln := []) ⟨rfl, rfl, trivial⟩ (loNil) (by exact .refl)
    · have hx5 := ite_f h3 hx2
      refine T_condF rfl ?_
      refine T_skip ?_
      refine T_next ?_
      refine T_seq ?_
      refine T_reg ?_
      refine T_val (Ev_assign rfl) rfl ?_
      refine T_nil ?_
      refine T_next ?_
      refine T_retc ?_
      refine T_outR ?_
      obtain rfl := Option.some.inj hx5
      exact T_retP (rs := [.tmp 4]) Tryz.results132 (.tmp rfl (.nil)) (Ln := []) ⟨rfl, rfl, trivial⟩ (loNil) (by exact .refl)
  · have hx6 := ite_t h1 hx
    refine T_condF rfl ?_
    refine T_skip ?_
    refine T_next ?_
    obtain ⟨j8, hj8, hx6⟩ := jn_some hx6
    refine T_cutP (τ := Unit) (γ := Unit) (J := j8) (out := r) (fun s8 y8 => []) (fun s8 y8 => [] ++ [.old w]) (fun s8 y8 => True) ?_ ?_
    · intro s8 y8 hx115 hG116
      subst hj8
      refine T_seq ?_
      refine T_reg ?_
      refine T_val (Ev_assign rfl) rfl ?_
      refine T_nil ?_
      refine T_next ?_
      refine T_retc ?_
      obtain rfl := Option.some.inj hx115
      exact T_retP (rs := [.tmp 4]) Tryz.results132 (.tmp rfl (.nil)) (Ln := []) ⟨rfl, rfl, trivial⟩ (loNil) (by exact .refl)
    · skip
      refine T_seq ?_
      refine T_reg ?_
      refine T_val (Ev_move rfl) rfl ?_
      refine T_val (Ev_len rfl 141 Tryz.underlying123) rfl ?_
      refine T_val (Ev_sub_w64 rfl rfl) rfl ?_
      refine T_val (Ev_assign rfl) rfl ?_
      refine T_nil ?_
      refine T_next ?_
      refine T_block ?_
      obtain ⟨t61, hl61, ho61⟩ := bnd_some hx6
      refine T_loopP (σ := Int) (γ := Unit) hl61 (fun s61 y61 => [(0, .slice (A0_0) ((p0).length) (c0_0)), (1, .slice (A0_1) ((p1).length) (c0_1)), (5, .int .i64 (s61))]) (fun s61 y61 => [] ++ [.old w]) (fun s61 y61 => True) () trivial (by exact .cons rfl (.cons rfl (.cons rfl (.nil)))) (by exact .refl) ?_
      intro s61 y61 hG61 x61 hx61 ht61
      unfold ratio_nat_cmp_l6 at hx61
      refine T_seq ?_
      refine T_seq ?_
      refine T_reg ?_
      refine T_val (Ev_move rfl) rfl ?_
      refine T_val (Ev_geq rfl rfl) rfl ?_
      refine T_nil ?_
      refine T_next ?_
      refine T_caseP (s := 20) rfl (fun h62 => ?_) (fun h62 => ?_)
      · have hx63 := ite_t h62 hx61
        refine T_condT rfl ?_
        refine T_skip ?_
        refine T_next ?_
        refine T_seq ?_
        refine T_block ?_
        refine T_seq ?_
        refine T_draw [0, 0, 0, 1, 0, 0, 0, 1, 0] [[], [], [0, 1], [0, 1, 2], [], [], [4, 5], [4, 5, 6], [0, 1, 2, 3, 4, 5, 6, 7]] (.q 0 (.q 1 (.q 2 (.q 3 (.q 4 (.q 5 (.q 6 (.q 7 (.q 8 (.done)))))))))) mixed (by kernel_rfl) (by kernel_rfl) ?_
        refine P_p rfl rfl (Ev_move rfl) rfl ?_
        refine P_p rfl rfl (Ev_move rfl) rfl ?_
        obtain ⟨x65, h66, hx67⟩ := bnd_some hx63
        have hw75 := Has.low (E := []) ha0' hK
        obtain ⟨b68, o69, j70, hA71, hj72, hl73, hp74⟩ := Has.at_idx hw75 h66
        refine P_p rfl rfl (Ev_index rfl rfl hA71 (j := j70) hj72 hl73 slc123) rfl ?_
        refine P_q rfl rfl (Ev_loadP0 rfl hp74 (SubE.cons2 (i := 0) rfl (SubE.nil)) rfl one141) rfl ?_
        refine P_p rfl rfl (Ev_move rfl) rfl ?_
        refine P_p rfl rfl (Ev_move rfl) rfl ?_
        obtain ⟨x76, h77, hx78⟩ := bnd_some hx67
        have hw86 := Has.low (E := []) ha1' hK
        obtain ⟨b79, o80, j81, hA82, hj83, hl84, hp85⟩ := Has.at_idx hw86 h77
        refine P_p rfl rfl (Ev_index rfl rfl hA82 (j := j81) hj83 hl84 slc123) rfl ?_
        refine P_q rfl rfl (Ev_loadP0 rfl hp85 (SubE.cons2 (i := 0) rfl (SubE.nil)) rfl one141) rfl ?_
        refine P_p rfl rfl (Ev_neq rfl rfl) rfl ?_
        refine P_done ?_
        refine T_next ?_
        refine T_caseNP (s := 31) rfl (fun h87 => ?_) (fun h87 => ?_)
        · have hx88 := ite_f h87 hx78
          refine T_condT rfl ?_
          refine T_seq ?_
          refine T_seq ?_
          refine T_draw [0, 0, 0, 1, 0, 0, 0, 1, 0] [[], [], [0, 1], [0, 1, 2], [], [], [4, 5], [4, 5, 6], [0, 1, 2, 3, 4, 5, 6, 7]] (.q 0 (.q 1 (.q 2 (.q 3 (.q 4 (.q 5 (.q 6 (.q 7 (.q 8 (.done)))))))))) mixed (by kernel_rfl) (by kernel_rfl) ?_
          refine P_p rfl rfl (Ev_move rfl) rfl ?_
          refine P_p rfl rfl (Ev_move rfl) rfl ?_
          obtain ⟨x89, h90, hx91⟩ := bnd_some hx88
          have hw99 := Has.low (E := []) ha0' hK
          obtain ⟨b92, o93, j94, hA95, hj96, hl97, hp98⟩ := Has.at_idx hw99 h90
          refine P_p rfl rfl (Ev_index rfl rfl hA95 (j := j94) hj96 hl97 slc123) rfl ?_
          refine P_q rfl rfl (Ev_loadP0 rfl hp98 (SubE.cons2 (i := 0) rfl (SubE.nil)) rfl one141) rfl ?_
          refine P_p rfl rfl (Ev_move rfl) rfl ?_
          refine P_p rfl rfl (Ev_move rfl) rfl ?_
          obtain ⟨x100, h101, hx102⟩ := bnd_some hx91
          have hw110 := Has.low (E := []) ha1' hK
          obtain ⟨b103, o104, j105, hA106, hj107, hl108, hp109⟩ := Has.at_idx hw110 h101
          refine P_p rfl rfl (Ev_index rfl rfl hA106 (j := j105) hj107 hl108 slc123) rfl ?_
          refine P_q rfl rfl (Ev_loadP0 rfl hp109 (SubE.cons2 (i := 0) rfl (SubE.nil)) rfl one141) rfl ?_
          refine P_p rfl rfl (Ev_lss rfl rfl) rfl ?_
          refine P_done ?_
          refine T_next ?_
          refine T_caseP (s := 40) rfl (fun h111 => ?_) (fun h111 => ?_)
          · have hx112 := ite_t h111 hx102
            refine T_condT rfl ?_
            refine T_seq ?_
            refine T_reg ?_
            refine T_val (Ev_assign rfl) rfl ?_
            refine T_nil ?_
            refine T_next ?_
            refine T_retc ?_
            refine T_outR ?_
            refine T_inR ?_
            refine T_outR ?_
            obtain rfl := exit_eq ht61 hx112
            refine T_outR ?_
            refine T_inR ?_
            refine T_outR ?_
            obtain rfl := Option.some.inj ho61
            exact T_retP (rs := [.tmp 4]) Tryz.results132 (.tmp rfl (.nil)) (Ln := []) ⟨rfl, rfl, trivial⟩ (loNil) (by exact .refl)
          · have hx113 := ite_f h111 hx102
            refine T_condF rfl ?_
            refine T_skip ?_
            refine T_next ?_
            refine T_seq ?_
            refine T_reg ?_
            refine T_val (Ev_assign rfl) rfl ?_
            refine T_nil ?_
            refine T_next ?_
            refine T_retc ?_
            refine T_inR ?_
            refine T_outR ?_
            obtain rfl := exit_eq ht61 hx113
            refine T_outR ?_
            refine T_inR ?_
            refine T_outR ?_
            obtain rfl := Option.some.inj ho61
            exact T_retP (rs := [.tmp 4]) Tryz.results132 (.tmp rfl (.nil)) (Ln := []) ⟨rfl, rfl, trivial⟩ (loNil) (by exact .refl)
        · have hx114 := ite_t h87 hx78
          refine T_condF rfl ?_
          refine T_skip ?_
          refine T_inN ?_
          refine T_next ?_
          refine T_reg ?_
          refine T_val (Ev_move rfl) rfl ?_
          refine T_val (Ev_sub_w64 rfl rfl) rfl ?_
          refine T_val (Ev_assign rfl) rfl ?_
          refine T_nil ?_
          exact T_roundP (w64 (s61 - 1)) () hx114 trivial (by exact .cons rfl (.cons rfl (.cons rfl (.nil)))) (by exact .refl)
      · have hx64 := ite_f h62 hx61
        refine T_condF rfl ?_
        refine T_exit ?_
        refine T_outX ?_
        obtain rfl := exit_eq ht61 hx64
        refine T_outX ?_
        refine T_here ?_
        exact T_metP () () ho61 trivial (by exact .nil) (by exact .refl)
set_option maxRecDepth 100000 in
theorem ratio_nat_add_ok (p0 : List Int) (p1 : List Int) {K : List Ent} {A0_0 : Option Addr} {c0_0 : Nat} {A0_1 : Option Addr} {c0_1 : Nat} (ha0 : Has K A0_0 (p0).length c0_0 1 e_u32 (p0)) (ha1 : Has K A0_1 (p1).length c0_1 1 e_u32 (p1)) {r : List Int} (hx : ratio_nat_add p0 p1 = some r) (w : World) (hK : ∀ e ∈ K, Ent.ok w e) : CtL Tryz.prog 131 [.slice (A0_0) ((p0).length) (c0_0), .slice (A0_1) ((p1).length) (c0_1)] w fun v Ln => ∃ (A0 : Option Addr) (c0 : Nat) (e0 : Ent), v = .slice (A0) ((r).length) (c0) ∧ Ln = [e0] ∧ Has (K ++ [e0]) A0 (r).length c0 1 e_u32 (r) ∧ True := by
  have ha0' := Has.up0 ha0
  have ha1' := Has.up0 ha1
  refine CtL.mk 54 Tryz.func131 rfl Tryz.ntmps131 (by kernel_rfl) rfl ?_
  show T 54 _ [(0, .slice (A0_0) ((p0).length) (c0_0)), (1, .slice (A0_1) ((p1).length) (c0_1))] _
  unfold ratio_nat_add at hx
  refine T_seq ?_
  refine T_reg ?_
  refine T_val (Ev_assign rfl) rfl ?_
  refine T_nil ?_
  refine T_next ?_
  obtain ⟨j2, hj2, hx⟩ := jn_some hx
  refine T_cutP (τ := (List Int) × (List Int)) (γ := (Option Addr) × Nat × (Option Addr) × Nat) (J := j2) (out := r) (fun s2 y2 => [(0, .slice (y2.1) ((s2.1).length) (y2.2.1)), (1, .slice (y2.2.2.1) ((s2.2).length) (y2.2.2.2))]) (fun s2 y2 => [] ++ [.old w]) (fun s2 y2 => Has (K ++ []) (y2.1) ((s2.1).length) (y2.2.1) 1 e_u32 (s2.1) ∧ Has (K ++ []) (y2.2.2.1) ((s2.2).length) (y2.2.2.2) 1 e_u32 (s2.2) ∧ True) ?_ ?_
  · intro s2 y2 hx4 hG5
    obtain ⟨hs6, hs7, -⟩ := hG5
    subst hj2
    refine T_seq ?_
    refine T_reg ?_
    refine T_val (Ev_move rfl) rfl ?_
    refine T_val (Ev_len rfl 141 Tryz.underlying123) rfl ?_
    refine T_val (Ev_add_w64 rfl rfl) rfl ?_
    obtain ⟨h9, hx10⟩ := gd_some hx4
    refine T_x (Wx_makeP e_u32 (0) (z := .int .u32 (0)) rfl rfl rfl h9.1 Tryz.underlying123 (show Tryz.prog.info? 141 = some Tryz.t141 from by kernel_rfl) (by kernel_rfl) rfl rfl (by kernel_rfl) (show 4 * _ ≤ _ from h9.2) (by decide) rfl (fun A8 => ?_))
    refine T_val (Ev_assign rfl) rfl ?_
    refine T_nil ?_
    refine T_next ?_
    refine T_seq ?_
    refine T_reg ?_
    refine T_val (Ev_assign rfl) rfl ?_
    refine T_nil ?_
    refine T_next ?_
    obtain ⟨j6, hj6, hx10⟩ := jn_some hx10
    refine T_cutP (τ := (List Int) × Int) (γ := (Option Addr) × Nat) (J := j6) (out := r) (fun s6 y6 => [(0, .slice (y2.1) ((s2.1).length) (y2.2.1)), (5, .slice (y6.1) ((s6.1).length) (y6.2)), (6, .int .u32 (s6.2))]) (fun s6 y6 => [.r (y6.1) ((s6.1).length) (y6.2) 141 1 ((s6.1).flatMap e_u32)] ++ [.old w]) (fun s6 y6 => True) ?_ ?_
    · intro s6 y6 hx103 hG104
      subst hj6
      refine T_seq ?_
      refine T_reg ?_
      refine T_val (Ev_move rfl) rfl ?_
      refine T_val (Ev_move rfl) rfl ?_
      refine T_val (Ev_len rfl 141 Tryz.underlying123) rfl ?_
      refine T_val (Ev_move rfl) rfl ?_
      obtain ⟨x105, h106, hx107⟩ := bnd_some hx103
      refine T_idxR (k := 0) rfl (by decide) (fun _ => rfl) h106 (fun b108 j110 hA111 hj112 hl113 hm115 hp114 => ?_)
      refine T_val (Ev_index rfl rfl hA111 (j := j110) hj112 hl113 slc123) rfl ?_
      refine T_h (Wh_storeP e_u32 (s6.1) ((((s2.1).length : Nat) : Int)) (s6.2) rfl rfl rfl (.here) hA111 rfl hj112 hl113 (fun _ => rfl) (by decide) rfl one141.2 ?_)
      refine T_nil ?_
      refine T_next ?_
      refine T_seq ?_
      refine T_reg ?_
      refine T_val (Ev_move rfl) rfl ?_
      have hn116 : (s6.1).length = (setI s6.1 ((((s2.1).length : Nat) : Int)) s6.2).length := by simp [setI_len, cpy_len, List.length_append] <;> omega
      refine T_ent (.here) (e' := .r (y6.1) ((setI s6.1 ((((s2.1).length : Nat) : Int)) s6.2).length) (y6.2) 141 1 ((setI s6.1 ((((s2.1).length : Nat) : Int)) s6.2).flatMap e_u32)) (by first | (rw [← hn116]; done) | rfl) ?_
      refine T_slot (s := 5) (v' := .slice (y6.1) ((setI s6.1 ((((s2.1).length : Nat) : Int)) s6.2).length) (y6.2)) rfl (by have hn117 : ((s6.1).length) = (setI s6.1 ((((s2.1).length : Nat) : Int)) s6.2).length := (by simp [setI_len, cpy_len, List.length_append] <;> omega); first | (rw [← hn117]; done) | rfl) ?_
      refine T_slot (s := 47) (v' := .slice (y6.1) ((setI s6.1 ((((s2.1).length : Nat) : Int)) s6.2).length) (y6.2)) rfl (by have hn118 : ((s6.1).length) = (setI s6.1 ((((s2.1).length : Nat) : Int)) s6.2).length := (by simp [setI_len, cpy_len, List.length_append] <;> omega); first | (rw [← hn118]; done) | rfl) ?_
      refine T_slot (s := 52) (v' := .slice (y6.1) ((setI s6.1 ((((s2.1).length : Nat) : Int)) s6.2).length) (y6.2)) rfl (by have hn119 : ((s6.1).length) = (setI s6.1 ((((s2.1).length : Nat) : Int)) s6.2).length := (by simp [setI_len, cpy_len, List.length_append] <;> omega); first | (rw [← hn119]; done) | rfl) ?_
      refine T_rowP (k := 0) rfl (by decide) (fun _ => rfl) (fun hn120 hs121 => ?_)
      obtain ⟨r122, h123, hx124⟩ := bnd_some hx107
      refine T_x (Wx_callL rfl (fun w1 hw1 => ratio_nat_norm_ok (setI s6.1 ((((s2.1).length : Nat) : Int)) s6.2) (Has.len' hs121) h123 w1 (okAll (K := ([.r (y6.1) ((setI s6.1 ((((s2.1).length : Nat) : Int)) s6.2).length) (y6.2) 141 1 ((setI s6.1 ((((s2.1).length : Nat) : Int)) s6.2).flatMap e_u32)] : List Ent)) (by exact (SubE.cons2 (i := 0) rfl (SubE.nil))) hw1)) rfl ?_)
      rintro _ _ hlo ⟨A125, c126, rfl, rfl, hs127, -⟩
      refine T_app0 ?_
      refine T_val (Ev_assign rfl) rfl ?_
      refine T_nil ?_
      refine T_next ?_
      refine T_retc ?_
      obtain rfl := Option.some.inj hx124
      exact T_retP (rs := [.tmp 4]) Tryz.results131 (.tmp rfl (.nil)) (Ln := [.r (y6.1) ((setI s6.1 ((((s2.1).length : Nat) : Int)) s6.2).length) (y6.2) 141 1 ((setI s6.1 ((((s2.1).length : Nat) : Int)) s6.2).flatMap e_u32)]) ⟨A125, c126, (.r (y6.1) ((setI s6.1 ((((s2.1).length : Nat) : Int)) s6.2).length) (y6.2) 141 1 ((setI s6.1 ((((s2.1).length : Nat) : Int)) s6.2).flatMap e_u32)), rfl, rfl, Has.len' (Has.up (L := (K ++ [.r (y6.1) ((setI s6.1 ((((s2.1).length : Nat) : Int)) s6.2).length) (y6.2) 141 1 ((setI s6.1 ((((s2.1).length : Nat) : Int)) s6.2).flatMap e_u32)])) hs127 (SubE.appR2 (SubE.cons2 (i := 0) rfl (SubE.nil)))), trivial⟩ (loCons rfl (loNil)) (by exact .pick 0 rfl (.refl))
    · skip
      refine T_seq ?_
      refine T_reg ?_
      refine T_val (Ev_move rfl) rfl ?_
      refine T_val (Ev_len rfl 141 Tryz.underlying123) rfl ?_
      refine T_val (Ev_move rfl) rfl ?_
      refine T_nil ?_
      refine T_next ?_
      refine T_block ?_
      obtain ⟨t56, hl56, ho56⟩ := bnd_some hx10
      refine T_loopP (σ := (List Int) × Int × Int) (γ := (Option Addr) × Nat) hl56 (fun s56 y56 => [(0, .slice (y2.1) ((s2.1).length) (y2.2.1)), (1, .slice (y2.2.2.1) ((s2.2).length) (y2.2.2.2)), (5, .slice (y56.1) ((s56.1).length) (y56.2)), (6, .int .u32 (s56.2.1)), (21, .int .i64 ((((s2.1).length : Nat) : Int))), (22, .int .i64 (s56.2.2))]) (fun s56 y56 => [.r (y56.1) ((s56.1).length) (y56.2) 141 1 ((s56.1).flatMap e_u32)] ++ [.old w]) (fun s56 y56 => True) (A8, (List.replicate (Int.toNat (w64 (((((s2.1).length : Nat) : Int)) + 1))) (0 : Int)).length) trivial (by exact .cons rfl (.cons rfl (.cons rfl (.cons rfl (.cons rfl (.cons rfl (.nil))))))) (by exact .pick 0 rfl (.refl)) ?_
      intro s56 y56 hG56 x56 hx56 ht56
      unfold ratio_nat_add_l6 at hx56
      refine T_seq ?_
      refine T_reg ?_
      refine T_val (Ev_lss rfl rfl) rfl ?_
      refine T_nil ?_
      refine T_next ?_
      refine T_seq ?_
      refine T_caseP (s := 23) rfl (fun h57 => ?_) (fun h57 => ?_)
      · have hx58 := ite_t h57 hx56
        refine T_condT rfl ?_
        refine T_skip ?_
        refine T_next ?_
        refine T_seq ?_
        refine T_block ?_
        refine T_seq ?_
        refine T_reg ?_
        refine T_val (Ev_move rfl) rfl ?_
        refine T_val (Ev_assign rfl) rfl ?_
        refine T_nil ?_
        refine T_next ?_
        refine T_seq ?_
        refine T_reg ?_
        refine T_val (Ev_assign rfl) rfl ?_
        refine T_nil ?_
        refine T_next ?_
        obtain ⟨j20, hj20, hx58⟩ := jn_some hx58
        refine T_cutP (τ := Int) (γ := Unit) (J := j20) (out := x56) (fun s20 y20 => [(0, .slice (y2.1) ((s2.1).length) (y2.2.1)), (1, .slice (y2.2.2.1) ((s2.2).length) (y2.2.2.2)), (5, .slice (y56.1) ((s56.1).length) (y56.2)), (6, .int .u32 (s56.2.1)), (7, .int .i64 (s56.2.2)), (8, .int .u32 (s20)), (21, .int .i64 ((((s2.1).length : Nat) : Int))), (22, .int .i64 (s56.2.2))]) (fun s20 y20 => [.r (y56.1) ((s56.1).length) (y56.2) 141 1 ((s56.1).flatMap e_u32)] ++ [.old w]) (fun s20 y20 => True) ?_ ?_
        · intro s20 y20 hx74 hG75
          subst hj20
          refine T_reg ?_
          refine T_val (Ev_move rfl) rfl ?_
          refine T_val (Ev_move rfl) rfl ?_
          refine T_val (Ev_move rfl) rfl ?_
          refine T_val (Ev_move rfl) rfl ?_
          obtain ⟨x76, h77, hx78⟩ := bnd_some hx74
          have hw86 := Has.low (E := []) hs6 hK
          obtain ⟨b79, o80, j81, hA82, hj83, hl84, hp85⟩ := Has.at_idx hw86 h77
          refine T_val (Ev_index rfl rfl hA82 (j := j81) hj83 hl84 slc123) rfl ?_
          refine T_val (Ev_loadP0 rfl hp85 (SubE.cons2 (i := 1) rfl (SubE.nil)) rfl one141) rfl ?_
          refine T_val (Ev_move rfl) rfl ?_
          refine T_val (Ev_move rfl) rfl ?_
          obtain ⟨r87, h88, hx89⟩ := bnd_some hx78
          refine T_x (Wx_callL rfl (fun w1 hw1 => math_bits_Add32_ok x76 s20 s56.2.1  h88 w1) rfl ?_)
          rintro _ _ hlo ⟨rfl, rfl, -⟩
          refine T_app0 ?_
          refine T_val (Ev_move rfl) rfl ?_
          refine T_val (Ev_extract rfl rfl) rfl ?_
          refine T_val (Ev_extract rfl rfl) rfl ?_
          obtain ⟨x90, h91, hx92⟩ := bnd_some hx89
          refine T_idxR (k := 0) rfl (by decide) (fun _ => rfl) h91 (fun b93 j95 hA96 hj97 hl98 hm100 hp99 => ?_)
          refine T_val (Ev_index rfl rfl hA96 (j := j95) hj97 hl98 slc123) rfl ?_
          refine T_h (Wh_storeP e_u32 (s56.1) (s56.2.2) (r87.1) rfl rfl rfl (.here) hA96 rfl hj97 hl98 (fun _ => rfl) (by decide) rfl one141.2 ?_)
          refine T_val (Ev_assign rfl) rfl ?_
          refine T_nil ?_
          refine T_inN ?_
          refine T_next ?_
          refine T_reg ?_
          refine T_val (Ev_add_w64 rfl rfl) rfl ?_
          refine T_val (Ev_move rfl) rfl ?_
          refine T_nil ?_
          have hn101 : (s56.1).length = (setI s56.1 s56.2.2 r87.1).length := by simp [setI_len, cpy_len, List.length_append] <;> omega
          refine T_ent (.here) (e' := .r (y56.1) ((setI s56.1 s56.2.2 r87.1).length) (y56.2) 141 1 ((setI s56.1 s56.2.2 r87.1).flatMap e_u32)) (by first | (rw [← hn101]; done) | rfl) ?_
          refine T_slot (s := 5) (v' := .slice (y56.1) ((setI s56.1 s56.2.2 r87.1).length) (y56.2)) rfl (by have hn102 : ((s56.1).length) = (setI s56.1 s56.2.2 r87.1).length := (by simp [setI_len, cpy_len, List.length_append] <;> omega); first | (rw [← hn102]; done) | rfl) ?_
          exact T_roundP (setI s56.1 s56.2.2 r87.1, r87.2, w64 (s56.2.2 + 1)) (y56.1, y56.2) hx92 trivial (by exact .cons rfl (.cons rfl (.cons rfl (.cons rfl (.cons rfl (.cons rfl (.nil))))))) (by exact .pick 0 rfl (.refl))
        · skip
          refine T_seq ?_
          refine T_reg ?_
          refine T_val (Ev_move rfl) rfl ?_
          refine T_val (Ev_move rfl) rfl ?_
          refine T_val (Ev_len rfl 141 Tryz.underlying123) rfl ?_
          refine T_val (Ev_lss rfl rfl) rfl ?_
          refine T_nil ?_
          refine T_next ?_
          refine T_caseP (s := 28) rfl (fun h60 => ?_) (fun h60 => ?_)
          · have hx61 := ite_t h60 hx58
            refine T_condT rfl ?_
            refine T_reg ?_
            refine T_val (Ev_move rfl) rfl ?_
            refine T_val (Ev_move rfl) rfl ?_
            obtain ⟨x62, h63, hx64⟩ := bnd_some hx61
            have hw72 := Has.low (E := []) hs7 hK
            obtain ⟨b65, o66, j67, hA68, hj69, hl70, hp71⟩ := Has.at_idx hw72 h63
            refine T_val (Ev_index rfl rfl hA68 (j := j67) hj69 hl70 slc123) rfl ?_
            refine T_val (Ev_loadP0 rfl hp71 (SubE.cons2 (i := 1) rfl (SubE.nil)) rfl one141) rfl ?_
            refine T_val (Ev_assign rfl) rfl ?_
            refine T_nil ?_
            exact T_metP x62 () hx64 trivial (by exact .cons rfl (.cons rfl (.cons rfl (.cons rfl (.cons rfl (.cons rfl (.cons rfl (.cons rfl (.nil))))))))) (by exact .pick 0 rfl (.refl))
          · have hx73 := ite_f h60 hx58
            refine T_condF rfl ?_
            refine T_skip ?_
            exact T_metP 0 () hx73 trivial (by exact .cons rfl (.cons rfl (.cons rfl (.cons rfl (.cons rfl (.cons rfl (.cons rfl (.cons rfl (.nil))))))))) (by exact .pick 0 rfl (.refl))
      · have hx59 := ite_f h57 hx56
        refine T_condF rfl ?_
        refine T_exit ?_
        refine T_outX ?_
        obtain rfl := exit_eq ht56 hx59
        refine T_outX ?_
        refine T_here ?_
        exact T_metP (s56.1, s56.2.1) (y56.1, y56.2) ho56 trivial (by exact .cons rfl (.cons rfl (.cons rfl (.nil)))) (by exact .pick 0 rfl (.refl))
  · skip
    refine T_seq ?_
    refine T_reg ?_
    refine T_val (Ev_move rfl) rfl ?_
    refine T_val (Ev_len rfl 141 Tryz.underlying123) rfl ?_
    refine T_val (Ev_move rfl) rfl ?_
    refine T_val (Ev_len rfl 141 Tryz.underlying123) rfl ?_
    refine T_val (Ev_lss rfl rfl) rfl ?_
    refine T_nil ?_
    refine T_next ?_
    refine T_caseP (s := 13) rfl (fun h1 => ?_) (fun h1 => ?_)
    · have hx2 := ite_t h1 hx
      refine T_condT rfl ?_
      refine T_reg ?_
      refine T_val (Ev_move rfl) rfl ?_
      refine T_val (Ev_move rfl) rfl ?_
      refine T_val (Ev_assign rfl) rfl ?_
      refine T_val (Ev_assign rfl) rfl ?_
      refine T_nil ?_
      exact T_metP (p1, p0) (A0_1, c0_1, A0_0, c0_0) hx2 ((by exact ⟨Has.len' ha1', Has.len' ha0', trivial⟩)) (by exact .cons rfl (.cons rfl (.nil))) (by exact .refl)
    · have hx3 := ite_f h1 hx
      refine T_condF rfl ?_
      refine T_skip ?_
      exact T_metP (p0, p1) (A0_0, c0_0, A0_1, c0_1) hx3 ((by exact ⟨Has.len' ha0', Has.len' ha1', trivial⟩)) (by exact .cons rfl (.cons rfl (.nil))) (by exact .refl)
set_option maxRecDepth 100000 in
theorem ratio_nat_sub_ok (p0 : List Int) (p1 : List Int) {K : List Ent} {A0_0 : Option Addr} {c0_0 : Nat} {A0_1 : Option Addr} {c0_1 : Nat} (ha0 : Has K A0_0 (p0).length c0_0 1 e_u32 (p0)) (ha1 : Has K A0_1 (p1).length c0_1 1 e_u32 (p1)) {r : List Int} (hx : ratio_nat_sub p0 p1 = some r) (w : World) (hK : ∀ e ∈ K, Ent.ok w e) : CtL Tryz.prog 133 [.slice (A0_0) ((p0).length) (c0_0), .slice (A0_1) ((p1).length) (c0_1)] w fun v Ln => ∃ (A0 : Option Addr) (c0 : Nat) (e0 : Ent), v = .slice (A0) ((r).length) (c0) ∧ Ln = [e0] ∧ Has (K ++ [e0]) A0 (r).length c0 1 e_u32 (r) ∧ True := by
  have ha0' := Has.up0 ha0
  have ha1' := Has.up0 ha1
  refine CtL.mk 41 Tryz.func133 rfl Tryz.ntmps133 (by kernel_rfl) rfl ?_
  show T 41 _ [(0, .slice (A0_0) ((p0).length) (c0_0)), (1, .slice (A0_1) ((p1).length) (c0_1))] _
  unfold ratio_nat_sub at hx
  refine T_seq ?_
  refine T_reg ?_
  refine T_val (Ev_assign rfl) rfl ?_
  refine T_nil ?_
  refine T_next ?_
  refine T_seq ?_
  refine T_reg ?_
  refine T_val (Ev_move rfl) rfl ?_
  refine T_val (Ev_len rfl 141 Tryz.underlying123) rfl ?_
  obtain ⟨h2, hx3⟩ := gd_some hx
  refine T_x (Wx_makeP e_u32 (0) (z := .int .u32 (0)) rfl rfl rfl h2.1 Tryz.underlying123 (show Tryz.prog.info? 141 = some Tryz.t141 from by kernel_rfl) (by kernel_rfl) rfl rfl (by kernel_rfl) (show 4 * _ ≤ _ from h2.2) (by decide) rfl (fun A1 => ?_))
  refine T_val (Ev_assign rfl) rfl ?_
  refine T_nil ?_
  refine T_next ?_
  refine T_seq ?_
  refine T_reg ?_
  refine T_val (Ev_assign rfl) rfl ?_
  refine T_nil ?_
  refine T_next ?_
  obtain ⟨j4, hj4, hx3⟩ := jn_some hx3
  refine T_cutP (τ := List Int) (γ := (Option Addr) × Nat) (J := j4) (out := r) (fun s4 y4 => [(5, .slice (y4.1) ((s4).length) (y4.2))]) (fun s4 y4 => [.r (y4.1) ((s4).length) (y4.2) 141 1 ((s4).flatMap e_u32)] ++ [.old w]) (fun s4 y4 => True) ?_ ?_
  · intro s4 y4 hx96 hG97
    subst hj4
    refine T_seq ?_
    refine T_reg ?_
    refine T_val (Ev_move rfl) rfl ?_
    refine T_rowP (k := 0) rfl (by decide) (fun _ => rfl) (fun hn98 hs99 => ?_)
    obtain ⟨r100, h101, hx102⟩ := bnd_some hx96
    refine T_x (Wx_callL rfl (fun w1 hw1 => ratio_nat_norm_ok s4 (Has.len' hs99) h101 w1 (okAll (K := ([.r (y4.1) ((s4).length) (y4.2) 141 1 ((s4).flatMap e_u32)] : List Ent)) (by exact (SubE.cons2 (i := 0) rfl (SubE.nil))) hw1)) rfl ?_)
    rintro _ _ hlo ⟨A103, c104, rfl, rfl, hs105, -⟩
    refine T_app0 ?_
    refine T_val (Ev_assign rfl) rfl ?_
    refine T_nil ?_
    refine T_next ?_
    refine T_retc ?_
    obtain rfl := Option.some.inj hx102
    exact T_retP (rs := [.tmp 4]) Tryz.results133 (.tmp rfl (.nil)) (Ln := [.r (y4.1) ((s4).length) (y4.2) 141 1 ((s4).flatMap e_u32)]) ⟨A103, c104, (.r (y4.1) ((s4).length) (y4.2) 141 1 ((s4).flatMap e_u32)), rfl, rfl, Has.len' (Has.up (L := (K ++ [.r (y4.1) ((s4).length) (y4.2) 141 1 ((s4).flatMap e_u32)])) hs105 (SubE.appR2 (SubE.cons2 (i := 0) rfl (SubE.nil)))), trivial⟩ (loCons rfl (loNil)) (by exact .pick 0 rfl (.refl))
  · skip
    refine T_seq ?_
    refine T_reg ?_
    refine T_val (Ev_move rfl) rfl ?_
    refine T_val (Ev_len rfl 141 Tryz.underlying123) rfl ?_
    refine T_val (Ev_move rfl) rfl ?_
    refine T_nil ?_
    refine T_next ?_
    refine T_block ?_
    obtain ⟨t49, hl49, ho49⟩ := bnd_some hx3
    refine T_loopP (σ := (List Int) × Int × Int) (γ := (Option Addr) × Nat) hl49 (fun s49 y49 => [(0, .slice (A0_0) ((p0).length) (c0_0)), (1, .slice (A0_1) ((p1).length) (c0_1)), (5, .slice (y49.1) ((s49.1).length) (y49.2)), (6, .int .u32 (s49.2.1)), (13, .int .i64 ((((p0).length : Nat) : Int))), (14, .int .i64 (s49.2.2))]) (fun s49 y49 => [.r (y49.1) ((s49.1).length) (y49.2) 141 1 ((s49.1).flatMap e_u32)] ++ [.old w]) (fun s49 y49 => True) (A1, (List.replicate (Int.toNat ((((p0).length : Nat) : Int))) (0 : Int)).length) trivial (by exact .cons rfl (.cons rfl (.cons rfl (.cons rfl (.cons rfl (.cons rfl (.nil))))))) (by exact .pick 0 rfl (.refl)) ?_
    intro s49 y49 hG49 x49 hx49 ht49
    unfold ratio_nat_sub_l4 at hx49
    refine T_seq ?_
    refine T_reg ?_
    refine T_val (Ev_lss rfl rfl) rfl ?_
    refine T_nil ?_
    refine T_next ?_
    refine T_seq ?_
    refine T_caseP (s := 15) rfl (fun h50 => ?_) (fun h50 => ?_)
    · have hx51 := ite_t h50 hx49
      refine T_condT rfl ?_
      refine T_skip ?_
      refine T_next ?_
      refine T_seq ?_
      refine T_block ?_
      refine T_seq ?_
      refine T_reg ?_
      refine T_val (Ev_move rfl) rfl ?_
      refine T_val (Ev_assign rfl) rfl ?_
      refine T_nil ?_
      refine T_next ?_
      refine T_seq ?_
      refine T_reg ?_
      refine T_val (Ev_assign rfl) rfl ?_
      refine T_nil ?_
      refine T_next ?_
      obtain ⟨j18, hj18, hx51⟩ := jn_some hx51
      refine T_cutP (τ := Int) (γ := Unit) (J := j18) (out := x49) (fun s18 y18 => [(0, .slice (A0_0) ((p0).length) (c0_0)), (1, .slice (A0_1) ((p1).length) (c0_1)), (5, .slice (y49.1) ((s49.1).length) (y49.2)), (6, .int .u32 (s49.2.1)), (7, .int .i64 (s49.2.2)), (8, .int .u32 (s18)), (13, .int .i64 ((((p0).length : Nat) : Int))), (14, .int .i64 (s49.2.2))]) (fun s18 y18 => [.r (y49.1) ((s49.1).length) (y49.2) 141 1 ((s49.1).flatMap e_u32)] ++ [.old w]) (fun s18 y18 => True) ?_ ?_
      · intro s18 y18 hx67 hG68
        subst hj18
        refine T_reg ?_
        refine T_val (Ev_move rfl) rfl ?_
        refine T_val (Ev_move rfl) rfl ?_
        refine T_val (Ev_move rfl) rfl ?_
        refine T_val (Ev_move rfl) rfl ?_
        obtain ⟨x69, h70, hx71⟩ := bnd_some hx67
        have hw79 := Has.low (E := []) ha0' hK
        obtain ⟨b72, o73, j74, hA75, hj76, hl77, hp78⟩ := Has.at_idx hw79 h70
        refine T_val (Ev_index rfl rfl hA75 (j := j74) hj76 hl77 slc123) rfl ?_
        refine T_val (Ev_loadP0 rfl hp78 (SubE.cons2 (i := 1) rfl (SubE.nil)) rfl one141) rfl ?_
        refine T_val (Ev_move rfl) rfl ?_
        refine T_val (Ev_move rfl) rfl ?_
        obtain ⟨r80, h81, hx82⟩ := bnd_some hx71
        refine T_x (Wx_callL rfl (fun w1 hw1 => math_bits_Sub32_ok x69 s18 s49.2.1  h81 w1) rfl ?_)
        rintro _ _ hlo ⟨rfl, rfl, -⟩
        refine T_app0 ?_
        refine T_val (Ev_move rfl) rfl ?_
        refine T_val (Ev_extract rfl rfl) rfl ?_
        refine T_val (Ev_extract rfl rfl) rfl ?_
        obtain ⟨x83, h84, hx85⟩ := bnd_some hx82
        refine T_idxR (k := 0) rfl (by decide) (fun _ => rfl) h84 (fun b86 j88 hA89 hj90 hl91 hm93 hp92 => ?_)
        refine T_val (Ev_index rfl rfl hA89 (j := j88) hj90 hl91 slc123) rfl ?_
        refine T_h (Wh_storeP e_u32 (s49.1) (s49.2.2) (r80.1) rfl rfl rfl (.here) hA89 rfl hj90 hl91 (fun _ => rfl) (by decide) rfl one141.2 ?_)
        refine T_val (Ev_assign rfl) rfl ?_
        refine T_nil ?_
        refine T_inN ?_
        refine T_next ?_
        refine T_reg ?_
        refine T_val (Ev_add_w64 rfl rfl) rfl ?_
        refine T_val (Ev_move rfl) rfl ?_
        refine T_nil ?_
        have hn94 : (s49.1).length = (setI s49.1 s49.2.2 r80.1).length := by simp [setI_len, cpy_len, List.length_append] <;> omega
        refine T_ent (.here) (e' := .r (y49.1) ((setI s49.1 s49.2.2 r80.1).length) (y49.2) 141 1 ((setI s49.1 s49.2.2 r80.1).flatMap e_u32)) (by first | (rw [← hn94]; done) | rfl) ?_
        refine T_slot (s := 5) (v' := .slice (y49.1) ((setI s49.1 s49.2.2 r80.1).length) (y49.2)) rfl (by have hn95 : ((s49.1).length) = (setI s49.1 s49.2.2 r80.1).length := (by simp [setI_len, cpy_len, List.length_append] <;> omega); first | (rw [← hn95]; done) | rfl) ?_
        exact T_roundP (setI s49.1 s49.2.2 r80.1, r80.2, w64 (s49.2.2 + 1)) (y49.1, y49.2) hx85 trivial (by exact .cons rfl (.cons rfl (.cons rfl (.cons rfl (.cons rfl (.cons rfl (.nil))))))) (by exact .pick 0 rfl (.refl))
      · skip
        refine T_seq ?_
        refine T_reg ?_
        refine T_val (Ev_move rfl) rfl ?_
        refine T_val (Ev_move rfl) rfl ?_
        refine T_val (Ev_len rfl 141 Tryz.underlying123) rfl ?_
        refine T_val (Ev_lss rfl rfl) rfl ?_
        refine T_nil ?_
        refine T_next ?_
        refine T_caseP (s := 20) rfl (fun h53 => ?_) (fun h53 => ?_)
        · have hx54 := ite_t h53 hx51
          refine T_condT rfl ?_
          refine T_reg ?_
          refine T_val (Ev_move rfl) rfl ?_
          refine T_val (Ev_move rfl) rfl ?_
          obtain ⟨x55, h56, hx57⟩ := bnd_some hx54
          have hw65 := Has.low (E := []) ha1' hK
          obtain ⟨b58, o59, j60, hA61, hj62, hl63, hp64⟩ := Has.at_idx hw65 h56
          refine T_val (Ev_index rfl rfl hA61 (j := j60) hj62 hl63 slc123) rfl ?_
          refine T_val (Ev_loadP0 rfl hp64 (SubE.cons2 (i := 1) rfl (SubE.nil)) rfl one141) rfl ?_
          refine T_val (Ev_assign rfl) rfl ?_
          refine T_nil ?_
          exact T_metP x55 () hx57 trivial (by exact .cons rfl (.cons rfl (.cons rfl (.cons rfl (.cons rfl (.cons rfl (.cons rfl (.cons rfl (.nil))))))))) (by exact .pick 0 rfl (.refl))
        · have hx66 := ite_f h53 hx51
          refine T_condF rfl ?_
          refine T_skip ?_
          exact T_metP 0 () hx66 trivial (by exact .cons rfl (.cons rfl (.cons rfl (.cons rfl (.cons rfl (.cons rfl (.cons rfl (.cons rfl (.nil))))))))) (by exact .pick 0 rfl (.refl))
    · have hx52 := ite_f h50 hx49
      refine T_condF rfl ?_
      refine T_exit ?_
      refine T_outX ?_
      obtain rfl := exit_eq ht49 hx52
      refine T_outX ?_
      refine T_here ?_
      exact T_metP s49.1 (y49.1, y49.2) ho49 trivial (by exact .cons rfl (.nil)) (by exact .pick 0 rfl (.refl))
set_option maxRecDepth 100000 in
theorem ratio_Num_Mul_ok (p0 : S_ratio_Num) (p1 : S_ratio_Num) {K : List Ent} {A0_0 : Option Addr} {c0_0 : Nat} {A0_1 : Option Addr} {c0_1 : Nat} {A0_2 : Option Addr} {c0_2 : Nat} {A0_3 : Option Addr} {c0_3 : Nat} (ha0 : Has K A0_0 (p0.n).length c0_0 1 e_u32 (p0.n)) (ha1 : Has K A0_1 (p0.d).length c0_1 1 e_u32 (p0.d)) (ha2 : Has K A0_2 (p1.n).length c0_2 1 e_u32 (p1.n)) (ha3 : Has K A0_3 (p1.d).length c0_3 1 e_u32 (p1.d)) {r : S_ratio_Num} (hx : ratio_Num_Mul p0 p1 = some r) (w : World) (hK : ∀ e ∈ K, Ent.ok w e) : CtL Tryz.prog 95 [.agg #[.bool (p0.neg), .slice (A0_0) ((p0.n).length) (c0_0), .slice (A0_1) ((p0.d).length) (c0_1)], .agg #[.bool (p1.neg), .slice (A0_2) ((p1.n).length) (c0_2), .slice (A0_3) ((p1.d).length) (c0_3)]] w fun v Ln => ∃ (A0 : Option Addr) (c0 : Nat) (A2 : Option Addr) (c2 : Nat) (e0 : Ent) (e1 : Ent), v = .agg #[.bool (r.neg), .slice (A0) ((r.n).length) (c0), .slice (A2) ((r.d).length) (c2)] ∧ Ln = [e0, e1] ∧ Has (K ++ [e0, e1]) A0 (r.n).length c0 1 e_u32 (r.n) ∧ Has (K ++ [e0, e1]) A2 (r.d).length c2 1 e_u32 (r.d) ∧ True := by
  have ha0' := Has.up0 ha0
  have ha1' := Has.up0 ha1
  have ha2' := Has.up0 ha2
  have ha3' := Has.up0 ha3
  refine CtL.mk 21 Tryz.func95 rfl Tryz.ntmps95 (by kernel_rfl) rfl ?_
  show T 21 _ [(0, .agg #[.bool (p0.neg), .slice (A0_0) ((p0.n).length) (c0_0), .slice (A0_1) ((p0.d).length) (c0_1)]), (1, .agg #[.bool (p1.neg), .slice (A0_2) ((p1.n).length) (c0_2), .slice (A0_3) ((p1.d).length) (c0_3)])] _
  unfold ratio_Num_Mul at hx
  refine T_seq ?_
  refine T_reg ?_
  refine T_x (Wx_box rfl rfl rfl (fun g1 => ?_))
  refine T_x (Wx_box rfl rfl rfl (fun g2 => ?_))
  refine T_x (Wx_alloc zer125 rfl (fun g3 => ?_))
  refine T_nil ?_
  refine T_next ?_
  refine T_seq ?_
  refine T_draw [0, 1, 0, 1, 0, 0, 1, 0, 1, 2, 0, 1, 0, 1, 2, 0, 3] [[], [0], [], [2], [0, 1, 2, 3], [], [5], [], [7], [5, 6, 7, 8], [], [10], [], [12], [5, 6, 7, 8, 9, 10, 11, 12, 13], [0, 1, 2, 3, 4, 5, 6, 7, 8, 9, 10, 11, 12, 13, 14], [0, 1, 2, 3, 4, 5, 6, 7, 8, 9, 10, 11, 12, 13, 14, 15]] (.q 0 (.q 1 (.q 2 (.q 3 (.q 4 (.q 5 (.q 6 (.q 7 (.q 8 (.q 10 (.q 11 (.q 12 (.q 13 (.e 9 (.e 14 (.q 15 (.e 16 (.done) (.stop))) (.stop)) (.stop))))))))))))))) mixed (by kernel_rfl) (by kernel_rfl) ?_
  refine P_p rfl rfl (Ev_field rfl fld125_0 rfl) rfl ?_
  refine P_q rfl rfl (Ev_load1 rfl (i := 2) rfl rfl one4) rfl ?_
  refine P_p rfl rfl (Ev_field rfl fld125_0 rfl) rfl ?_
  refine P_q rfl rfl (Ev_load1 rfl (i := 1) rfl rfl one4) rfl ?_
  refine P_p rfl rfl (Ev_neqB rfl rfl (by kernel_rfl)) rfl ?_
  refine P_p rfl rfl (Ev_field rfl fld125_1 rfl) rfl ?_
  refine P_q rfl rfl (Ev_load1 rfl (i := 2) rfl rfl one123) rfl ?_
  refine P_p rfl rfl (Ev_field rfl fld125_1 rfl) rfl ?_
  refine P_q rfl rfl (Ev_load1 rfl (i := 1) rfl rfl one123) rfl ?_
  refine P_p rfl rfl (Ev_field rfl fld125_2 rfl) rfl ?_
  refine P_q rfl rfl (Ev_load1 rfl (i := 2) rfl rfl one123) rfl ?_
  refine P_p rfl rfl (Ev_field rfl fld125_2 rfl) rfl ?_
  refine P_q rfl rfl (Ev_load1 rfl (i := 1) rfl rfl one123) rfl ?_
  obtain ⟨r4, h5, hx6⟩ := bnd_some hx
  refine P_x rfl (Wx_callL rfl (fun w1 hw1 => ratio_nat_mul_ok p0.n p1.n (Has.len' ha0') (Has.len' ha2') h5 w1 (okApp (K := K) (K2 := []) hK (by exact (SubE.cons2 (i := 3) rfl (SubE.nil))) (by exact (SubE.nil)) hw1)) rfl ?_) ?_
  rotate_left; exact P_stop
  rintro _ _ hlo ⟨A7, c8, e9, rfl, rfl, hs10, -⟩
  have lo11 := hlo e9 (by simp)
  refine T_app1 ?_
  have hs12 : Has (K ++ [e9]) _ _ _ _ _ _ := Has.assoc hs10
  obtain ⟨r13, h14, hx15⟩ := bnd_some hx6
  refine P_x rfl (Wx_callL rfl (fun w1 hw1 => ratio_nat_mul_ok p0.d p1.d (Has.len' ha1') (Has.len' ha3') h14 w1 (okApp (K := K) (K2 := []) hK (by exact (SubE.cons2 (i := 4) rfl (SubE.nil))) (by exact (SubE.nil)) hw1)) rfl ?_) ?_
  rotate_left; exact P_stop
  rintro _ _ hlo ⟨A16, c17, e18, rfl, rfl, hs19, -⟩
  have lo20 := hlo e18 (by simp)
  refine T_app1 ?_
  have hs21 : Has (K ++ [e18]) _ _ _ _ _ _ := Has.assoc hs19
  refine P_p rfl rfl (Ev_build rfl (bld125_0b1s2s _ _ _ _ _ _ _)) rfl ?_
  refine P_h rfl rfl (Wh_store rfl rfl rfl (.there (.there (.here))) (.put (.put (.put (.done)))) rfl (List.cons_ne_nil _ _) agg125.2 ?_) ?_
  rotate_left; exact P_stop
  refine P_done ?_
  refine T_next ?_
  refine T_retc ?_
  obtain rfl := Option.some.inj hx15
  exact T_retP (rs := [.cell 4 125]) Tryz.results95 (.cell rfl (i := 2) rfl rfl agg125 (.nil)) (Ln := [e9, e18]) ⟨A7, c8, A16, c17, e9, e18, rfl, rfl, Has.len' (Has.up (L := (K ++ [e9, e18])) hs12 (SubE.app2 (SubE.cons2 (i := 0) rfl (SubE.nil)))), Has.len' (Has.up (L := (K ++ [e9, e18])) hs21 (SubE.app2 (SubE.cons2 (i := 1) rfl (SubE.nil)))), trivial⟩ (loCons lo11 (loCons lo20 (loNil))) (by exact .pick 1 rfl (.pick 0 rfl (.drop 0 rfl (.drop 0 rfl (.drop 0 rfl (.refl))))))
set_option maxRecDepth 100000 in
theorem ratio_Num_Add_ok (p0 : S_ratio_Num) (p1 : S_ratio_Num) {K : List Ent} {A0_0 : Option Addr} {c0_0 : Nat} {A0_1 : Option Addr} {c0_1 : Nat} {A0_2 : Option Addr} {c0_2 : Nat} {A0_3 : Option Addr} {c0_3 : Nat} (ha0 : Has K A0_0 (p0.n).length c0_0 1 e_u32 (p0.n)) (ha1 : Has K A0_1 (p0.d).length c0_1 1 e_u32 (p0.d)) (ha2 : Has K A0_2 (p1.n).length c0_2 1 e_u32 (p1.n)) (ha3 : Has K A0_3 (p1.d).length c0_3 1 e_u32 (p1.d)) {r : S_ratio_Num} (hx : ratio_Num_Add p0 p1 = some r) (w : World) (hK : ∀ e ∈ K, Ent.ok w e) : CtL Tryz.prog 96 [.agg #[.bool (p0.neg), .slice (A0_0) ((p0.n).length) (c0_0), .slice (A0_1) ((p0.d).length) (c0_1)], .agg #[.bool (p1.neg), .slice (A0_2) ((p1.n).length) (c0_2), .slice (A0_3) ((p1.d).length) (c0_3)]] w fun v Ln => ∃ (A0 : Option Addr) (c0 : Nat) (A2 : Option Addr) (c2 : Nat) (e0 : Ent) (e1 : Ent) (e2 : Ent) (e3 : Ent), v = .agg #[.bool (r.neg), .slice (A0) ((r.n).length) (c0), .slice (A2) ((r.d).length) (c2)] ∧ Ln = [e0, e1, e2, e3] ∧ Has (K ++ [e0, e1, e2, e3]) A0 (r.n).length c0 1 e_u32 (r.n) ∧ Has (K ++ [e0, e1, e2, e3]) A2 (r.d).length c2 1 e_u32 (r.d) ∧ True := by
  have ha0' := Has.up0 ha0
  have ha1' := Has.up0 ha1
  have ha2' := Has.up0 ha2
  have ha3' := Has.up0 ha3
  refine CtL.mk 53 Tryz.func96 rfl Tryz.ntmps96 (by kernel_rfl) rfl ?_
  show T 53 _ [(0, .agg #[.bool (p0.neg), .slice (A0_0) ((p0.n).length) (c0_0), .slice (A0_1) ((p0.d).length) (c0_1)]), (1, .agg #[.bool (p1.neg), .slice (A0_2) ((p1.n).length) (c0_2), .slice (A0_3) ((p1.d).length) (c0_3)])] _
  unfold ratio_Num_Add at hx
  refine T_seq ?_
  refine T_reg ?_
  refine T_x (Wx_box rfl rfl rfl (fun g1 => ?_))
  refine T_x (Wx_box rfl rfl rfl (fun g2 => ?_))
  refine T_x (Wx_alloc zer125 rfl (fun g3 => ?_))
  refine T_nil ?_
  refine T_next ?_
  refine T_seq ?_
  refine T_draw [0, 1, 0, 1, 2, 0, 1, 0, 1, 2, 2, 2] [[], [0], [], [2], [0, 1, 2, 3], [], [5], [], [7], [0, 1, 2, 3, 4, 5, 6, 7, 8], [0, 1, 2, 3, 4, 5, 6, 7, 8, 9], [0, 1, 2, 3, 4, 5, 6, 7, 8, 9, 10]] (.q 0 (.q 1 (.q 2 (.q 3 (.q 5 (.q 6 (.q 7 (.q 8 (.e 4 (.e 9 (.e 10 (.e 11 (.done) (.stop)) (.stop)) (.stop)) (.stop)))))))))) mixed (by kernel_rfl) (by kernel_rfl) ?_
  refine P_p rfl rfl (Ev_field rfl fld125_1 rfl) rfl ?_
  refine P_q rfl rfl (Ev_load1 rfl (i := 2) rfl rfl one123) rfl ?_
  refine P_p rfl rfl (Ev_field rfl fld125_2 rfl) rfl ?_
  refine P_q rfl rfl (Ev_load1 rfl (i := 1) rfl rfl one123) rfl ?_
  refine P_p rfl rfl (Ev_field rfl fld125_1 rfl) rfl ?_
  refine P_q rfl rfl (Ev_load1 rfl (i := 1) rfl rfl one123) rfl ?_
  refine P_p rfl rfl (Ev_field rfl fld125_2 rfl) rfl ?_
  refine P_q rfl rfl (Ev_load1 rfl (i := 2) rfl rfl one123) rfl ?_
  obtain ⟨r4, h5, hx6⟩ := bnd_some hx
  refine P_x rfl (Wx_callL rfl (fun w1 hw1 => ratio_nat_mul_ok p0.n p1.d (Has.len' ha0') (Has.len' ha3') h5 w1 (okApp (K := K) (K2 := []) hK (by exact (SubE.cons2 (i := 3) rfl (SubE.nil))) (by exact (SubE.nil)) hw1)) rfl ?_) ?_
  rotate_left; exact P_stop
  rintro _ _ hlo ⟨A7, c8, e9, rfl, rfl, hs10, -⟩
  have lo11 := hlo e9 (by simp)
  refine T_app1 ?_
  have hs12 : Has (K ++ [e9]) _ _ _ _ _ _ := Has.assoc hs10
  obtain ⟨r13, h14, hx15⟩ := bnd_some hx6
  refine P_x rfl (Wx_callL rfl (fun w1 hw1 => ratio_nat_mul_ok p1.n p0.d (Has.len' ha2') (Has.len' ha1') h14 w1 (okApp (K := K) (K2 := []) hK (by exact (SubE.cons2 (i := 4) rfl (SubE.nil))) (by exact (SubE.nil)) hw1)) rfl ?_) ?_
  rotate_left; exact P_stop
  rintro _ _ hlo ⟨A16, c17, e18, rfl, rfl, hs19, -⟩
  have lo20 := hlo e18 (by simp)
  refine T_app1 ?_
  have hs21 : Has (K ++ [e18]) _ _ _ _ _ _ := Has.assoc hs19
  refine P_x rfl (Wx_val (Ev_assign rfl) rfl ?_) ?_
  rotate_left; exact P_stop
  refine P_x rfl (Wx_val (Ev_assign rfl) rfl ?_) ?_
  rotate_left; exact P_stop
  refine P_done ?_
  refine T_next ?_
  refine T_seq ?_
  refine T_reg ?_
  refine T_val (Ev_field rfl fld125_2 rfl) rfl ?_
  refine T_val (Ev_load1 rfl (i := 4) rfl rfl one123) rfl ?_
  refine T_val (Ev_field rfl fld125_2 rfl) rfl ?_
  refine T_val (Ev_load1 rfl (i := 3) rfl rfl one123) rfl ?_
  obtain ⟨r22, h23, hx24⟩ := bnd_some hx15
  refine T_x (Wx_callL rfl (fun w1 hw1 => ratio_nat_mul_ok p0.d p1.d (Has.len' ha1') (Has.len' ha3') h23 w1 (okApp (K := K) (K2 := []) hK (by exact (SubE.cons2 (i := 5) rfl (SubE.nil))) (by exact (SubE.nil)) hw1)) rfl ?_)
  rintro _ _ hlo ⟨A25, c26, e27, rfl, rfl, hs28, -⟩
  have lo29 := hlo e27 (by simp)
  refine T_app1 ?_
  have hs30 : Has (K ++ [e27]) _ _ _ _ _ _ := Has.assoc hs28
  refine T_val (Ev_assign rfl) rfl ?_
  refine T_nil ?_
  refine T_next ?_
  refine T_seq ?_
  refine T_seq ?_
  refine T_reg ?_
  refine T_val (Ev_field rfl fld125_0 rfl) rfl ?_
  refine T_val (Ev_load1 rfl (i := 5) rfl rfl one4) rfl ?_
  refine T_val (Ev_field rfl fld125_0 rfl) rfl ?_
  refine T_val (Ev_load1 rfl (i := 4) rfl rfl one4) rfl ?_
  refine T_val (Ev_eqlB rfl rfl (by kernel_rfl)) rfl ?_
  refine T_nil ?_
  refine T_next ?_
  refine T_caseB (s := 27) rfl (fun h31 => ?_) (fun h31 => ?_)
  · have hx32 := ite_t h31 hx24
    refine T_condT rfl ?_
    refine T_seq ?_
    refine T_draw [0, 1, 0, 0, 2, 0, 0, 3] [[], [0], [], [], [2, 3], [], [0, 1, 2, 3, 4, 5], [0, 1, 2, 3, 4, 5, 6]] (.q 0 (.q 1 (.q 2 (.q 3 (.q 5 (.e 4 (.q 6 (.e 7 (.done) (.stop))) (.stop))))))) mixed (by kernel_rfl) (by kernel_rfl) ?_
    refine P_p rfl rfl (Ev_field rfl fld125_0 rfl) rfl ?_
    refine P_q rfl rfl (Ev_load1 rfl (i := 5) rfl rfl one4) rfl ?_
    refine P_p rfl rfl (Ev_move rfl) rfl ?_
    refine P_p rfl rfl (Ev_move rfl) rfl ?_
    refine P_p rfl rfl (Ev_move rfl) rfl ?_
    obtain ⟨r33, h34, hx35⟩ := bnd_some hx32
    refine P_x rfl (Wx_callL rfl (fun w1 hw1 => ratio_nat_add_ok r4 r13 (Has.len' (Has.up (L := (K ++ [e9, e18])) hs12 (SubE.app2 (SubE.cons2 (i := 0) rfl (SubE.nil))))) (Has.len' (Has.up (L := (K ++ [e9, e18])) hs21 (SubE.app2 (SubE.cons2 (i := 1) rfl (SubE.nil))))) h34 w1 (okApp (K := K) (K2 := [e9, e18]) hK (by exact (SubE.cons2 (i := 6) rfl (SubE.nil))) (by exact (SubE.cons2 (i := 2) rfl (SubE.cons2 (i := 1) rfl (SubE.nil)))) hw1)) rfl ?_) ?_
    rotate_left; exact P_stop
    rintro _ _ hlo ⟨A36, c37, e38, rfl, rfl, hs39, -⟩
    have lo40 := hlo e38 (by simp)
    refine T_app1 ?_
    have hs41 : Has (K ++ [e9, e18, e38]) _ _ _ _ _ _ := Has.assoc hs39
    refine P_p rfl rfl (Ev_build rfl (bld125_0b1s2s _ _ _ _ _ _ _)) rfl ?_
    refine P_h rfl rfl (Wh_store rfl rfl rfl (.there (.there (.there (.there (.here))))) (.put (.put (.put (.done)))) rfl (List.cons_ne_nil _ _) agg125.2 ?_) ?_
    rotate_left; exact P_stop
    refine P_done ?_
    refine T_next ?_
    refine T_retc ?_
    refine T_outR ?_
    obtain rfl := Option.some.inj hx35
    exact T_retP (rs := [.cell 4 125]) Tryz.results96 (.cell rfl (i := 4) rfl rfl agg125 (.nil)) (Ln := [e9, e18, e38, e27]) ⟨A36, c37, A25, c26, e9, e18, e38, e27, rfl, rfl, Has.len' (Has.up (L := (K ++ [e9, e18, e38, e27])) hs41 (SubE.app2 (SubE.cons2 (i := 0) rfl (SubE.cons2 (i := 1) rfl (SubE.cons2 (i := 2) rfl (SubE.nil)))))), Has.len' (Has.up (L := (K ++ [e9, e18, e38, e27])) hs30 (SubE.app2 (SubE.cons2 (i := 3) rfl (SubE.nil)))), trivial⟩ (loCons lo11 (loCons lo20 (loCons lo40 (loCons lo29 (loNil))))) (by exact .pick 3 rfl (.pick 2 rfl (.pick 0 rfl (.pick 0 rfl (.drop 0 rfl (.drop 0 rfl (.drop 0 rfl (.refl))))))))
  · have hx42 := ite_bf h31 hx24
    refine T_condF rfl ?_
    refine T_skip ?_
    refine T_next ?_
    refine T_seq ?_
    refine T_seq ?_
    refine T_reg ?_
    refine T_val (Ev_move rfl) rfl ?_
    refine T_val (Ev_move rfl) rfl ?_
    obtain ⟨r43, h44, hx45⟩ := bnd_some hx42
    refine T_x (Wx_callL rfl (fun w1 hw1 => ratio_nat_cmp_ok r4 r13 (Has.len' (Has.up (L := (K ++ [e9, e18])) hs12 (SubE.app2 (SubE.cons2 (i := 0) rfl (SubE.nil))))) (Has.len' (Has.up (L := (K ++ [e9, e18])) hs21 (SubE.app2 (SubE.cons2 (i := 1) rfl (SubE.nil))))) h44 w1 (okApp (K := K) (K2 := [e9, e18]) hK (by exact (SubE.cons2 (i := 6) rfl (SubE.nil))) (by exact (SubE.cons2 (i := 2) rfl (SubE.cons2 (i := 1) rfl (SubE.nil)))) hw1)) rfl ?_)
    rintro _ _ hlo ⟨rfl, rfl, -⟩
    refine T_app0 ?_
    refine T_val (Ev_geq rfl rfl) rfl ?_
    refine T_nil ?_
    refine T_next ?_
    refine T_caseP (s := 38) rfl (fun h46 => ?_) (fun h46 => ?_)
    · have hx47 := ite_t h46 hx45
      refine T_condT rfl ?_
      refine T_seq ?_
      refine T_draw [0, 1, 0, 0, 2, 0, 0, 3] [[], [0], [], [], [2, 3], [], [0, 1, 2, 3, 4, 5], [0, 1, 2, 3, 4, 5, 6]] (.q 0 (.q 1 (.q 2 (.q 3 (.q 5 (.e 4 (.q 6 (.e 7 (.done) (.stop))) (.stop))))))) mixed (by kernel_rfl) (by kernel_rfl) ?_
      refine P_p rfl rfl (Ev_field rfl fld125_0 rfl) rfl ?_
      refine P_q rfl rfl (Ev_load1 rfl (i := 5) rfl rfl one4) rfl ?_
      refine P_p rfl rfl (Ev_move rfl) rfl ?_
      refine P_p rfl rfl (Ev_move rfl) rfl ?_
      refine P_p rfl rfl (Ev_move rfl) rfl ?_
      obtain ⟨r48, h49, hx50⟩ := bnd_some hx47
      refine P_x rfl (Wx_callL rfl (fun w1 hw1 => ratio_nat_sub_ok r4 r13 (Has.len' (Has.up (L := (K ++ [e9, e18])) hs12 (SubE.app2 (SubE.cons2 (i := 0) rfl (SubE.nil))))) (Has.len' (Has.up (L := (K ++ [e9, e18])) hs21 (SubE.app2 (SubE.cons2 (i := 1) rfl (SubE.nil))))) h49 w1 (okApp (K := K) (K2 := [e9, e18]) hK (by exact (SubE.cons2 (i := 6) rfl (SubE.nil))) (by exact (SubE.cons2 (i := 2) rfl (SubE.cons2 (i := 1) rfl (SubE.nil)))) hw1)) rfl ?_) ?_
      rotate_left; exact P_stop
      rintro _ _ hlo ⟨A51, c52, e53, rfl, rfl, hs54, -⟩
      have lo55 := hlo e53 (by simp)
      refine T_app1 ?_
      have hs56 : Has (K ++ [e9, e18, e53]) _ _ _ _ _ _ := Has.assoc hs54
      refine P_p rfl rfl (Ev_build rfl (bld125_0b1s2s _ _ _ _ _ _ _)) rfl ?_
      refine P_h rfl rfl (Wh_store rfl rfl rfl (.there (.there (.there (.there (.here))))) (.put (.put (.put (.done)))) rfl (List.cons_ne_nil _ _) agg125.2 ?_) ?_
      rotate_left; exact P_stop
      refine P_done ?_
      refine T_next ?_
      refine T_retc ?_
      refine T_outR ?_
      obtain rfl := Option.some.inj hx50
      exact T_retP (rs := [.cell 4 125]) Tryz.results96 (.cell rfl (i := 4) rfl rfl agg125 (.nil)) (Ln := [e9, e18, e53, e27]) ⟨A51, c52, A25, c26, e9, e18, e53, e27, rfl, rfl, Has.len' (Has.up (L := (K ++ [e9, e18, e53, e27])) hs56 (SubE.app2 (SubE.cons2 (i := 0) rfl (SubE.cons2 (i := 1) rfl (SubE.cons2 (i := 2) rfl (SubE.nil)))))), Has.len' (Has.up (L := (K ++ [e9, e18, e53, e27])) hs30 (SubE.app2 (SubE.cons2 (i := 3) rfl (SubE.nil)))), trivial⟩ (loCons lo11 (loCons lo20 (loCons lo55 (loCons lo29 (loNil))))) (by exact .pick 3 rfl (.pick 2 rfl (.pick 0 rfl (.pick 0 rfl (.drop 0 rfl (.drop 0 rfl (.drop 0 rfl (.refl))))))))
    · have hx57 := ite_f h46 hx45
      refine T_condF rfl ?_
      refine T_skip ?_
      refine T_next ?_
      refine T_seq ?_
      refine T_draw [0, 1, 0, 0, 2, 0, 0, 3] [[], [0], [], [], [2, 3], [], [0, 1, 2, 3, 4, 5], [0, 1, 2, 3, 4, 5, 6]] (.q 0 (.q 1 (.q 2 (.q 3 (.q 5 (.e 4 (.q 6 (.e 7 (.done) (.stop))) (.stop))))))) mixed (by kernel_rfl) (by kernel_rfl) ?_
      refine P_p rfl rfl (Ev_field rfl fld125_0 rfl) rfl ?_
      refine P_q rfl rfl (Ev_load1 rfl (i := 4) rfl rfl one4) rfl ?_
      refine P_p rfl rfl (Ev_move rfl) rfl ?_
      refine P_p rfl rfl (Ev_move rfl) rfl ?_
      refine P_p rfl rfl (Ev_move rfl) rfl ?_
      obtain ⟨r58, h59, hx60⟩ := bnd_some hx57
      refine P_x rfl (Wx_callL rfl (fun w1 hw1 => ratio_nat_sub_ok r13 r4 (Has.len' (Has.up (L := (K ++ [e18, e9])) hs21 (SubE.app2 (SubE.cons2 (i := 0) rfl (SubE.nil))))) (Has.len' (Has.up (L := (K ++ [e18, e9])) hs12 (SubE.app2 (SubE.cons2 (i := 1) rfl (SubE.nil))))) h59 w1 (okApp (K := K) (K2 := [e18, e9]) hK (by exact (SubE.cons2 (i := 6) rfl (SubE.nil))) (by exact (SubE.cons2 (i := 1) rfl (SubE.cons2 (i := 2) rfl (SubE.nil)))) hw1)) rfl ?_) ?_
      rotate_left; exact P_stop
      rintro _ _ hlo ⟨A61, c62, e63, rfl, rfl, hs64, -⟩
      have lo65 := hlo e63 (by simp)
      refine T_app1 ?_
      have hs66 : Has (K ++ [e18, e9, e63]) _ _ _ _ _ _ := Has.assoc hs64
      refine P_p rfl rfl (Ev_build rfl (bld125_0b1s2s _ _ _ _ _ _ _)) rfl ?_
      refine P_h rfl rfl (Wh_store rfl rfl rfl (.there (.there (.there (.there (.here))))) (.put (.put (.put (.done)))) rfl (List.cons_ne_nil _ _) agg125.2 ?_) ?_
      rotate_left; exact P_stop
      refine P_done ?_
      refine T_next ?_
      refine T_retc ?_
      obtain rfl := Option.some.inj hx60
      exact T_retP (rs := [.cell 4 125]) Tryz.results96 (.cell rfl (i := 4) rfl rfl agg125 (.nil)) (Ln := [e18, e9, e63, e27]) ⟨A61, c62, A25, c26, e18, e9, e63, e27, rfl, rfl, Has.len' (Has.up (L := (K ++ [e18, e9, e63, e27])) hs66 (SubE.app2 (SubE.cons2 (i := 0) rfl (SubE.cons2 (i := 1) rfl (SubE.cons2 (i := 2) rfl (SubE.nil)))))), Has.len' (Has.up (L := (K ++ [e18, e9, e63, e27])) hs30 (SubE.app2 (SubE.cons2 (i := 3) rfl (SubE.nil)))), trivial⟩ (loCons lo20 (loCons lo11 (loCons lo65 (loCons lo29 (loNil))))) (by exact .pick 2 rfl (.pick 2 rfl (.pick 0 rfl (.pick 0 rfl (.drop 0 rfl (.drop 0 rfl (.drop 0 rfl (.refl))))))))
set_option maxRecDepth 100000 in
theorem ratio_Num_Sign_ok (p0 : S_ratio_Num) {K : List Ent} {A0_0 : Option Addr} {c0_0 : Nat} {A0_1 : Option Addr} {c0_1 : Nat} (ha0 : Has K A0_0 (p0.n).length c0_0 1 e_u32 (p0.n)) (ha1 : Has K A0_1 (p0.d).length c0_1 1 e_u32 (p0.d)) {r : Int} (hx : ratio_Num_Sign p0 = some r) (w : World) (hK : ∀ e ∈ K, Ent.ok w e) : CtL Tryz.prog 97 [.agg #[.bool (p0.neg), .slice (A0_0) ((p0.n).length) (c0_0), .slice (A0_1) ((p0.d).length) (c0_1)]] w fun v Ln => v = .int .i64 (r) ∧ Ln = [] ∧ True := by
  have ha0' := Has.up0 ha0
  have ha1' := Has.up0 ha1
  refine CtL.mk 11 Tryz.func97 rfl Tryz.ntmps97 (by kernel_rfl) rfl ?_
  show T 11 _ [(0, .agg #[.bool (p0.neg), .slice (A0_0) ((p0.n).length) (c0_0), .slice (A0_1) ((p0.d).length) (c0_1)])] _
  unfold ratio_Num_Sign at hx
  refine T_seq ?_
  refine T_reg ?_
  refine T_x (Wx_box rfl rfl rfl (fun g1 => ?_))
  refine T_val (Ev_assign rfl) rfl ?_
  refine T_nil ?_
  refine T_next ?_
  refine T_seq ?_
  refine T_block ?_
  refine T_seq ?_
  refine T_reg ?_
  refine T_val (Ev_field rfl fld125_1 rfl) rfl ?_
  refine T_val (Ev_load1 rfl (i := 0) rfl rfl one123) rfl ?_
  refine T_val (Ev_len rfl 141 Tryz.underlying123) rfl ?_
  refine T_val (Ev_eql rfl rfl) rfl ?_
  refine T_val (Ev_assign rfl) rfl ?_
  refine T_nil ?_
  refine T_next ?_
  refine T_caseP (s := 3) rfl (fun h2 => ?_) (fun h2 => ?_)
  · have hx3 := ite_t h2 hx
    refine T_condT rfl ?_
    refine T_seq ?_
    refine T_reg ?_
    refine T_val (Ev_assign rfl) rfl ?_
    refine T_nil ?_
    refine T_next ?_
    refine T_retc ?_
    refine T_inR ?_
    refine T_outR ?_
    obtain rfl := Option.some.inj hx3
    exact T_retP (rs := [.tmp 2]) Tryz.results97 (.tmp rfl (.nil)) (Ln := []) ⟨rfl, rfl, trivial⟩ (loNil) (by exact .drop 0 rfl (.refl))
  · have hx4 := ite_f h2 hx
    refine T_condF rfl ?_
    refine T_seq ?_
    refine T_reg ?_
    refine T_val (Ev_field rfl fld125_0 rfl) rfl ?_
    refine T_val (Ev_load1 rfl (i := 0) rfl rfl one4) rfl ?_
    refine T_val (Ev_assign rfl) rfl ?_
    refine T_nil ?_
    refine T_next ?_
    refine T_caseB (s := 8) rfl (fun h5 => ?_) (fun h5 => ?_)
    · have hx6 := ite_t h5 hx4
      refine T_condT rfl ?_
      refine T_seq ?_
      refine T_reg ?_
      refine T_val (Ev_assign rfl) rfl ?_
      refine T_nil ?_
      refine T_next ?_
      refine T_retc ?_
      refine T_inR ?_
      refine T_outR ?_
      obtain rfl := Option.some.inj hx6
      exact T_retP (rs := [.tmp 2]) Tryz.results97 (.tmp rfl (.nil)) (Ln := []) ⟨rfl, rfl, trivial⟩ (loNil) (by exact .drop 0 rfl (.refl))
    · have hx7 := ite_bf h5 hx4
      refine T_condF rfl ?_
      refine T_skip ?_
      refine T_inN ?_
      refine T_next ?_
      refine T_seq ?_
      refine T_reg ?_
      refine T_val (Ev_assign rfl) rfl ?_
      refine T_nil ?_
      refine T_next ?_
      refine T_retc ?_
      obtain rfl := Option.some.inj hx7
      exact T_retP (rs := [.tmp 2]) Tryz.results97 (.tmp rfl (.nil)) (Ln := []) ⟨rfl, rfl, trivial⟩ (loNil) (by exact .drop 0 rfl (.refl))
set_option maxRecDepth 100000 in
theorem ratio_Int_ok (p0 : Int)  {r : S_ratio_Num} (hx : ratio_Int p0 = some r) (w : World) : CtL Tryz.prog 93 [.int .i64 (p0)] w fun v Ln => ∃ (A0 : Option Addr) (c0 : Nat) (A2 : Option Addr) (c2 : Nat) (e0 : Ent), v = .agg #[.bool (r.neg), .slice (A0) ((r.n).length) (c0), .slice (A2) ((r.d).length) (c2)] ∧ Ln = [.r A2 (r.d).length c2 141 1 ((r.d).flatMap e_u32), e0] ∧ Has ([e0] : List Ent) A0 (r.n).length c0 1 e_u32 (r.n) ∧ True := by
  refine CtL.mk 18 Tryz.func93 rfl Tryz.ntmps93 (by kernel_rfl) rfl ?_
  show T 18 _ [(0, .int .i64 (p0))] _
  unfold ratio_Int at hx
  refine T_seq ?_
  refine T_reg ?_
  refine T_x (Wx_alloc zer125 rfl (fun g1 => ?_))
  refine T_nil ?_
  refine T_next ?_
  refine T_seq ?_
  refine T_seq ?_
  refine T_reg ?_
  refine T_val (Ev_move rfl) rfl ?_
  refine T_val (Ev_lss rfl rfl) rfl ?_
  refine T_nil ?_
  refine T_next ?_
  refine T_caseP (s := 4) rfl (fun h2 => ?_) (fun h2 => ?_)
  · have hx3 := ite_t h2 hx
    refine T_condT rfl ?_
    refine T_seq ?_
    refine T_reg ?_
    refine T_val (Ev_move rfl) rfl ?_
    refine T_val (Ev_add_w64 rfl rfl) rfl ?_
    refine T_val (Ev_neg_w64 rfl) rfl ?_
    refine T_val (Ev_conv_wu64 rfl (by kernel_rfl) Tryz.underlying143) rfl ?_
    refine T_val (Ev_add_wu64 rfl rfl) rfl ?_
    obtain ⟨r4, h5, hx6⟩ := bnd_some hx3
    refine T_x (Wx_callL rfl (fun w1 hw1 => ratio_natOf_ok (wu64 ((wu64 (w64 (-(w64 (p0 + 1))))) + 1))  h5 w1) rfl ?_)
    rintro _ _ hlo ⟨A7, c8, e9, rfl, rfl, hs10, -⟩
    have lo11 := hlo e9 (by simp)
    refine T_app1 ?_
    refine T_x (Wx_buildSlice rfl (bls123_1_0u32 _) rfl (fun g12 => ?_))
    refine T_val (Ev_build rfl (bld125_0b1s2s _ _ _ _ _ _ _)) rfl ?_
    refine T_h (Wh_store rfl rfl rfl (.there (.there (.here))) (.put (.put (.put (.done)))) rfl (List.cons_ne_nil _ _) agg125.2 ?_)
    refine T_nil ?_
    refine T_next ?_
    refine T_retc ?_
    refine T_outR ?_
    refine T_mr (enc := e_u32) (sz := 1) ([1]) (.here) rfl rfl (fun _ => rfl) (by show 1 ≤ maxLen; decide) ?_
    have hn13 : 1 = ([1]).length := by simp [setI_len, cpy_len, List.length_append] <;> omega
    refine T_ent (.here) (e' := .r (some ⟨g12, 0, none⟩) (([1]).length) (1) 141 1 (([1]).flatMap e_u32)) (by first | (rw [← hn13]; done) | rfl) ?_
    refine T_ent (.there (.there (.here))) (e' := .m g1 125 [.bool (true), .slice (A7) ((r4).length) (c8), .slice (some ⟨g12, 0, none⟩) (([1]).length) (1)]) (by first | (rw [show (1) = ([1]).length from (by simp [setI_len, cpy_len, List.length_append] <;> omega)]; done) | rfl) ?_
    obtain rfl := Option.some.inj hx6
    exact T_retP (rs := [.cell 2 125]) Tryz.results93 (.cell rfl (i := 2) rfl rfl agg125 (.nil)) (Ln := [.r (some ⟨g12, 0, none⟩) (([1]).length) (1) 141 1 (([1]).flatMap e_u32), e9]) ⟨A7, c8, (some ⟨g12, 0, none⟩), 1, e9, rfl, rfl, Has.len' hs10, trivial⟩ (loCons rfl (loCons lo11 (loNil))) (by exact .pick 0 rfl (.pick 0 rfl (.drop 0 rfl (.refl))))
  · have hx14 := ite_f h2 hx
    refine T_condF rfl ?_
    refine T_skip ?_
    refine T_next ?_
    refine T_seq ?_
    refine T_reg ?_
    refine T_val (Ev_move rfl) rfl ?_
    refine T_val (Ev_conv_wu64 rfl (by kernel_rfl) Tryz.underlying143) rfl ?_
    obtain ⟨r15, h16, hx17⟩ := bnd_some hx14
    refine T_x (Wx_callL rfl (fun w1 hw1 => ratio_natOf_ok (wu64 (p0))  h16 w1) rfl ?_)
    rintro _ _ hlo ⟨A18, c19, e20, rfl, rfl, hs21, -⟩
    have lo22 := hlo e20 (by simp)
    refine T_app1 ?_
    refine T_x (Wx_buildSlice rfl (bls123_1_0u32 _) rfl (fun g23 => ?_))
    refine T_val (Ev_build rfl (bld125_0b1s2s _ _ _ _ _ _ _)) rfl ?_
    refine T_h (Wh_store rfl rfl rfl (.there (.there (.here))) (.put (.put (.put (.done)))) rfl (List.cons_ne_nil _ _) agg125.2 ?_)
    refine T_nil ?_
    refine T_next ?_
    refine T_retc ?_
    refine T_mr (enc := e_u32) (sz := 1) ([1]) (.here) rfl rfl (fun _ => rfl) (by show 1 ≤ maxLen; decide) ?_
    have hn24 : 1 = ([1]).length := by simp [setI_len, cpy_len, List.length_append] <;> omega
    refine T_ent (.here) (e' := .r (some ⟨g23, 0, none⟩) (([1]).length) (1) 141 1 (([1]).flatMap e_u32)) (by first | (rw [← hn24]; done) | rfl) ?_
    refine T_ent (.there (.there (.here))) (e' := .m g1 125 [.bool (false), .slice (A18) ((r15).length) (c19), .slice (some ⟨g23, 0, none⟩) (([1]).length) (1)]) (by first | (rw [show (1) = ([1]).length from (by simp [setI_len, cpy_len, List.length_append] <;> omega)]; done) | rfl) ?_
    obtain rfl := Option.some.inj hx17
    exact T_retP (rs := [.cell 2 125]) Tryz.results93 (.cell rfl (i := 2) rfl rfl agg125 (.nil)) (Ln := [.r (some ⟨g23, 0, none⟩) (([1]).length) (1) 141 1 (([1]).flatMap e_u32), e20]) ⟨A18, c19, (some ⟨g23, 0, none⟩), 1, e20, rfl, rfl, Has.len' hs21, trivial⟩ (loCons rfl (loCons lo22 (loNil))) (by exact .pick 0 rfl (.pick 0 rfl (.drop 0 rfl (.refl))))
set_option maxRecDepth 100000 in
theorem exact_inside_ok (p0 : List S_api_XY) {K : List Ent} {A0_0 : Option Addr} {c0_0 : Nat} (ha0 : Has K A0_0 (p0).length c0_0 2 e_api_XY (p0)) {r : Bool} (hx : exact_inside p0 = some r) (w : World) (hK : ∀ e ∈ K, Ent.ok w e) : CtL Tryz.prog 77 [.slice (A0_0) ((p0).length) (c0_0)] w fun v Ln => v = .bool (r) ∧ Ln = [] ∧ True := by
  have ha0' := Has.up0 ha0
  refine CtL.mk 30 Tryz.func77 rfl Tryz.ntmps77 (by kernel_rfl) rfl ?_
  show T 30 _ [(0, .slice (A0_0) ((p0).length) (c0_0))] _
  unfold exact_inside at hx
  refine T_seq ?_
  refine T_reg ?_
  refine T_val (Ev_assign rfl) rfl ?_
  refine T_nil ?_
  refine T_next ?_
  obtain ⟨j2, hj2, hx⟩ := jn_some hx
  refine T_cutP (τ := Unit) (γ := Unit) (J := j2) (out := r) (fun s2 y2 => []) (fun s2 y2 => [] ++ [.old w]) (fun s2 y2 => True) ?_ ?_
  · intro s2 y2 hx61 hG62
    subst hj2
    refine T_seq ?_
    refine T_reg ?_
    refine T_val (Ev_assign rfl) rfl ?_
    refine T_nil ?_
    refine T_next ?_
    refine T_retc ?_
    obtain rfl := Option.some.inj hx61
    exact T_retP (rs := [.tmp 2]) Tryz.results77 (.tmp rfl (.nil)) (Ln := []) ⟨rfl, rfl, trivial⟩ (loNil) (by exact .refl)
  · skip
    refine T_seq ?_
    refine T_reg ?_
    refine T_val (Ev_move rfl) rfl ?_
    refine T_val (Ev_len rfl 38 Tryz.underlying84) rfl ?_
    refine T_val (Ev_move rfl) rfl ?_
    refine T_nil ?_
    refine T_next ?_
    refine T_block ?_
    obtain ⟨t31, hl31, ho31⟩ := bnd_some hx
    refine T_loopP (σ := Int) (γ := Unit) hl31 (fun s31 y31 => [(5, .slice (A0_0) ((p0).length) (c0_0)), (6, .int .i64 ((((p0).length : Nat) : Int))), (7, .int .i64 (s31))]) (fun s31 y31 => [] ++ [.old w]) (fun s31 y31 => True) () trivial (by exact .cons rfl (.cons rfl (.cons rfl (.nil)))) (by exact .refl) ?_
    intro s31 y31 hG31 x31 hx31 ht31
    unfold exact_inside_l2 at hx31
    refine T_seq ?_
    refine T_reg ?_
    refine T_val (Ev_lss rfl rfl) rfl ?_
    refine T_nil ?_
    refine T_next ?_
    refine T_seq ?_
    refine T_caseP (s := 8) rfl (fun h32 => ?_) (fun h32 => ?_)
    · have hx33 := ite_t h32 hx31
      refine T_condT rfl ?_
      refine T_skip ?_
      refine T_next ?_
      refine T_seq ?_
      refine T_block ?_
      refine T_seq ?_
      refine T_reg ?_
      obtain ⟨x35, h36, hx37⟩ := bnd_some hx33
      have hw45 := Has.low (E := []) ha0' hK
      obtain ⟨b38, o39, j40, hA41, hj42, hl43, hp44⟩ := Has.at_idx hw45 h36
      refine T_val (Ev_index rfl rfl hA41 (j := j40) hj42 hl43 slc84) rfl ?_
      refine T_val (Ev_loadPK0 rfl hp44 (SubE.cons2 (i := 0) rfl (SubE.nil)) rfl agg38) rfl ?_
      refine T_x (Wx_alloc zer38 rfl (fun g46 => ?_))
      refine T_h (Wh_store rfl rfl rfl (.here) (.put (.put (.done))) rfl (List.cons_ne_nil _ _) agg38.2 ?_)
      refine T_nil ?_
      refine T_next ?_
      obtain ⟨j14, hj14, hx37⟩ := jn_some hx37
      refine T_cutP (τ := Bool) (γ := Unit) (J := j14) (out := x31) (fun s14 y14 => [(5, .slice (A0_0) ((p0).length) (c0_0)), (6, .int .i64 ((((p0).length : Nat) : Int))), (7, .int .i64 (s31)), (28, .bool (s14))]) (fun s14 y14 => [] ++ [.old w]) (fun s14 y14 => True) ?_ ?_
      · intro s14 y14 hx56 hG57
        subst hj14
        refine T_caseB (s := 28) rfl (fun h58 => ?_) (fun h58 => ?_)
        · have hx59 := ite_t h58 hx56
          refine T_condT rfl ?_
          refine T_seq ?_
          refine T_reg ?_
          refine T_val (Ev_assign rfl) rfl ?_
          refine T_nil ?_
          refine T_next ?_
          refine T_retc ?_
          refine T_inR ?_
          refine T_outR ?_
          obtain rfl := exit_eq ht31 hx59
          refine T_outR ?_
          refine T_inR ?_
          refine T_outR ?_
          obtain rfl := Option.some.inj ho31
          exact T_retP (rs := [.tmp 2]) Tryz.results77 (.tmp rfl (.nil)) (Ln := []) ⟨rfl, rfl, trivial⟩ (loNil) (by exact .refl)
        · have hx60 := ite_bf h58 hx56
          refine T_condF rfl ?_
          refine T_skip ?_
          refine T_inN ?_
          refine T_next ?_
          refine T_reg ?_
          refine T_val (Ev_add_w64 rfl rfl) rfl ?_
          refine T_val (Ev_move rfl) rfl ?_
          refine T_nil ?_
          exact T_roundP (w64 (s31 + 1)) () hx60 trivial (by exact .cons rfl (.cons rfl (.cons rfl (.nil)))) (by exact .refl)
      · skip
        refine T_reg ?_
        refine T_val (Ev_field rfl fld38_0 rfl) rfl ?_
        refine T_val (Ev_load1 rfl (i := 0) rfl rfl one3) rfl ?_
        refine T_val (Ev_lss rfl rfl) rfl ?_
        refine T_val (Ev_move rfl) rfl ?_
        refine T_caseP (s := 14) rfl (fun h47 => ?_) (fun h47 => ?_)
        · have hx48 := ite_t h47 hx37
          refine T_skipG rfl rfl rfl rfl rfl ?_
          refine T_skipG rfl rfl rfl rfl rfl ?_
          refine T_skipG rfl rfl rfl rfl rfl ?_
          refine T_val (Ev_pickT rfl rfl) rfl ?_
          refine T_val (Ev_move rfl) rfl ?_
          refine T_skipG rfl rfl rfl rfl rfl ?_
          refine T_skipG rfl rfl rfl rfl rfl ?_
          refine T_skipG rfl rfl rfl rfl rfl ?_
          refine T_val (Ev_pickT rfl rfl) rfl ?_
          refine T_val (Ev_move rfl) rfl ?_
          refine T_skipG rfl rfl rfl rfl rfl ?_
          refine T_skipG rfl rfl rfl rfl rfl ?_
          refine T_skipG rfl rfl rfl rfl rfl ?_
          refine T_val (Ev_pickT rfl rfl) rfl ?_
          refine T_nil ?_
          exact T_metP true () hx48 trivial (by exact .cons rfl (.cons rfl (.cons rfl (.cons rfl (.nil))))) (by exact .drop 0 rfl (.refl))
        · have hx49 := ite_f h47 hx37
          refine T_valG rfl rfl rfl (Ev_field rfl fld38_0 rfl) rfl ?_
          refine T_valG rfl rfl rfl (Ev_load1 rfl (i := 0) rfl rfl one3) rfl ?_
          refine T_valG rfl rfl rfl (Ev_gtr rfl rfl) rfl ?_
          refine T_val (Ev_pickF rfl rfl) rfl ?_
          refine T_val (Ev_move rfl) rfl ?_
          refine T_caseP (s := 19) rfl (fun h50 => ?_) (fun h50 => ?_)
          · have hx51 := ite_t h50 hx49
            refine T_skipG rfl rfl rfl rfl rfl ?_
            refine T_skipG rfl rfl rfl rfl rfl ?_
            refine T_skipG rfl rfl rfl rfl rfl ?_
            refine T_val (Ev_pickT rfl rfl) rfl ?_
            refine T_val (Ev_move rfl) rfl ?_
            refine T_skipG rfl rfl rfl rfl rfl ?_
            refine T_skipG rfl rfl rfl rfl rfl ?_
            refine T_skipG rfl rfl rfl rfl rfl ?_
            refine T_val (Ev_pickT rfl rfl) rfl ?_
            refine T_nil ?_
            exact T_metP true () hx51 trivial (by exact .cons rfl (.cons rfl (.cons rfl (.cons rfl (.nil))))) (by exact .drop 0 rfl (.refl))
          · have hx52 := ite_f h50 hx49
            refine T_valG rfl rfl rfl (Ev_field rfl fld38_1 rfl) rfl ?_
            refine T_valG rfl rfl rfl (Ev_load1 rfl (i := 0) rfl rfl one3) rfl ?_
            refine T_valG rfl rfl rfl (Ev_lss rfl rfl) rfl ?_
            refine T_val (Ev_pickF rfl rfl) rfl ?_
            refine T_val (Ev_move rfl) rfl ?_
            refine T_caseP (s := 24) rfl (fun h53 => ?_) (fun h53 => ?_)
            · have hx54 := ite_t h53 hx52
              refine T_skipG rfl rfl rfl rfl rfl ?_
              refine T_skipG rfl rfl rfl rfl rfl ?_
              refine T_skipG rfl rfl rfl rfl rfl ?_
              refine T_val (Ev_pickT rfl rfl) rfl ?_
              refine T_nil ?_
              exact T_metP true () hx54 trivial (by exact .cons rfl (.cons rfl (.cons rfl (.cons rfl (.nil))))) (by exact .drop 0 rfl (.refl))
            · have hx55 := ite_f h53 hx52
              refine T_valG rfl rfl rfl (Ev_field rfl fld38_1 rfl) rfl ?_
              refine T_valG rfl rfl rfl (Ev_load1 rfl (i := 0) rfl rfl one3) rfl ?_
              refine T_valG rfl rfl rfl (Ev_gtr rfl rfl) rfl ?_
              refine T_val (Ev_pickF rfl rfl) rfl ?_
              refine T_nil ?_
              exact T_metP (decide (268435456 < x35.Y)) () hx55 trivial (by exact .cons rfl (.cons rfl (.cons rfl (.cons rfl (.nil))))) (by exact .drop 0 rfl (.refl))
    · have hx34 := ite_f h32 hx31
      refine T_condF rfl ?_
      refine T_exit ?_
      refine T_outX ?_
      obtain rfl := exit_eq ht31 hx34
      refine T_outX ?_
      refine T_here ?_
      exact T_metP () () ho31 trivial (by exact .nil) (by exact .refl)
set_option maxRecDepth 100000 in
theorem exact_sign_int__ok (p0 : Int)  {r : Int} (hx : exact_sign_int_ p0 = some r) (w : World) : CtL Tryz.prog 78 [.int .i64 (p0)] w fun v Ln => v = .int .i64 (r) ∧ Ln = [] ∧ True := by
  refine CtL.mk 9 Tryz.func78 rfl Tryz.ntmps78 (by kernel_rfl) rfl ?_
  show T 9 _ [(0, .int .i64 (p0))] _
  unfold exact_sign_int_ at hx
  refine T_seq ?_
  refine T_reg ?_
  refine T_val (Ev_assign rfl) rfl ?_
  refine T_nil ?_
  refine T_next ?_
  refine T_seq ?_
  refine T_block ?_
  refine T_seq ?_
  refine T_reg ?_
  refine T_val (Ev_move rfl) rfl ?_
  refine T_val (Ev_lss rfl rfl) rfl ?_
  refine T_val (Ev_assign rfl) rfl ?_
  refine T_nil ?_
  refine T_next ?_
  refine T_caseP (s := 3) rfl (fun h1 => ?_) (fun h1 => ?_)
  · have hx2 := ite_t h1 hx
    refine T_condT rfl ?_
    refine T_seq ?_
    refine T_reg ?_
    refine T_val (Ev_assign rfl) rfl ?_
    refine T_nil ?_
    refine T_next ?_
    refine T_retc ?_
    refine T_inR ?_
    refine T_outR ?_
    obtain rfl := Option.some.inj hx2
    exact T_retP (rs := [.tmp 2]) Tryz.results78 (.tmp rfl (.nil)) (Ln := []) ⟨rfl, rfl, trivial⟩ (loNil) (by exact .refl)
  · have hx3 := ite_f h1 hx
    refine T_condF rfl ?_
    refine T_seq ?_
    refine T_reg ?_
    refine T_val (Ev_move rfl) rfl ?_
    refine T_val (Ev_gtr rfl rfl) rfl ?_
    refine T_val (Ev_assign rfl) rfl ?_
    refine T_nil ?_
    refine T_next ?_
    refine T_caseP (s := 6) rfl (fun h4 => ?_) (fun h4 => ?_)
    · have hx5 := ite_t h4 hx3
      refine T_condT rfl ?_
      refine T_seq ?_
      refine T_reg ?_
      refine T_val (Ev_assign rfl) rfl ?_
      refine T_nil ?_
      refine T_next ?_
      refine T_retc ?_
      refine T_inR ?_
      refine T_outR ?_
      obtain rfl := Option.some.inj hx5
      exact T_retP (rs := [.tmp 2]) Tryz.results78 (.tmp rfl (.nil)) (Ln := []) ⟨rfl, rfl, trivial⟩ (loNil) (by exact .refl)
    · have hx6 := ite_f h4 hx3
      refine T_condF rfl ?_
      refine T_skip ?_
      refine T_inN ?_
      refine T_next ?_
      refine T_seq ?_
      refine T_reg ?_
      refine T_val (Ev_assign rfl) rfl ?_
      refine T_nil ?_
      refine T_next ?_
      refine T_retc ?_
      obtain rfl := Option.some.inj hx6
      exact T_retP (rs := [.tmp 2]) Tryz.results78 (.tmp rfl (.nil)) (Ln := []) ⟨rfl, rfl, trivial⟩ (loNil) (by exact .refl)
set_option maxRecDepth 100000 in
theorem exact_cross_ok (p0 : S_api_XY) (p1 : S_api_XY) (p2 : S_api_XY)  {r : Int} (hx : exact_cross p0 p1 p2 = some r) (w : World) : CtL Tryz.prog 79 [.agg #[.int .i64 (p0.X), .int .i64 (p0.Y)], .agg #[.int .i64 (p1.X), .int .i64 (p1.Y)], .agg #[.int .i64 (p2.X), .int .i64 (p2.Y)]] w fun v Ln => v = .int .i64 (r) ∧ Ln = [] ∧ True := by
  refine CtL.mk 30 Tryz.func79 rfl Tryz.ntmps79 (by kernel_rfl) rfl ?_
  show T 30 _ [(0, .agg #[.int .i64 (p0.X), .int .i64 (p0.Y)]), (1, .agg #[.int .i64 (p1.X), .int .i64 (p1.Y)]), (2, .agg #[.int .i64 (p2.X), .int .i64 (p2.Y)])] _
  unfold exact_cross at hx
  refine T_seq ?_
  refine T_reg ?_
  refine T_x (Wx_box rfl rfl rfl (fun g1 => ?_))
  refine T_x (Wx_box rfl rfl rfl (fun g2 => ?_))
  refine T_x (Wx_box rfl rfl rfl (fun g3 => ?_))
  refine T_val (Ev_assign rfl) rfl ?_
  refine T_nil ?_
  refine T_next ?_
  refine T_seq ?_
  refine T_reg ?_
  refine T_val (Ev_field rfl fld38_0 rfl) rfl ?_
  refine T_val (Ev_load1 rfl (i := 1) rfl rfl one3) rfl ?_
  refine T_val (Ev_field rfl fld38_0 rfl) rfl ?_
  refine T_val (Ev_load1 rfl (i := 2) rfl rfl one3) rfl ?_
  refine T_val (Ev_sub_w64 rfl rfl) rfl ?_
  refine T_val (Ev_field rfl fld38_1 rfl) rfl ?_
  refine T_val (Ev_load1 rfl (i := 0) rfl rfl one3) rfl ?_
  refine T_val (Ev_field rfl fld38_1 rfl) rfl ?_
  refine T_val (Ev_load1 rfl (i := 2) rfl rfl one3) rfl ?_
  refine T_val (Ev_sub_w64 rfl rfl) rfl ?_
  refine T_val (Ev_mul_w64 rfl rfl) rfl ?_
  refine T_val (Ev_field rfl fld38_1 rfl) rfl ?_
  refine T_val (Ev_load1 rfl (i := 1) rfl rfl one3) rfl ?_
  refine T_val (Ev_field rfl fld38_1 rfl) rfl ?_
  refine T_val (Ev_load1 rfl (i := 2) rfl rfl one3) rfl ?_
  refine T_val (Ev_sub_w64 rfl rfl) rfl ?_
  refine T_val (Ev_field rfl fld38_0 rfl) rfl ?_
  refine T_val (Ev_load1 rfl (i := 0) rfl rfl one3) rfl ?_
  refine T_val (Ev_field rfl fld38_0 rfl) rfl ?_
  refine T_val (Ev_load1 rfl (i := 2) rfl rfl one3) rfl ?_
  refine T_val (Ev_sub_w64 rfl rfl) rfl ?_
  refine T_val (Ev_mul_w64 rfl rfl) rfl ?_
  refine T_val (Ev_sub_w64 rfl rfl) rfl ?_
  refine T_val (Ev_assign rfl) rfl ?_
  refine T_nil ?_
  refine T_next ?_
  refine T_retc ?_
  obtain rfl := Option.some.inj hx
  exact T_retP (rs := [.tmp 6]) Tryz.results79 (.tmp rfl (.nil)) (Ln := []) ⟨rfl, rfl, trivial⟩ (loNil) (by exact .drop 0 rfl (.drop 0 rfl (.drop 0 rfl (.refl))))
set_option maxRecDepth 100000 in
theorem exact_Turn_ok (p0 : S_api_XY) (p1 : S_api_XY) (p2 : S_api_XY)  {r : Int × Int} (hx : exact_Turn p0 p1 p2 = some r) (w : World) : CtL Tryz.prog 41 [.agg #[.int .i64 (p0.X), .int .i64 (p0.Y)], .agg #[.int .i64 (p1.X), .int .i64 (p1.Y)], .agg #[.int .i64 (p2.X), .int .i64 (p2.Y)]] w fun v Ln => v = .tuple #[.int .i64 (r.1), .int .i64 (r.2)] ∧ Ln = [] ∧ True := by
  refine CtL.mk 19 Tryz.func41 rfl Tryz.ntmps41 (by kernel_rfl) rfl ?_
  show T 19 _ [(0, .agg #[.int .i64 (p0.X), .int .i64 (p0.Y)]), (1, .agg #[.int .i64 (p1.X), .int .i64 (p1.Y)]), (2, .agg #[.int .i64 (p2.X), .int .i64 (p2.Y)])] _
  unfold exact_Turn at hx
  refine T_seq ?_
  refine T_reg ?_
  refine T_x (Wx_box rfl rfl rfl (fun g1 => ?_))
  refine T_x (Wx_box rfl rfl rfl (fun g2 => ?_))
  refine T_x (Wx_box rfl rfl rfl (fun g3 => ?_))
  refine T_val (Ev_assign rfl) rfl ?_
  refine T_val (Ev_assign rfl) rfl ?_
  refine T_nil ?_
  refine T_next ?_
  refine T_seq ?_
  refine T_seq ?_
  refine T_reg ?_
  refine T_val (Ev_loadK rfl (i := 2) rfl rfl agg38) rfl ?_
  refine T_val (Ev_loadK rfl (i := 1) rfl rfl agg38) rfl ?_
  refine T_val (Ev_loadK rfl (i := 0) rfl rfl agg38) rfl ?_
  refine T_x (Wx_buildSlice rfl (bls84_3_0ai64i641ai64i642ai64i64 _ _ _ _ _ _) rfl (fun g4 => ?_))
  have hs5 : Has [.m g4 38 [.int .i64 (p0.X), .int .i64 (p0.Y), .int .i64 (p1.X), .int .i64 (p1.Y), .int .i64 (p2.X), .int .i64 (p2.Y)]] (some ⟨g4, 0, none⟩) 3 3 2 e_api_XY [p0, p1, p2] := Has.ofM (fun _ _ => rfl) rfl (by decide) rfl
  obtain ⟨r6, h7, hx8⟩ := bnd_some hx
  refine T_x (Wx_callL rfl (fun w1 hw1 => exact_inside_ok ([p0, p1, p2]) (Has.len' hs5) h7 w1 (okAll (K := ([.m g4 38 [.int .i64 (p0.X), .int .i64 (p0.Y), .int .i64 (p1.X), .int .i64 (p1.Y), .int .i64 (p2.X), .int .i64 (p2.Y)]] : List Ent)) (by exact (SubE.cons2 (i := 0) rfl (SubE.nil))) hw1)) rfl ?_)
  rintro _ _ hlo ⟨rfl, rfl, -⟩
  refine T_app0 ?_
  refine T_val (Ev_not rfl) rfl ?_
  refine T_nil ?_
  refine T_next ?_
  refine T_caseNB (s := 13) rfl (fun h9 => ?_) (fun h9 => ?_)
  · have hx10 := ite_bf h9 hx8
    refine T_condT rfl ?_
    refine T_seq ?_
    refine T_reg ?_
    refine T_val (Ev_assign rfl) rfl ?_
    refine T_val (Ev_assign rfl) rfl ?_
    refine T_nil ?_
    refine T_next ?_
    refine T_retc ?_
    refine T_outR ?_
    obtain rfl := Option.some.inj hx10
    exact T_retP (rs := [.tmp 6, .tmp 7]) Tryz.results41 (.tmp rfl (.tmp rfl (.nil))) (Ln := []) ⟨rfl, rfl, trivial⟩ (loNil) (by exact .drop 0 rfl (.drop 0 rfl (.drop 0 rfl (.drop 0 rfl (.refl)))))
  · have hx11 := ite_t h9 hx8
    refine T_condF rfl ?_
    refine T_skip ?_
    refine T_next ?_
    refine T_seq ?_
    refine T_reg ?_
    refine T_val (Ev_loadK rfl (i := 3) rfl rfl agg38) rfl ?_
    refine T_val (Ev_loadK rfl (i := 2) rfl rfl agg38) rfl ?_
    refine T_val (Ev_loadK rfl (i := 1) rfl rfl agg38) rfl ?_
    obtain ⟨r12, h13, hx14⟩ := bnd_some hx11
    refine T_x (Wx_callL rfl (fun w1 hw1 => exact_cross_ok p0 p1 p2  h13 w1) rfl ?_)
    rintro _ _ hlo ⟨rfl, rfl, -⟩
    refine T_app0 ?_
    obtain ⟨r15, h16, hx17⟩ := bnd_some hx14
    refine T_x (Wx_callL rfl (fun w1 hw1 => exact_sign_int__ok r12  h16 w1) rfl ?_)
    rintro _ _ hlo ⟨rfl, rfl, -⟩
    refine T_app0 ?_
    refine T_val (Ev_assign rfl) rfl ?_
    refine T_val (Ev_assign rfl) rfl ?_
    refine T_nil ?_
    refine T_next ?_
    refine T_retc ?_
    obtain rfl := Option.some.inj hx17
    exact T_retP (rs := [.tmp 6, .tmp 7]) Tryz.results41 (.tmp rfl (.tmp rfl (.nil))) (Ln := []) ⟨rfl, rfl, trivial⟩ (loNil) (by exact .drop 0 rfl (.drop 0 rfl (.drop 0 rfl (.drop 0 rfl (.refl)))))
set_option maxRecDepth 100000 in
theorem exact_lift_ok (p0 : S_api_XY) (p1 : S_api_XY)  {r : Int} (hx : exact_lift p0 p1 = some r) (w : World) : CtL Tryz.prog 94 [.agg #[.int .i64 (p0.X), .int .i64 (p0.Y)], .agg #[.int .i64 (p1.X), .int .i64 (p1.Y)]] w fun v Ln => v = .int .i64 (r) ∧ Ln = [] ∧ True := by
  refine CtL.mk 24 Tryz.func94 rfl Tryz.ntmps94 (by kernel_rfl) rfl ?_
  show T 24 _ [(0, .agg #[.int .i64 (p0.X), .int .i64 (p0.Y)]), (1, .agg #[.int .i64 (p1.X), .int .i64 (p1.Y)])] _
  unfold exact_lift at hx
  refine T_seq ?_
  refine T_reg ?_
  refine T_x (Wx_box rfl rfl rfl (fun g1 => ?_))
  refine T_x (Wx_box rfl rfl rfl (fun g2 => ?_))
  refine T_val (Ev_assign rfl) rfl ?_
  refine T_nil ?_
  refine T_next ?_
  refine T_seq ?_
  refine T_draw [0, 1, 0, 1, 0, 0, 1, 0, 1, 0, 2, 2] [[], [0], [], [2], [0, 1, 2, 3], [], [5], [], [7], [5, 6, 7, 8], [0, 1, 2, 3, 4], [0, 1, 2, 3, 4, 5, 6, 7, 8, 9, 10]] (.q 0 (.q 1 (.q 2 (.q 3 (.q 4 (.q 5 (.q 6 (.q 7 (.q 8 (.q 9 (.e 10 (.e 11 (.done) (.stop)) (.stop)))))))))))) mixed (by kernel_rfl) (by kernel_rfl) ?_
  refine P_p rfl rfl (Ev_field rfl fld38_0 rfl) rfl ?_
  refine P_q rfl rfl (Ev_load1 rfl (i := 1) rfl rfl one3) rfl ?_
  refine P_p rfl rfl (Ev_field rfl fld38_0 rfl) rfl ?_
  refine P_q rfl rfl (Ev_load1 rfl (i := 0) rfl rfl one3) rfl ?_
  refine P_p rfl rfl (Ev_sub_w64 rfl rfl) rfl ?_
  refine P_p rfl rfl (Ev_field rfl fld38_1 rfl) rfl ?_
  refine P_q rfl rfl (Ev_load1 rfl (i := 1) rfl rfl one3) rfl ?_
  refine P_p rfl rfl (Ev_field rfl fld38_1 rfl) rfl ?_
  refine P_q rfl rfl (Ev_load1 rfl (i := 0) rfl rfl one3) rfl ?_
  refine P_p rfl rfl (Ev_sub_w64 rfl rfl) rfl ?_
  refine P_x rfl (Wx_val (Ev_assign rfl) rfl ?_) ?_
  rotate_left; exact P_stop
  refine P_x rfl (Wx_val (Ev_assign rfl) rfl ?_) ?_
  rotate_left; exact P_stop
  refine P_done ?_
  refine T_next ?_
  refine T_seq ?_
  refine T_reg ?_
  refine T_val (Ev_move rfl) rfl ?_
  refine T_val (Ev_move rfl) rfl ?_
  refine T_val (Ev_mul_w64 rfl rfl) rfl ?_
  refine T_val (Ev_move rfl) rfl ?_
  refine T_val (Ev_move rfl) rfl ?_
  refine T_val (Ev_mul_w64 rfl rfl) rfl ?_
  refine T_val (Ev_add_w64 rfl rfl) rfl ?_
  refine T_val (Ev_assign rfl) rfl ?_
  refine T_nil ?_
  refine T_next ?_
  refine T_retc ?_
  obtain rfl := Option.some.inj hx
  exact T_retP (rs := [.tmp 4]) Tryz.results94 (.tmp rfl (.nil)) (Ln := []) ⟨rfl, rfl, trivial⟩ (loNil) (by exact .drop 0 rfl (.drop 0 rfl (.refl)))
set_option maxRecDepth 100000 in
theorem exact_Circle_ok (p0 : S_api_XY) (p1 : S_api_XY) (p2 : S_api_XY) (p3 : S_api_XY)  {r : Int × Int} (hx : exact_Circle p0 p1 p2 p3 = some r) (w : World) : CtL Tryz.prog 80 [.agg #[.int .i64 (p0.X), .int .i64 (p0.Y)], .agg #[.int .i64 (p1.X), .int .i64 (p1.Y)], .agg #[.int .i64 (p2.X), .int .i64 (p2.Y)], .agg #[.int .i64 (p3.X), .int .i64 (p3.Y)]] w fun v Ln => v = .tuple #[.int .i64 (r.1), .int .i64 (r.2)] ∧ Ln = [] ∧ True := by
  refine CtL.mk 64 Tryz.func80 rfl Tryz.ntmps80 (by kernel_rfl) rfl ?_
  show T 64 _ [(0, .agg #[.int .i64 (p0.X), .int .i64 (p0.Y)]), (1, .agg #[.int .i64 (p1.X), .int .i64 (p1.Y)]), (2, .agg #[.int .i64 (p2.X), .int .i64 (p2.Y)]), (3, .agg #[.int .i64 (p3.X), .int .i64 (p3.Y)])] _
  unfold exact_Circle at hx
  refine T_seq ?_
  refine T_reg ?_
  refine T_x (Wx_box rfl rfl rfl (fun g1 => ?_))
  refine T_x (Wx_box rfl rfl rfl (fun g2 => ?_))
  refine T_x (Wx_box rfl rfl rfl (fun g3 => ?_))
  refine T_x (Wx_box rfl rfl rfl (fun g4 => ?_))
  refine T_val (Ev_assign rfl) rfl ?_
  refine T_val (Ev_assign rfl) rfl ?_
  refine T_nil ?_
  refine T_next ?_
  refine T_seq ?_
  refine T_seq ?_
  refine T_reg ?_
  refine T_val (Ev_loadK rfl (i := 3) rfl rfl agg38) rfl ?_
  refine T_val (Ev_loadK rfl (i := 2) rfl rfl agg38) rfl ?_
  refine T_val (Ev_loadK rfl (i := 1) rfl rfl agg38) rfl ?_
  refine T_val (Ev_loadK rfl (i := 0) rfl rfl agg38) rfl ?_
  refine T_x (Wx_buildSlice rfl (bls84_4_0ai64i641ai64i642ai64i643ai64i64 _ _ _ _ _ _ _ _) rfl (fun g5 => ?_))
  have hs6 : Has [.m g5 38 [.int .i64 (p0.X), .int .i64 (p0.Y), .int .i64 (p1.X), .int .i64 (p1.Y), .int .i64 (p2.X), .int .i64 (p2.Y), .int .i64 (p3.X), .int .i64 (p3.Y)]] (some ⟨g5, 0, none⟩) 4 4 2 e_api_XY [p0, p1, p2, p3] := Has.ofM (fun _ _ => rfl) rfl (by decide) rfl
  obtain ⟨r7, h8, hx9⟩ := bnd_some hx
  refine T_x (Wx_callL rfl (fun w1 hw1 => exact_inside_ok ([p0, p1, p2, p3]) (Has.len' hs6) h8 w1 (okAll (K := ([.m g5 38 [.int .i64 (p0.X), .int .i64 (p0.Y), .int .i64 (p1.X), .int .i64 (p1.Y), .int .i64 (p2.X), .int .i64 (p2.Y), .int .i64 (p3.X), .int .i64 (p3.Y)]] : List Ent)) (by exact (SubE.cons2 (i := 0) rfl (SubE.nil))) hw1)) rfl ?_)
  rintro _ _ hlo ⟨rfl, rfl, -⟩
  refine T_app0 ?_
  refine T_val (Ev_not rfl) rfl ?_
  refine T_nil ?_
  refine T_next ?_
  refine T_caseNB (s := 18) rfl (fun h10 => ?_) (fun h10 => ?_)
  · have hx11 := ite_bf h10 hx9
    refine T_condT rfl ?_
    refine T_seq ?_
    refine T_reg ?_
    refine T_val (Ev_assign rfl) rfl ?_
    refine T_val (Ev_assign rfl) rfl ?_
    refine T_nil ?_
    refine T_next ?_
    refine T_retc ?_
    refine T_outR ?_
    obtain rfl := Option.some.inj hx11
    exact T_retP (rs := [.tmp 8, .tmp 9]) Tryz.results80 (.tmp rfl (.tmp rfl (.nil))) (Ln := []) ⟨rfl, rfl, trivial⟩ (loNil) (by exact .drop 0 rfl (.drop 0 rfl (.drop 0 rfl (.drop 0 rfl (.drop 0 rfl (.refl))))))
  · have hx12 := ite_t h10 hx9
    refine T_condF rfl ?_
    refine T_skip ?_
    refine T_next ?_
    refine T_seq ?_
    refine T_reg ?_
    refine T_val (Ev_loadK rfl (i := 4) rfl rfl agg38) rfl ?_
    refine T_val (Ev_loadK rfl (i := 3) rfl rfl agg38) rfl ?_
    refine T_val (Ev_loadK rfl (i := 2) rfl rfl agg38) rfl ?_
    obtain ⟨r13, h14, hx15⟩ := bnd_some hx12
    refine T_x (Wx_callL rfl (fun w1 hw1 => exact_cross_ok p0 p1 p2  h14 w1) rfl ?_)
    rintro _ _ hlo ⟨rfl, rfl, -⟩
    refine T_app0 ?_
    obtain ⟨r16, h17, hx18⟩ := bnd_some hx15
    refine T_x (Wx_callL rfl (fun w1 hw1 => exact_sign_int__ok r13  h17 w1) rfl ?_)
    rintro _ _ hlo ⟨rfl, rfl, -⟩
    refine T_app0 ?_
    refine T_val (Ev_assign rfl) rfl ?_
    refine T_nil ?_
    refine T_next ?_
    refine T_seq ?_
    refine T_seq ?_
    refine T_reg ?_
    refine T_val (Ev_move rfl) rfl ?_
    refine T_val (Ev_eql rfl rfl) rfl ?_
    refine T_nil ?_
    refine T_next ?_
    refine T_caseP (s := 25) rfl (fun h19 => ?_) (fun h19 => ?_)
    · have hx20 := ite_t h19 hx18
      refine T_condT rfl ?_
      refine T_seq ?_
      refine T_reg ?_
      refine T_val (Ev_assign rfl) rfl ?_
      refine T_val (Ev_assign rfl) rfl ?_
      refine T_nil ?_
      refine T_next ?_
      refine T_retc ?_
      refine T_outR ?_
      obtain rfl := Option.some.inj hx20
      exact T_retP (rs := [.tmp 8, .tmp 9]) Tryz.results80 (.tmp rfl (.tmp rfl (.nil))) (Ln := []) ⟨rfl, rfl, trivial⟩ (loNil) (by exact .drop 0 rfl (.drop 0 rfl (.drop 0 rfl (.drop 0 rfl (.drop 0 rfl (.refl))))))
    · have hx21 := ite_f h19 hx18
      refine T_condF rfl ?_
      refine T_skip ?_
      refine T_next ?_
      obtain ⟨j9, hj9, hx21⟩ := jn_some hx21
      refine T_cutP (τ := Bool × (List Int) × (List Int)) (γ := Nat × (Option Addr) × Nat × Ent × (Option Addr) × Nat) (J := j9) (out := r) (fun s9 y9 => [(4, .pointer (some ⟨g1, 0, none⟩)), (5, .pointer (some ⟨g2, 0, none⟩)), (6, .pointer (some ⟨g3, 0, none⟩)), (7, .pointer (some ⟨g4, 0, none⟩)), (10, .int .i64 (r16)), (11, .pointer (some ⟨y9.1, 0, none⟩))]) (fun s9 y9 => [y9.2.2.2.1, .m y9.1 125 [.bool (s9.1), .slice (y9.2.1) ((s9.2.1).length) (y9.2.2.1), .slice (y9.2.2.2.2.1) ((s9.2.2).length) (y9.2.2.2.2.2)], .m g4 38 [.int .i64 (p3.X), .int .i64 (p3.Y)], .m g3 38 [.int .i64 (p2.X), .int .i64 (p2.Y)], .m g2 38 [.int .i64 (p1.X), .int .i64 (p1.Y)], .m g1 38 [.int .i64 (p0.X), .int .i64 (p0.Y)]] ++ [.old w]) (fun s9 y9 => y9.2.2.2.1.low = 0 ∧ Has ([y9.2.2.2.1] : List Ent) (y9.2.1) ((s9.2.1).length) (y9.2.2.1) 1 e_u32 (s9.2.1) ∧ Has ([y9.2.2.2.1] : List Ent) (y9.2.2.2.2.1) ((s9.2.2).length) (y9.2.2.2.2.2) 1 e_u32 (s9.2.2) ∧ True) ?_ ?_
      · intro s9 y9 hx231 hG232
        obtain ⟨lo233, hs234, hs235, -⟩ := hG232
        subst hj9
        refine T_seq ?_
        refine T_draw [1, 1, 1, 2, 2, 1, 1, 1, 2, 2, 2, 2, 3] [[], [], [], [1, 2], [1, 2, 3], [], [], [], [1, 2, 3, 4, 5, 6, 7], [1, 2, 3, 4, 5, 6, 7, 8], [1, 2, 3, 4, 5, 6, 7, 8, 9], [0, 1, 2, 3, 4, 5, 6, 7, 8, 9, 10], [0, 1, 2, 3, 4, 5, 6, 7, 8, 9, 10, 11]] (.q 0 (.q 1 (.q 2 (.q 5 (.q 6 (.q 7 (.e 3 (.e 4 (.e 8 (.e 9 (.e 10 (.e 11 (.e 12 (.done) (.stop)) (.stop)) (.stop)) (.stop)) (.stop)) (.stop)) (.stop)))))))) mixed (by kernel_rfl) (by kernel_rfl) ?_
        refine P_q rfl rfl (Ev_loadK rfl (i := 1) rfl rfl agg125) rfl ?_
        refine P_q rfl rfl (Ev_loadK rfl (i := 4) rfl rfl agg38) rfl ?_
        refine P_q rfl rfl (Ev_loadK rfl (i := 2) rfl rfl agg38) rfl ?_
        refine P_q rfl rfl (Ev_loadK rfl (i := 2) rfl rfl agg38) rfl ?_
        refine P_q rfl rfl (Ev_loadK rfl (i := 3) rfl rfl agg38) rfl ?_
        refine P_q rfl rfl (Ev_loadK rfl (i := 5) rfl rfl agg38) rfl ?_
        obtain ⟨r236, h237, hx238⟩ := bnd_some hx231
        refine P_x rfl (Wx_callL rfl (fun w1 hw1 => exact_lift_ok p1 p3  h237 w1) rfl ?_) ?_
        rotate_left; exact P_stop
        rintro _ _ hlo ⟨rfl, rfl, -⟩
        refine T_app0 ?_
        obtain ⟨r239, h240, hx241⟩ := bnd_some hx238
        refine P_x rfl (Wx_callL rfl (fun w1 hw1 => ratio_Int_ok r236  h240 w1) rfl ?_) ?_
        rotate_left; exact P_stop
        rintro _ _ hlo ⟨A242, c243, A244, c245, e246, rfl, rfl, hs247, -⟩
        have lo248 := hlo e246 (by simp)
        refine T_app2 ?_
        obtain ⟨r249, h250, hx251⟩ := bnd_some hx241
        refine P_x rfl (Wx_callL rfl (fun w1 hw1 => exact_cross_ok p3 p2 p0  h250 w1) rfl ?_) ?_
        rotate_left; exact P_stop
        rintro _ _ hlo ⟨rfl, rfl, -⟩
        refine T_app0 ?_
        obtain ⟨r252, h253, hx254⟩ := bnd_some hx251
        refine P_x rfl (Wx_callL rfl (fun w1 hw1 => ratio_Int_ok r249  h253 w1) rfl ?_) ?_
        rotate_left; exact P_stop
        rintro _ _ hlo ⟨A255, c256, A257, c258, e259, rfl, rfl, hs260, -⟩
        have lo261 := hlo e259 (by simp)
        refine T_app2 ?_
        refine T_rowP (k := 2) rfl (by decide) (fun _ => rfl) (fun hn262 hs263 => ?_)
        refine T_rowP (k := 0) rfl (by decide) (fun _ => rfl) (fun hn264 hs265 => ?_)
        obtain ⟨r266, h267, hx268⟩ := bnd_some hx254
        refine P_x rfl (Wx_callL rfl (fun w1 hw1 => ratio_Num_Mul_ok r239 r252 (Has.len' (Has.up (L := ([e246, .r (A244) ((r239.d).length) (c245) 141 1 ((r239.d).flatMap e_u32), e259, .r (A257) ((r252.d).length) (c258) 141 1 ((r252.d).flatMap e_u32)] : List Ent)) hs247 (SubE.cons2 (i := 0) rfl (SubE.nil)))) (Has.len' (Has.up (L := ([e246, .r (A244) ((r239.d).length) (c245) 141 1 ((r239.d).flatMap e_u32), e259, .r (A257) ((r252.d).length) (c258) 141 1 ((r252.d).flatMap e_u32)] : List Ent)) hs263 (SubE.cons2 (i := 1) rfl (SubE.nil)))) (Has.len' (Has.up (L := ([e246, .r (A244) ((r239.d).length) (c245) 141 1 ((r239.d).flatMap e_u32), e259, .r (A257) ((r252.d).length) (c258) 141 1 ((r252.d).flatMap e_u32)] : List Ent)) hs260 (SubE.cons2 (i := 2) rfl (SubE.nil)))) (Has.len' (Has.up (L := ([e246, .r (A244) ((r239.d).length) (c245) 141 1 ((r239.d).flatMap e_u32), e259, .r (A257) ((r252.d).length) (c258) 141 1 ((r252.d).flatMap e_u32)] : List Ent)) hs265 (SubE.cons2 (i := 3) rfl (SubE.nil)))) h267 w1 (okAll (K := ([e246, .r (A244) ((r239.d).length) (c245) 141 1 ((r239.d).flatMap e_u32), e259, .r (A257) ((r252.d).length) (c258) 141 1 ((r252.d).flatMap e_u32)] : List Ent)) (by exact (SubE.cons2 (i := 3) rfl (SubE.cons2 (i := 2) rfl (SubE.cons2 (i := 1) rfl (SubE.cons2 (i := 0) rfl (SubE.nil)))))) hw1)) rfl ?_) ?_
        rotate_left; exact P_stop
        rintro _ _ hlo ⟨A269, c270, A271, c272, e273, e274, rfl, rfl, hs275, hs276, -⟩
        have lo277 := hlo e273 (by simp)
        have lo278 := hlo e274 (by simp)
        refine T_app2 ?_
        have hs279 : Has ([e246, .r (A244) ((r239.d).length) (c245) 141 1 ((r239.d).flatMap e_u32), e259, .r (A257) ((r252.d).length) (c258) 141 1 ((r252.d).flatMap e_u32), e273, e274] : List Ent) _ _ _ _ _ _ := id hs275
        have hs280 : Has ([e246, .r (A244) ((r239.d).length) (c245) 141 1 ((r239.d).flatMap e_u32), e259, .r (A257) ((r252.d).length) (c258) 141 1 ((r252.d).flatMap e_u32), e273, e274] : List Ent) _ _ _ _ _ _ := id hs276
        obtain ⟨r281, h282, hx283⟩ := bnd_some hx268
        refine P_x rfl (Wx_callL rfl (fun w1 hw1 => ratio_Num_Add_ok (⟨s9.1, s9.2.1, s9.2.2⟩ : S_ratio_Num) r266 (Has.len' (Has.up (L := ([y9.2.2.2.1, e246, .r (A244) ((r239.d).length) (c245) 141 1 ((r239.d).flatMap e_u32), e259, .r (A257) ((r252.d).length) (c258) 141 1 ((r252.d).flatMap e_u32), e273, e274] : List Ent)) hs234 (SubE.cons2 (i := 0) rfl (SubE.nil)))) (Has.len' (Has.up (L := ([y9.2.2.2.1, e246, .r (A244) ((r239.d).length) (c245) 141 1 ((r239.d).flatMap e_u32), e259, .r (A257) ((r252.d).length) (c258) 141 1 ((r252.d).flatMap e_u32), e273, e274] : List Ent)) hs235 (SubE.cons2 (i := 0) rfl (SubE.nil)))) (Has.len' (Has.up (L := ([y9.2.2.2.1, e246, .r (A244) ((r239.d).length) (c245) 141 1 ((r239.d).flatMap e_u32), e259, .r (A257) ((r252.d).length) (c258) 141 1 ((r252.d).flatMap e_u32), e273, e274] : List Ent)) hs279 (SubE.cons2 (i := 1) rfl (SubE.cons2 (i := 2) rfl (SubE.cons2 (i := 3) rfl (SubE.cons2 (i := 4) rfl (SubE.cons2 (i := 5) rfl (SubE.cons2 (i := 6) rfl (SubE.nil))))))))) (Has.len' (Has.up (L := ([y9.2.2.2.1, e246, .r (A244) ((r239.d).length) (c245) 141 1 ((r239.d).flatMap e_u32), e259, .r (A257) ((r252.d).length) (c258) 141 1 ((r252.d).flatMap e_u32), e273, e274] : List Ent)) hs280 (SubE.cons2 (i := 1) rfl (SubE.cons2 (i := 2) rfl (SubE.cons2 (i := 3) rfl (SubE.cons2 (i := 4) rfl (SubE.cons2 (i := 5) rfl (SubE.cons2 (i := 6) rfl (SubE.nil))))))))) h282 w1 (okAll (K := ([y9.2.2.2.1, e246, .r (A244) ((r239.d).length) (c245) 141 1 ((r239.d).flatMap e_u32), e259, .r (A257) ((r252.d).length) (c258) 141 1 ((r252.d).flatMap e_u32), e273, e274] : List Ent)) (by exact (SubE.cons2 (i := 6) rfl (SubE.cons2 (i := 5) rfl (SubE.cons2 (i := 4) rfl (SubE.cons2 (i := 3) rfl (SubE.cons2 (i := 2) rfl (SubE.cons2 (i := 0) rfl (SubE.cons2 (i := 1) rfl (SubE.nil))))))))) hw1)) rfl ?_) ?_
        rotate_left; exact P_stop
        rintro _ _ hlo ⟨A284, c285, A286, c287, e288, e289, e290, e291, rfl, rfl, hs292, hs293, -⟩
        have lo294 := hlo e288 (by simp)
        have lo295 := hlo e289 (by simp)
        have lo296 := hlo e290 (by simp)
        have lo297 := hlo e291 (by simp)
        refine T_app4 ?_
        have hs298 : Has ([y9.2.2.2.1, e246, .r (A244) ((r239.d).length) (c245) 141 1 ((r239.d).flatMap e_u32), e259, .r (A257) ((r252.d).length) (c258) 141 1 ((r252.d).flatMap e_u32), e273, e274, e288, e289, e290, e291] : List Ent) _ _ _ _ _ _ := id hs292
        have hs299 : Has ([y9.2.2.2.1, e246, .r (A244) ((r239.d).length) (c245) 141 1 ((r239.d).flatMap e_u32), e259, .r (A257) ((r252.d).length) (c258) 141 1 ((r252.d).flatMap e_u32), e273, e274, e288, e289, e290, e291] : List Ent) _ _ _ _ _ _ := id hs293
        refine P_h rfl rfl (Wh_store rfl rfl rfl (.there (.there (.there (.there (.there (.there (.there (.there (.there (.there (.there (.here)))))))))))) (.put (.put (.put (.done)))) rfl (List.cons_ne_nil _ _) agg125.2 ?_) ?_
        rotate_left; exact P_stop
        refine P_done ?_
        refine T_next ?_
        refine T_seq ?_
        refine T_draw [1, 1, 1, 2, 2, 1, 1, 1, 2, 2, 2, 2, 3] [[], [], [], [1, 2], [1, 2, 3], [], [], [], [1, 2, 3, 4, 5, 6, 7], [1, 2, 3, 4, 5, 6, 7, 8], [1, 2, 3, 4, 5, 6, 7, 8, 9], [0, 1, 2, 3, 4, 5, 6, 7, 8, 9, 10], [0, 1, 2, 3, 4, 5, 6, 7, 8, 9, 10, 11]] (.q 0 (.q 1 (.q 2 (.q 5 (.q 6 (.q 7 (.e 3 (.e 4 (.e 8 (.e 9 (.e 10 (.e 11 (.e 12 (.done) (.stop)) (.stop)) (.stop)) (.stop)) (.stop)) (.stop)) (.stop)))))))) mixed (by kernel_rfl) (by kernel_rfl) ?_
        refine P_q rfl rfl (Ev_loadK rfl (i := 11) rfl rfl agg125) rfl ?_
        refine P_q rfl rfl (Ev_loadK rfl (i := 13) rfl rfl agg38) rfl ?_
        refine P_q rfl rfl (Ev_loadK rfl (i := 12) rfl rfl agg38) rfl ?_
        refine P_q rfl rfl (Ev_loadK rfl (i := 12) rfl rfl agg38) rfl ?_
        refine P_q rfl rfl (Ev_loadK rfl (i := 15) rfl rfl agg38) rfl ?_
        refine P_q rfl rfl (Ev_loadK rfl (i := 14) rfl rfl agg38) rfl ?_
        obtain ⟨r300, h301, hx302⟩ := bnd_some hx283
        refine P_x rfl (Wx_callL rfl (fun w1 hw1 => exact_lift_ok p2 p3  h301 w1) rfl ?_) ?_
        rotate_left; exact P_stop
        rintro _ _ hlo ⟨rfl, rfl, -⟩
        refine T_app0 ?_
        obtain ⟨r303, h304, hx305⟩ := bnd_some hx302
        refine P_x rfl (Wx_callL rfl (fun w1 hw1 => ratio_Int_ok r300  h304 w1) rfl ?_) ?_
        rotate_left; exact P_stop
        rintro _ _ hlo ⟨A306, c307, A308, c309, e310, rfl, rfl, hs311, -⟩
        have lo312 := hlo e310 (by simp)
        refine T_app2 ?_
        obtain ⟨r313, h314, hx315⟩ := bnd_some hx305
        refine P_x rfl (Wx_callL rfl (fun w1 hw1 => exact_cross_ok p3 p0 p1  h314 w1) rfl ?_) ?_
        rotate_left; exact P_stop
        rintro _ _ hlo ⟨rfl, rfl, -⟩
        refine T_app0 ?_
        obtain ⟨r316, h317, hx318⟩ := bnd_some hx315
        refine P_x rfl (Wx_callL rfl (fun w1 hw1 => ratio_Int_ok r313  h317 w1) rfl ?_) ?_
        rotate_left; exact P_stop
        rintro _ _ hlo ⟨A319, c320, A321, c322, e323, rfl, rfl, hs324, -⟩
        have lo325 := hlo e323 (by simp)
        refine T_app2 ?_
        refine T_rowP (k := 2) rfl (by decide) (fun _ => rfl) (fun hn326 hs327 => ?_)
        refine T_rowP (k := 0) rfl (by decide) (fun _ => rfl) (fun hn328 hs329 => ?_)
        obtain ⟨r330, h331, hx332⟩ := bnd_some hx318
        refine P_x rfl (Wx_callL rfl (fun w1 hw1 => ratio_Num_Mul_ok r303 r316 (Has.len' (Has.up (L := ([e310, .r (A308) ((r303.d).length) (c309) 141 1 ((r303.d).flatMap e_u32), e323, .r (A321) ((r316.d).length) (c322) 141 1 ((r316.d).flatMap e_u32)] : List Ent)) hs311 (SubE.cons2 (i := 0) rfl (SubE.nil)))) (Has.len' (Has.up (L := ([e310, .r (A308) ((r303.d).length) (c309) 141 1 ((r303.d).flatMap e_u32), e323, .r (A321) ((r316.d).length) (c322) 141 1 ((r316.d).flatMap e_u32)] : List Ent)) hs327 (SubE.cons2 (i := 1) rfl (SubE.nil)))) (Has.len' (Has.up (L := ([e310, .r (A308) ((r303.d).length) (c309) 141 1 ((r303.d).flatMap e_u32), e323, .r (A321) ((r316.d).length) (c322) 141 1 ((r316.d).flatMap e_u32)] : List Ent)) hs324 (SubE.cons2 (i := 2) rfl (SubE.nil)))) (Has.len' (Has.up (L := ([e310, .r (A308) ((r303.d).length) (c309) 141 1 ((r303.d).flatMap e_u32), e323, .r (A321) ((r316.d).length) (c322) 141 1 ((r316.d).flatMap e_u32)] : List Ent)) hs329 (SubE.cons2 (i := 3) rfl (SubE.nil)))) h331 w1 (okAll (K := ([e310, .r (A308) ((r303.d).length) (c309) 141 1 ((r303.d).flatMap e_u32), e323, .r (A321) ((r316.d).length) (c322) 141 1 ((r316.d).flatMap e_u32)] : List Ent)) (by exact (SubE.cons2 (i := 3) rfl (SubE.cons2 (i := 2) rfl (SubE.cons2 (i := 1) rfl (SubE.cons2 (i := 0) rfl (SubE.nil)))))) hw1)) rfl ?_) ?_
        rotate_left; exact P_stop
        rintro _ _ hlo ⟨A333, c334, A335, c336, e337, e338, rfl, rfl, hs339, hs340, -⟩
        have lo341 := hlo e337 (by simp)
        have lo342 := hlo e338 (by simp)
        refine T_app2 ?_
        have hs343 : Has ([e310, .r (A308) ((r303.d).length) (c309) 141 1 ((r303.d).flatMap e_u32), e323, .r (A321) ((r316.d).length) (c322) 141 1 ((r316.d).flatMap e_u32), e337, e338] : List Ent) _ _ _ _ _ _ := id hs339
        have hs344 : Has ([e310, .r (A308) ((r303.d).length) (c309) 141 1 ((r303.d).flatMap e_u32), e323, .r (A321) ((r316.d).length) (c322) 141 1 ((r316.d).flatMap e_u32), e337, e338] : List Ent) _ _ _ _ _ _ := id hs340
        obtain ⟨r345, h346, hx347⟩ := bnd_some hx332
        refine P_x rfl (Wx_callL rfl (fun w1 hw1 => ratio_Num_Add_ok r281 r330 (Has.len' (Has.up (L := ([y9.2.2.2.1, e246, .r (A244) ((r239.d).length) (c245) 141 1 ((r239.d).flatMap e_u32), e259, .r (A257) ((r252.d).length) (c258) 141 1 ((r252.d).flatMap e_u32), e273, e274, e288, e289, e290, e291, e310, .r (A308) ((r303.d).length) (c309) 141 1 ((r303.d).flatMap e_u32), e323, .r (A321) ((r316.d).length) (c322) 141 1 ((r316.d).flatMap e_u32), e337, e338] : List Ent)) hs298 (SubE.cons2 (i := 0) rfl (SubE.cons2 (i := 1) rfl (SubE.cons2 (i := 2) rfl (SubE.cons2 (i := 3) rfl (SubE.cons2 (i := 4) rfl (SubE.cons2 (i := 5) rfl (SubE.cons2 (i := 6) rfl (SubE.cons2 (i := 7) rfl (SubE.cons2 (i := 8) rfl (SubE.cons2 (i := 9) rfl (SubE.cons2 (i := 10) rfl (SubE.nil)))))))))))))) (Has.len' (Has.up (L := ([y9.2.2.2.1, e246, .r (A244) ((r239.d).length) (c245) 141 1 ((r239.d).flatMap e_u32), e259, .r (A257) ((r252.d).length) (c258) 141 1 ((r252.d).flatMap e_u32), e273, e274, e288, e289, e290, e291, e310, .r (A308) ((r303.d).length) (c309) 141 1 ((r303.d).flatMap e_u32), e323, .r (A321) ((r316.d).length) (c322) 141 1 ((r316.d).flatMap e_u32), e337, e338] : List Ent)) hs299 (SubE.cons2 (i := 0) rfl (SubE.cons2 (i := 1) rfl (SubE.cons2 (i := 2) rfl (SubE.cons2 (i := 3) rfl (SubE.cons2 (i := 4) rfl (SubE.cons2 (i := 5) rfl (SubE.cons2 (i := 6) rfl (SubE.cons2 (i := 7) rfl (SubE.cons2 (i := 8) rfl (SubE.cons2 (i := 9) rfl (SubE.cons2 (i := 10) rfl (SubE.nil)))))))))))))) (Has.len' (Has.up (L := ([y9.2.2.2.1, e246, .r (A244) ((r239.d).length) (c245) 141 1 ((r239.d).flatMap e_u32), e259, .r (A257) ((r252.d).length) (c258) 141 1 ((r252.d).flatMap e_u32), e273, e274, e288, e289, e290, e291, e310, .r (A308) ((r303.d).length) (c309) 141 1 ((r303.d).flatMap e_u32), e323, .r (A321) ((r316.d).length) (c322) 141 1 ((r316.d).flatMap e_u32), e337, e338] : List Ent)) hs343 (SubE.cons2 (i := 11) rfl (SubE.cons2 (i := 12) rfl (SubE.cons2 (i := 13) rfl (SubE.cons2 (i := 14) rfl (SubE.cons2 (i := 15) rfl (SubE.cons2 (i := 16) rfl (SubE.nil))))))))) (Has.len' (Has.up (L := ([y9.2.2.2.1, e246, .r (A244) ((r239.d).length) (c245) 141 1 ((r239.d).flatMap e_u32), e259, .r (A257) ((r252.d).length) (c258) 141 1 ((r252.d).flatMap e_u32), e273, e274, e288, e289, e290, e291, e310, .r (A308) ((r303.d).length) (c309) 141 1 ((r303.d).flatMap e_u32), e323, .r (A321) ((r316.d).length) (c322) 141 1 ((r316.d).flatMap e_u32), e337, e338] : List Ent)) hs344 (SubE.cons2 (i := 11) rfl (SubE.cons2 (i := 12) rfl (SubE.cons2 (i := 13) rfl (SubE.cons2 (i := 14) rfl (SubE.cons2 (i := 15) rfl (SubE.cons2 (i := 16) rfl (SubE.nil))))))))) h346 w1 (okAll (K := ([y9.2.2.2.1, e246, .r (A244) ((r239.d).length) (c245) 141 1 ((r239.d).flatMap e_u32), e259, .r (A257) ((r252.d).length) (c258) 141 1 ((r252.d).flatMap e_u32), e273, e274, e288, e289, e290, e291, e310, .r (A308) ((r303.d).length) (c309) 141 1 ((r303.d).flatMap e_u32), e323, .r (A321) ((r316.d).length) (c322) 141 1 ((r316.d).flatMap e_u32), e337, e338] : List Ent)) (by exact (SubE.cons2 (i := 16) rfl (SubE.cons2 (i := 15) rfl (SubE.cons2 (i := 14) rfl (SubE.cons2 (i := 13) rfl (SubE.cons2 (i := 12) rfl (SubE.cons2 (i := 10) rfl (SubE.cons2 (i := 11) rfl (SubE.cons2 (i := 6) rfl (SubE.cons2 (i := 7) rfl (SubE.cons2 (i := 8) rfl (SubE.cons2 (i := 9) rfl (SubE.cons2 (i := 5) rfl (SubE.cons2 (i := 4) rfl (SubE.cons2 (i := 3) rfl (SubE.cons2 (i := 2) rfl (SubE.cons2 (i := 0) rfl (SubE.cons2 (i := 1) rfl (SubE.nil))))))))))))))))))) hw1)) rfl ?_) ?_
        rotate_left; exact P_stop
        rintro _ _ hlo ⟨A348, c349, A350, c351, e352, e353, e354, e355, rfl, rfl, hs356, hs357, -⟩
        have lo358 := hlo e352 (by simp)
        have lo359 := hlo e353 (by simp)
        have lo360 := hlo e354 (by simp)
        have lo361 := hlo e355 (by simp)
        refine T_app4 ?_
        have hs362 : Has ([y9.2.2.2.1, e246, .r (A244) ((r239.d).length) (c245) 141 1 ((r239.d).flatMap e_u32), e259, .r (A257) ((r252.d).length) (c258) 141 1 ((r252.d).flatMap e_u32), e273, e274, e288, e289, e290, e291, e310, .r (A308) ((r303.d).length) (c309) 141 1 ((r303.d).flatMap e_u32), e323, .r (A321) ((r316.d).length) (c322) 141 1 ((r316.d).flatMap e_u32), e337, e338, e352, e353, e354, e355] : List Ent) _ _ _ _ _ _ := id hs356
        have hs363 : Has ([y9.2.2.2.1, e246, .r (A244) ((r239.d).length) (c245) 141 1 ((r239.d).flatMap e_u32), e259, .r (A257) ((r252.d).length) (c258) 141 1 ((r252.d).flatMap e_u32), e273, e274, e288, e289, e290, e291, e310, .r (A308) ((r303.d).length) (c309) 141 1 ((r303.d).flatMap e_u32), e323, .r (A321) ((r316.d).length) (c322) 141 1 ((r316.d).flatMap e_u32), e337, e338, e352, e353, e354, e355] : List Ent) _ _ _ _ _ _ := id hs357
        refine P_h rfl rfl (Wh_store rfl rfl rfl (.there (.there (.there (.there (.there (.there (.there (.there (.there (.there (.there (.there (.there (.there (.there (.there (.there (.there (.there (.there (.there (.here)))))))))))))))))))))) (.put (.put (.put (.done)))) rfl (List.cons_ne_nil _ _) agg125.2 ?_) ?_
        rotate_left; exact P_stop
        refine P_done ?_
        refine T_next ?_
        refine T_seq ?_
        refine T_reg ?_
        refine T_val (Ev_move rfl) rfl ?_
        refine T_val (Ev_loadK rfl (i := 21) rfl rfl agg125) rfl ?_
        obtain ⟨r364, h365, hx366⟩ := bnd_some hx347
        refine T_x (Wx_callL rfl (fun w1 hw1 => ratio_Num_Sign_ok r345 (Has.len' hs362) (Has.len' hs363) h365 w1 (okAll (K := ([y9.2.2.2.1, e246, .r (A244) ((r239.d).length) (c245) 141 1 ((r239.d).flatMap e_u32), e259, .r (A257) ((r252.d).length) (c258) 141 1 ((r252.d).flatMap e_u32), e273, e274, e288, e289, e290, e291, e310, .r (A308) ((r303.d).length) (c309) 141 1 ((r303.d).flatMap e_u32), e323, .r (A321) ((r316.d).length) (c322) 141 1 ((r316.d).flatMap e_u32), e337, e338, e352, e353, e354, e355] : List Ent)) (by exact (SubE.cons2 (i := 20) rfl (SubE.cons2 (i := 19) rfl (SubE.cons2 (i := 18) rfl (SubE.cons2 (i := 17) rfl (SubE.cons2 (i := 16) rfl (SubE.cons2 (i := 14) rfl (SubE.cons2 (i := 15) rfl (SubE.cons2 (i := 10) rfl (SubE.cons2 (i := 11) rfl (SubE.cons2 (i := 12) rfl (SubE.cons2 (i := 13) rfl (SubE.cons2 (i := 9) rfl (SubE.cons2 (i := 8) rfl (SubE.cons2 (i := 7) rfl (SubE.cons2 (i := 6) rfl (SubE.cons2 (i := 4) rfl (SubE.cons2 (i := 5) rfl (SubE.cons2 (i := 0) rfl (SubE.cons2 (i := 1) rfl (SubE.cons2 (i := 2) rfl (SubE.cons2 (i := 3) rfl (SubE.nil))))))))))))))))))))))) hw1)) rfl ?_)
        rintro _ _ hlo ⟨rfl, rfl, -⟩
        refine T_app0 ?_
        refine T_val (Ev_mul_w64 rfl rfl) rfl ?_
        refine T_val (Ev_assign rfl) rfl ?_
        refine T_val (Ev_assign rfl) rfl ?_
        refine T_nil ?_
        refine T_next ?_
        refine T_retc ?_
        obtain rfl := Option.some.inj hx366
        exact T_retP (rs := [.tmp 8, .tmp 9]) Tryz.results80 (.tmp rfl (.tmp rfl (.nil))) (Ln := []) ⟨rfl, rfl, trivial⟩ (loNil) (by exact .drop 0 rfl (.drop 0 rfl (.drop 0 rfl (.drop 0 rfl (.drop 0 rfl (.drop 0 rfl (.drop 0 rfl (.drop 0 rfl (.drop 0 rfl (.drop 0 rfl (.drop 0 rfl (.drop 0 rfl (.drop 0 rfl (.drop 0 rfl (.drop 0 rfl (.drop 0 rfl (.drop 0 rfl (.drop 0 rfl (.drop 0 rfl (.drop 0 rfl (.drop 0 rfl (.drop 0 rfl (.drop 0 rfl (.drop 0 rfl (.drop 0 rfl (.drop 0 rfl (.refl)))))))))))))))))))))))))))
      · skip
        obtain ⟨r22, h23, hx68⟩ := bnd_some hx21
        obtain ⟨r25, h26, hx69⟩ := bnd_some hx68
        obtain ⟨r35, h36, hx70⟩ := bnd_some hx69
        obtain ⟨r38, h39, hx71⟩ := bnd_some hx70
        obtain ⟨r52, h53, hx72⟩ := bnd_some hx71
        refine T_draw [1, 1, 2, 2, 1, 1, 1, 2, 2, 2, 2, 3] [[], [], [0, 1], [0, 1, 2], [], [], [], [0, 1, 2, 3, 4, 5, 6], [0, 1, 2, 3, 4, 5, 6, 7], [0, 1, 2, 3, 4, 5, 6, 7, 8], [], [0, 1, 2, 3, 4, 5, 6, 7, 8, 9, 10]] (.q 0 (.q 1 (.q 4 (.q 5 (.q 6 (.e 2 (.e 3 (.e 7 (.e 8 (.e 9 (.e 10 (.e 11 (.done) (.stop)) (.stop)) (.e 10 (.e 9 (.e 11 (.done) (.stop)) (.stop)) (.stop))) (.e 10 (.e 8 (.e 9 (.e 11 (.done) (.stop)) (.stop)) (.stop)) (.stop))) (.e 10 (.e 7 (.e 8 (.e 9 (.e 11 (.done) (.stop)) (.stop)) (.stop)) (.stop)) (.stop))) (.e 10 (.e 3 (.e 7 (.e 8 (.e 9 (.e 11 (.done) (.stop)) (.stop)) (.stop)) (.stop)) (.stop)) (.stop))) (.e 10 (.e 2 (.e 3 (.e 7 (.e 8 (.e 9 (.e 11 (.done) (.stop)) (.stop)) (.stop)) (.stop)) (.stop)) (.stop)) (.stop)))))))) mixed (by kernel_rfl) (by kernel_rfl) ?_
        refine P_q rfl rfl (Ev_loadK rfl (i := 4) rfl rfl agg38) rfl ?_
        refine P_q rfl rfl (Ev_loadK rfl (i := 1) rfl rfl agg38) rfl ?_
        refine P_q rfl rfl (Ev_loadK rfl (i := 1) rfl rfl agg38) rfl ?_
        refine P_q rfl rfl (Ev_loadK rfl (i := 3) rfl rfl agg38) rfl ?_
        refine P_q rfl rfl (Ev_loadK rfl (i := 2) rfl rfl agg38) rfl ?_
        refine P_x rfl (Wx_callL rfl (fun w1 hw1 => exact_lift_ok p0 p3  h23 w1) rfl ?_) ?_
        · skip
          rintro _ _ hlo ⟨rfl, rfl, -⟩
          refine T_app0 ?_
          refine P_x rfl (Wx_callL rfl (fun w1 hw1 => ratio_Int_ok r22  h26 w1) rfl ?_) ?_
          · skip
            rintro _ _ hlo ⟨A73, c74, A75, c76, e77, rfl, rfl, hs78, -⟩
            have lo79 := hlo e77 (by simp)
            refine T_app2 ?_
            refine P_x rfl (Wx_callL rfl (fun w1 hw1 => exact_cross_ok p3 p1 p2  h36 w1) rfl ?_) ?_
            · skip
              rintro _ _ hlo ⟨rfl, rfl, -⟩
              refine T_app0 ?_
              refine P_x rfl (Wx_callL rfl (fun w1 hw1 => ratio_Int_ok r35  h39 w1) rfl ?_) ?_
              · skip
                rintro _ _ hlo ⟨A80, c81, A82, c83, e84, rfl, rfl, hs85, -⟩
                have lo86 := hlo e84 (by simp)
                refine T_app2 ?_
                refine T_rowP (k := 2) rfl (by decide) (fun _ => rfl) (fun hn87 hs88 => ?_)
                refine T_rowP (k := 0) rfl (by decide) (fun _ => rfl) (fun hn89 hs90 => ?_)
                refine P_x rfl (Wx_callL rfl (fun w1 hw1 => ratio_Num_Mul_ok r25 r38 (Has.len' (Has.up (L := ([e77, .r (A75) ((r25.d).length) (c76) 141 1 ((r25.d).flatMap e_u32), e84, .r (A82) ((r38.d).length) (c83) 141 1 ((r38.d).flatMap e_u32)] : List Ent)) hs78 (SubE.cons2 (i := 0) rfl (SubE.nil)))) (Has.len' (Has.up (L := ([e77, .r (A75) ((r25.d).length) (c76) 141 1 ((r25.d).flatMap e_u32), e84, .r (A82) ((r38.d).length) (c83) 141 1 ((r38.d).flatMap e_u32)] : List Ent)) hs88 (SubE.cons2 (i := 1) rfl (SubE.nil)))) (Has.len' (Has.up (L := ([e77, .r (A75) ((r25.d).length) (c76) 141 1 ((r25.d).flatMap e_u32), e84, .r (A82) ((r38.d).length) (c83) 141 1 ((r38.d).flatMap e_u32)] : List Ent)) hs85 (SubE.cons2 (i := 2) rfl (SubE.nil)))) (Has.len' (Has.up (L := ([e77, .r (A75) ((r25.d).length) (c76) 141 1 ((r25.d).flatMap e_u32), e84, .r (A82) ((r38.d).length) (c83) 141 1 ((r38.d).flatMap e_u32)] : List Ent)) hs90 (SubE.cons2 (i := 3) rfl (SubE.nil)))) h53 w1 (okAll (K := ([e77, .r (A75) ((r25.d).length) (c76) 141 1 ((r25.d).flatMap e_u32), e84, .r (A82) ((r38.d).length) (c83) 141 1 ((r38.d).flatMap e_u32)] : List Ent)) (by exact (SubE.cons2 (i := 3) rfl (SubE.cons2 (i := 2) rfl (SubE.cons2 (i := 1) rfl (SubE.cons2 (i := 0) rfl (SubE.nil)))))) hw1)) rfl ?_) ?_
                · skip
                  rintro _ _ hlo ⟨A91, c92, A93, c94, e95, e96, rfl, rfl, hs97, hs98, -⟩
                  have lo99 := hlo e95 (by simp)
                  have lo100 := hlo e96 (by simp)
                  refine T_app2 ?_
                  have hs101 : Has ([e77, .r (A75) ((r25.d).length) (c76) 141 1 ((r25.d).flatMap e_u32), e84, .r (A82) ((r38.d).length) (c83) 141 1 ((r38.d).flatMap e_u32), e95, e96] : List Ent) _ _ _ _ _ _ := id hs97
                  have hs102 : Has ([e77, .r (A75) ((r25.d).length) (c76) 141 1 ((r25.d).flatMap e_u32), e84, .r (A82) ((r38.d).length) (c83) 141 1 ((r38.d).flatMap e_u32), e95, e96] : List Ent) _ _ _ _ _ _ := id hs98
                  refine P_x rfl (Wx_alloc zer125 rfl (fun g103 => ?_)) ?_
                  rotate_left; exact P_stop
                  refine P_h rfl rfl (Wh_store rfl rfl rfl (.here) (.put (.put (.put (.done)))) rfl (List.cons_ne_nil _ _) agg125.2 ?_) ?_
                  rotate_left; exact P_stop
                  refine P_done ?_
                  refine T_bundle (es := [e77, .r (A75) ((r25.d).length) (c76) 141 1 ((r25.d).flatMap e_u32), e84, .r (A82) ((r38.d).length) (c83) 141 1 ((r38.d).flatMap e_u32), e95, e96]) (by exact .pick 6 rfl (.pick 5 rfl (.pick 4 rfl (.pick 3 rfl (.pick 1 rfl (.pick 1 rfl (.refl))))))) (loCons lo79 (loCons rfl (loCons lo86 (loCons rfl (loCons lo99 (loCons lo100 (loNil))))))) ?_
                  exact T_metP (r52.neg, r52.n, r52.d) (g103, A91, c92, bun [e77, .r (A75) ((r25.d).length) (c76) 141 1 ((r25.d).flatMap e_u32), e84, .r (A82) ((r38.d).length) (c83) 141 1 ((r38.d).flatMap e_u32), e95, e96], A93, c94) hx72 ((by exact ⟨rfl, Has.len' ((Has.up (L := ([(bun [e77, .r (A75) ((r25.d).length) (c76) 141 1 ((r25.d).flatMap e_u32), e84, .r (A82) ((r38.d).length) (c83) 141 1 ((r38.d).flatMap e_u32), e95, e96])] : List Ent)) hs101 (SubE.consB (i := 0) (j := 0) rfl rfl (SubE.consB (i := 0) (j := 1) rfl rfl (SubE.consB (i := 0) (j := 2) rfl rfl (SubE.consB (i := 0) (j := 3) rfl rfl (SubE.consB (i := 0) (j := 4) rfl rfl (SubE.consB (i := 0) (j := 5) rfl rfl (SubE.nil))))))))), Has.len' ((Has.up (L := ([(bun [e77, .r (A75) ((r25.d).length) (c76) 141 1 ((r25.d).flatMap e_u32), e84, .r (A82) ((r38.d).length) (c83) 141 1 ((r38.d).flatMap e_u32), e95, e96])] : List Ent)) hs102 (SubE.consB (i := 0) (j := 0) rfl rfl (SubE.consB (i := 0) (j := 1) rfl rfl (SubE.consB (i := 0) (j := 2) rfl rfl (SubE.consB (i := 0) (j := 3) rfl rfl (SubE.consB (i := 0) (j := 4) rfl rfl (SubE.consB (i := 0) (j := 5) rfl rfl (SubE.nil))))))))), trivial⟩)) (by exact .cons rfl (.cons rfl (.cons rfl (.cons rfl (.cons rfl (.cons rfl (.nil))))))) (by exact .pick 0 rfl (.pick 0 rfl (.pick 1 rfl (.pick 1 rfl (.pick 1 rfl (.pick 1 rfl (.drop 0 rfl (.refl))))))))
                · skip
                  refine P_x rfl (Wx_alloc zer125 rfl (fun g104 => ?_)) ?_
                  rotate_left; exact P_stop
                  refine T_rowP (k := 3) rfl (by decide) (fun _ => rfl) (fun hn105 hs106 => ?_)
                  refine T_rowP (k := 1) rfl (by decide) (fun _ => rfl) (fun hn107 hs108 => ?_)
                  refine P_x rfl (Wx_callL rfl (fun w1 hw1 => ratio_Num_Mul_ok r25 r38 (Has.len' (Has.up (L := ([e77, .r (A75) ((r25.d).length) (c76) 141 1 ((r25.d).flatMap e_u32), e84, .r (A82) ((r38.d).length) (c83) 141 1 ((r38.d).flatMap e_u32)] : List Ent)) hs78 (SubE.cons2 (i := 0) rfl (SubE.nil)))) (Has.len' (Has.up (L := ([e77, .r (A75) ((r25.d).length) (c76) 141 1 ((r25.d).flatMap e_u32), e84, .r (A82) ((r38.d).length) (c83) 141 1 ((r38.d).flatMap e_u32)] : List Ent)) hs106 (SubE.cons2 (i := 1) rfl (SubE.nil)))) (Has.len' (Has.up (L := ([e77, .r (A75) ((r25.d).length) (c76) 141 1 ((r25.d).flatMap e_u32), e84, .r (A82) ((r38.d).length) (c83) 141 1 ((r38.d).flatMap e_u32)] : List Ent)) hs85 (SubE.cons2 (i := 2) rfl (SubE.nil)))) (Has.len' (Has.up (L := ([e77, .r (A75) ((r25.d).length) (c76) 141 1 ((r25.d).flatMap e_u32), e84, .r (A82) ((r38.d).length) (c83) 141 1 ((r38.d).flatMap e_u32)] : List Ent)) hs108 (SubE.cons2 (i := 3) rfl (SubE.nil)))) h53 w1 (okAll (K := ([e77, .r (A75) ((r25.d).length) (c76) 141 1 ((r25.d).flatMap e_u32), e84, .r (A82) ((r38.d).length) (c83) 141 1 ((r38.d).flatMap e_u32)] : List Ent)) (by exact (SubE.cons2 (i := 4) rfl (SubE.cons2 (i := 3) rfl (SubE.cons2 (i := 2) rfl (SubE.cons2 (i := 1) rfl (SubE.nil)))))) hw1)) rfl ?_) ?_
                  rotate_left; exact P_stop
                  rintro _ _ hlo ⟨A109, c110, A111, c112, e113, e114, rfl, rfl, hs115, hs116, -⟩
                  have lo117 := hlo e113 (by simp)
                  have lo118 := hlo e114 (by simp)
                  refine T_app2 ?_
                  have hs119 : Has ([e77, .r (A75) ((r25.d).length) (c76) 141 1 ((r25.d).flatMap e_u32), e84, .r (A82) ((r38.d).length) (c83) 141 1 ((r38.d).flatMap e_u32), e113, e114] : List Ent) _ _ _ _ _ _ := id hs115
                  have hs120 : Has ([e77, .r (A75) ((r25.d).length) (c76) 141 1 ((r25.d).flatMap e_u32), e84, .r (A82) ((r38.d).length) (c83) 141 1 ((r38.d).flatMap e_u32), e113, e114] : List Ent) _ _ _ _ _ _ := id hs116
                  refine P_h rfl rfl (Wh_store rfl rfl rfl (.there (.there (.here))) (.put (.put (.put (.done)))) rfl (List.cons_ne_nil _ _) agg125.2 ?_) ?_
                  rotate_left; exact P_stop
                  refine P_done ?_
                  refine T_bundle (es := [e77, .r (A75) ((r25.d).length) (c76) 141 1 ((r25.d).flatMap e_u32), e84, .r (A82) ((r38.d).length) (c83) 141 1 ((r38.d).flatMap e_u32), e113, e114]) (by exact .pick 6 rfl (.pick 5 rfl (.pick 4 rfl (.pick 3 rfl (.pick 0 rfl (.pick 0 rfl (.refl))))))) (loCons lo79 (loCons rfl (loCons lo86 (loCons rfl (loCons lo117 (loCons lo118 (loNil))))))) ?_
                  exact T_metP (r52.neg, r52.n, r52.d) (g104, A109, c110, bun [e77, .r (A75) ((r25.d).length) (c76) 141 1 ((r25.d).flatMap e_u32), e84, .r (A82) ((r38.d).length) (c83) 141 1 ((r38.d).flatMap e_u32), e113, e114], A111, c112) hx72 ((by exact ⟨rfl, Has.len' ((Has.up (L := ([(bun [e77, .r (A75) ((r25.d).length) (c76) 141 1 ((r25.d).flatMap e_u32), e84, .r (A82) ((r38.d).length) (c83) 141 1 ((r38.d).flatMap e_u32), e113, e114])] : List Ent)) hs119 (SubE.consB (i := 0) (j := 0) rfl rfl (SubE.consB (i := 0) (j := 1) rfl rfl (SubE.consB (i := 0) (j := 2) rfl rfl (SubE.consB (i := 0) (j := 3) rfl rfl (SubE.consB (i := 0) (j := 4) rfl rfl (SubE.consB (i := 0) (j := 5) rfl rfl (SubE.nil))))))))), Has.len' ((Has.up (L := ([(bun [e77, .r (A75) ((r25.d).length) (c76) 141 1 ((r25.d).flatMap e_u32), e84, .r (A82) ((r38.d).length) (c83) 141 1 ((r38.d).flatMap e_u32), e113, e114])] : List Ent)) hs120 (SubE.consB (i := 0) (j := 0) rfl rfl (SubE.consB (i := 0) (j := 1) rfl rfl (SubE.consB (i := 0) (j := 2) rfl rfl (SubE.consB (i := 0) (j := 3) rfl rfl (SubE.consB (i := 0) (j := 4) rfl rfl (SubE.consB (i := 0) (j := 5) rfl rfl (SubE.nil))))))))), trivial⟩)) (by exact .cons rfl (.cons rfl (.cons rfl (.cons rfl (.cons rfl (.cons rfl (.nil))))))) (by exact .pick 0 rfl (.pick 0 rfl (.pick 1 rfl (.pick 1 rfl (.pick 1 rfl (.pick 1 rfl (.drop 0 rfl (.refl))))))))
              · skip
                refine P_x rfl (Wx_alloc zer125 rfl (fun g121 => ?_)) ?_
                rotate_left; exact P_stop
                refine P_x rfl (Wx_callL rfl (fun w1 hw1 => ratio_Int_ok r35  h39 w1) rfl ?_) ?_
                rotate_left; exact P_stop
                rintro _ _ hlo ⟨A122, c123, A124, c125, e126, rfl, rfl, hs127, -⟩
                have lo128 := hlo e126 (by simp)
                refine T_app2 ?_
                refine T_rowP (k := 3) rfl (by decide) (fun _ => rfl) (fun hn129 hs130 => ?_)
                refine T_rowP (k := 0) rfl (by decide) (fun _ => rfl) (fun hn131 hs132 => ?_)
                refine P_x rfl (Wx_callL rfl (fun w1 hw1 => ratio_Num_Mul_ok r25 r38 (Has.len' (Has.up (L := ([e77, .r (A75) ((r25.d).length) (c76) 141 1 ((r25.d).flatMap e_u32), e126, .r (A124) ((r38.d).length) (c125) 141 1 ((r38.d).flatMap e_u32)] : List Ent)) hs78 (SubE.cons2 (i := 0) rfl (SubE.nil)))) (Has.len' (Has.up (L := ([e77, .r (A75) ((r25.d).length) (c76) 141 1 ((r25.d).flatMap e_u32), e126, .r (A124) ((r38.d).length) (c125) 141 1 ((r38.d).flatMap e_u32)] : List Ent)) hs130 (SubE.cons2 (i := 1) rfl (SubE.nil)))) (Has.len' (Has.up (L := ([e77, .r (A75) ((r25.d).length) (c76) 141 1 ((r25.d).flatMap e_u32), e126, .r (A124) ((r38.d).length) (c125) 141 1 ((r38.d).flatMap e_u32)] : List Ent)) hs127 (SubE.cons2 (i := 2) rfl (SubE.nil)))) (Has.len' (Has.up (L := ([e77, .r (A75) ((r25.d).length) (c76) 141 1 ((r25.d).flatMap e_u32), e126, .r (A124) ((r38.d).length) (c125) 141 1 ((r38.d).flatMap e_u32)] : List Ent)) hs132 (SubE.cons2 (i := 3) rfl (SubE.nil)))) h53 w1 (okAll (K := ([e77, .r (A75) ((r25.d).length) (c76) 141 1 ((r25.d).flatMap e_u32), e126, .r (A124) ((r38.d).length) (c125) 141 1 ((r38.d).flatMap e_u32)] : List Ent)) (by exact (SubE.cons2 (i := 4) rfl (SubE.cons2 (i := 3) rfl (SubE.cons2 (i := 1) rfl (SubE.cons2 (i := 0) rfl (SubE.nil)))))) hw1)) rfl ?_) ?_
                rotate_left; exact P_stop
                rintro _ _ hlo ⟨A133, c134, A135, c136, e137, e138, rfl, rfl, hs139, hs140, -⟩
                have lo141 := hlo e137 (by simp)
                have lo142 := hlo e138 (by simp)
                refine T_app2 ?_
                have hs143 : Has ([e77, .r (A75) ((r25.d).length) (c76) 141 1 ((r25.d).flatMap e_u32), e126, .r (A124) ((r38.d).length) (c125) 141 1 ((r38.d).flatMap e_u32), e137, e138] : List Ent) _ _ _ _ _ _ := id hs139
                have hs144 : Has ([e77, .r (A75) ((r25.d).length) (c76) 141 1 ((r25.d).flatMap e_u32), e126, .r (A124) ((r38.d).length) (c125) 141 1 ((r38.d).flatMap e_u32), e137, e138] : List Ent) _ _ _ _ _ _ := id hs140
                refine P_h rfl rfl (Wh_store rfl rfl rfl (.there (.there (.there (.there (.here))))) (.put (.put (.put (.done)))) rfl (List.cons_ne_nil _ _) agg125.2 ?_) ?_
                rotate_left; exact P_stop
                refine P_done ?_
                refine T_bundle (es := [e77, .r (A75) ((r25.d).length) (c76) 141 1 ((r25.d).flatMap e_u32), e126, .r (A124) ((r38.d).length) (c125) 141 1 ((r38.d).flatMap e_u32), e137, e138]) (by exact .pick 6 rfl (.pick 5 rfl (.pick 3 rfl (.pick 2 rfl (.pick 0 rfl (.pick 0 rfl (.refl))))))) (loCons lo79 (loCons rfl (loCons lo128 (loCons rfl (loCons lo141 (loCons lo142 (loNil))))))) ?_
                exact T_metP (r52.neg, r52.n, r52.d) (g121, A133, c134, bun [e77, .r (A75) ((r25.d).length) (c76) 141 1 ((r25.d).flatMap e_u32), e126, .r (A124) ((r38.d).length) (c125) 141 1 ((r38.d).flatMap e_u32), e137, e138], A135, c136) hx72 ((by exact ⟨rfl, Has.len' ((Has.up (L := ([(bun [e77, .r (A75) ((r25.d).length) (c76) 141 1 ((r25.d).flatMap e_u32), e126, .r (A124) ((r38.d).length) (c125) 141 1 ((r38.d).flatMap e_u32), e137, e138])] : List Ent)) hs143 (SubE.consB (i := 0) (j := 0) rfl rfl (SubE.consB (i := 0) (j := 1) rfl rfl (SubE.consB (i := 0) (j := 2) rfl rfl (SubE.consB (i := 0) (j := 3) rfl rfl (SubE.consB (i := 0) (j := 4) rfl rfl (SubE.consB (i := 0) (j := 5) rfl rfl (SubE.nil))))))))), Has.len' ((Has.up (L := ([(bun [e77, .r (A75) ((r25.d).length) (c76) 141 1 ((r25.d).flatMap e_u32), e126, .r (A124) ((r38.d).length) (c125) 141 1 ((r38.d).flatMap e_u32), e137, e138])] : List Ent)) hs144 (SubE.consB (i := 0) (j := 0) rfl rfl (SubE.consB (i := 0) (j := 1) rfl rfl (SubE.consB (i := 0) (j := 2) rfl rfl (SubE.consB (i := 0) (j := 3) rfl rfl (SubE.consB (i := 0) (j := 4) rfl rfl (SubE.consB (i := 0) (j := 5) rfl rfl (SubE.nil))))))))), trivial⟩)) (by exact .cons rfl (.cons rfl (.cons rfl (.cons rfl (.cons rfl (.cons rfl (.nil))))))) (by exact .pick 0 rfl (.pick 0 rfl (.pick 1 rfl (.pick 1 rfl (.pick 1 rfl (.pick 1 rfl (.drop 0 rfl (.refl))))))))
            · skip
              refine P_x rfl (Wx_alloc zer125 rfl (fun g145 => ?_)) ?_
              rotate_left; exact P_stop
              refine P_x rfl (Wx_callL rfl (fun w1 hw1 => exact_cross_ok p3 p1 p2  h36 w1) rfl ?_) ?_
              rotate_left; exact P_stop
              rintro _ _ hlo ⟨rfl, rfl, -⟩
              refine T_app0 ?_
              refine P_x rfl (Wx_callL rfl (fun w1 hw1 => ratio_Int_ok r35  h39 w1) rfl ?_) ?_
              rotate_left; exact P_stop
              rintro _ _ hlo ⟨A146, c147, A148, c149, e150, rfl, rfl, hs151, -⟩
              have lo152 := hlo e150 (by simp)
              refine T_app2 ?_
              refine T_rowP (k := 3) rfl (by decide) (fun _ => rfl) (fun hn153 hs154 => ?_)
              refine T_rowP (k := 0) rfl (by decide) (fun _ => rfl) (fun hn155 hs156 => ?_)
              refine P_x rfl (Wx_callL rfl (fun w1 hw1 => ratio_Num_Mul_ok r25 r38 (Has.len' (Has.up (L := ([e77, .r (A75) ((r25.d).length) (c76) 141 1 ((r25.d).flatMap e_u32), e150, .r (A148) ((r38.d).length) (c149) 141 1 ((r38.d).flatMap e_u32)] : List Ent)) hs78 (SubE.cons2 (i := 0) rfl (SubE.nil)))) (Has.len' (Has.up (L := ([e77, .r (A75) ((r25.d).length) (c76) 141 1 ((r25.d).flatMap e_u32), e150, .r (A148) ((r38.d).length) (c149) 141 1 ((r38.d).flatMap e_u32)] : List Ent)) hs154 (SubE.cons2 (i := 1) rfl (SubE.nil)))) (Has.len' (Has.up (L := ([e77, .r (A75) ((r25.d).length) (c76) 141 1 ((r25.d).flatMap e_u32), e150, .r (A148) ((r38.d).length) (c149) 141 1 ((r38.d).flatMap e_u32)] : List Ent)) hs151 (SubE.cons2 (i := 2) rfl (SubE.nil)))) (Has.len' (Has.up (L := ([e77, .r (A75) ((r25.d).length) (c76) 141 1 ((r25.d).flatMap e_u32), e150, .r (A148) ((r38.d).length) (c149) 141 1 ((r38.d).flatMap e_u32)] : List Ent)) hs156 (SubE.cons2 (i := 3) rfl (SubE.nil)))) h53 w1 (okAll (K := ([e77, .r (A75) ((r25.d).length) (c76) 141 1 ((r25.d).flatMap e_u32), e150, .r (A148) ((r38.d).length) (c149) 141 1 ((r38.d).flatMap e_u32)] : List Ent)) (by exact (SubE.cons2 (i := 4) rfl (SubE.cons2 (i := 3) rfl (SubE.cons2 (i := 1) rfl (SubE.cons2 (i := 0) rfl (SubE.nil)))))) hw1)) rfl ?_) ?_
              rotate_left; exact P_stop
              rintro _ _ hlo ⟨A157, c158, A159, c160, e161, e162, rfl, rfl, hs163, hs164, -⟩
              have lo165 := hlo e161 (by simp)
              have lo166 := hlo e162 (by simp)
              refine T_app2 ?_
              have hs167 : Has ([e77, .r (A75) ((r25.d).length) (c76) 141 1 ((r25.d).flatMap e_u32), e150, .r (A148) ((r38.d).length) (c149) 141 1 ((r38.d).flatMap e_u32), e161, e162] : List Ent) _ _ _ _ _ _ := id hs163
              have hs168 : Has ([e77, .r (A75) ((r25.d).length) (c76) 141 1 ((r25.d).flatMap e_u32), e150, .r (A148) ((r38.d).length) (c149) 141 1 ((r38.d).flatMap e_u32), e161, e162] : List Ent) _ _ _ _ _ _ := id hs164
              refine P_h rfl rfl (Wh_store rfl rfl rfl (.there (.there (.there (.there (.here))))) (.put (.put (.put (.done)))) rfl (List.cons_ne_nil _ _) agg125.2 ?_) ?_
              rotate_left; exact P_stop
              refine P_done ?_
              refine T_bundle (es := [e77, .r (A75) ((r25.d).length) (c76) 141 1 ((r25.d).flatMap e_u32), e150, .r (A148) ((r38.d).length) (c149) 141 1 ((r38.d).flatMap e_u32), e161, e162]) (by exact .pick 6 rfl (.pick 5 rfl (.pick 3 rfl (.pick 2 rfl (.pick 0 rfl (.pick 0 rfl (.refl))))))) (loCons lo79 (loCons rfl (loCons lo152 (loCons rfl (loCons lo165 (loCons lo166 (loNil))))))) ?_
              exact T_metP (r52.neg, r52.n, r52.d) (g145, A157, c158, bun [e77, .r (A75) ((r25.d).length) (c76) 141 1 ((r25.d).flatMap e_u32), e150, .r (A148) ((r38.d).length) (c149) 141 1 ((r38.d).flatMap e_u32), e161, e162], A159, c160) hx72 ((by exact ⟨rfl, Has.len' ((Has.up (L := ([(bun [e77, .r (A75) ((r25.d).length) (c76) 141 1 ((r25.d).flatMap e_u32), e150, .r (A148) ((r38.d).length) (c149) 141 1 ((r38.d).flatMap e_u32), e161, e162])] : List Ent)) hs167 (SubE.consB (i := 0) (j := 0) rfl rfl (SubE.consB (i := 0) (j := 1) rfl rfl (SubE.consB (i := 0) (j := 2) rfl rfl (SubE.consB (i := 0) (j := 3) rfl rfl (SubE.consB (i := 0) (j := 4) rfl rfl (SubE.consB (i := 0) (j := 5) rfl rfl (SubE.nil))))))))), Has.len' ((Has.up (L := ([(bun [e77, .r (A75) ((r25.d).length) (c76) 141 1 ((r25.d).flatMap e_u32), e150, .r (A148) ((r38.d).length) (c149) 141 1 ((r38.d).flatMap e_u32), e161, e162])] : List Ent)) hs168 (SubE.consB (i := 0) (j := 0) rfl rfl (SubE.consB (i := 0) (j := 1) rfl rfl (SubE.consB (i := 0) (j := 2) rfl rfl (SubE.consB (i := 0) (j := 3) rfl rfl (SubE.consB (i := 0) (j := 4) rfl rfl (SubE.consB (i := 0) (j := 5) rfl rfl (SubE.nil))))))))), trivial⟩)) (by exact .cons rfl (.cons rfl (.cons rfl (.cons rfl (.cons rfl (.cons rfl (.nil))))))) (by exact .pick 0 rfl (.pick 0 rfl (.pick 1 rfl (.pick 1 rfl (.pick 1 rfl (.pick 1 rfl (.drop 0 rfl (.refl))))))))
          · skip
            refine P_x rfl (Wx_alloc zer125 rfl (fun g169 => ?_)) ?_
            rotate_left; exact P_stop
            refine P_x rfl (Wx_callL rfl (fun w1 hw1 => ratio_Int_ok r22  h26 w1) rfl ?_) ?_
            rotate_left; exact P_stop
            rintro _ _ hlo ⟨A170, c171, A172, c173, e174, rfl, rfl, hs175, -⟩
            have lo176 := hlo e174 (by simp)
            refine T_app2 ?_
            refine P_x rfl (Wx_callL rfl (fun w1 hw1 => exact_cross_ok p3 p1 p2  h36 w1) rfl ?_) ?_
            rotate_left; exact P_stop
            rintro _ _ hlo ⟨rfl, rfl, -⟩
            refine T_app0 ?_
            refine P_x rfl (Wx_callL rfl (fun w1 hw1 => ratio_Int_ok r35  h39 w1) rfl ?_) ?_
            rotate_left; exact P_stop
            rintro _ _ hlo ⟨A177, c178, A179, c180, e181, rfl, rfl, hs182, -⟩
            have lo183 := hlo e181 (by simp)
            refine T_app2 ?_
            refine T_rowP (k := 2) rfl (by decide) (fun _ => rfl) (fun hn184 hs185 => ?_)
            refine T_rowP (k := 0) rfl (by decide) (fun _ => rfl) (fun hn186 hs187 => ?_)
            refine P_x rfl (Wx_callL rfl (fun w1 hw1 => ratio_Num_Mul_ok r25 r38 (Has.len' (Has.up (L := ([e174, .r (A172) ((r25.d).length) (c173) 141 1 ((r25.d).flatMap e_u32), e181, .r (A179) ((r38.d).length) (c180) 141 1 ((r38.d).flatMap e_u32)] : List Ent)) hs175 (SubE.cons2 (i := 0) rfl (SubE.nil)))) (Has.len' (Has.up (L := ([e174, .r (A172) ((r25.d).length) (c173) 141 1 ((r25.d).flatMap e_u32), e181, .r (A179) ((r38.d).length) (c180) 141 1 ((r38.d).flatMap e_u32)] : List Ent)) hs185 (SubE.cons2 (i := 1) rfl (SubE.nil)))) (Has.len' (Has.up (L := ([e174, .r (A172) ((r25.d).length) (c173) 141 1 ((r25.d).flatMap e_u32), e181, .r (A179) ((r38.d).length) (c180) 141 1 ((r38.d).flatMap e_u32)] : List Ent)) hs182 (SubE.cons2 (i := 2) rfl (SubE.nil)))) (Has.len' (Has.up (L := ([e174, .r (A172) ((r25.d).length) (c173) 141 1 ((r25.d).flatMap e_u32), e181, .r (A179) ((r38.d).length) (c180) 141 1 ((r38.d).flatMap e_u32)] : List Ent)) hs187 (SubE.cons2 (i := 3) rfl (SubE.nil)))) h53 w1 (okAll (K := ([e174, .r (A172) ((r25.d).length) (c173) 141 1 ((r25.d).flatMap e_u32), e181, .r (A179) ((r38.d).length) (c180) 141 1 ((r38.d).flatMap e_u32)] : List Ent)) (by exact (SubE.cons2 (i := 3) rfl (SubE.cons2 (i := 2) rfl (SubE.cons2 (i := 1) rfl (SubE.cons2 (i := 0) rfl (SubE.nil)))))) hw1)) rfl ?_) ?_
            rotate_left; exact P_stop
            rintro _ _ hlo ⟨A188, c189, A190, c191, e192, e193, rfl, rfl, hs194, hs195, -⟩
            have lo196 := hlo e192 (by simp)
            have lo197 := hlo e193 (by simp)
            refine T_app2 ?_
            have hs198 : Has ([e174, .r (A172) ((r25.d).length) (c173) 141 1 ((r25.d).flatMap e_u32), e181, .r (A179) ((r38.d).length) (c180) 141 1 ((r38.d).flatMap e_u32), e192, e193] : List Ent) _ _ _ _ _ _ := id hs194
            have hs199 : Has ([e174, .r (A172) ((r25.d).length) (c173) 141 1 ((r25.d).flatMap e_u32), e181, .r (A179) ((r38.d).length) (c180) 141 1 ((r38.d).flatMap e_u32), e192, e193] : List Ent) _ _ _ _ _ _ := id hs195
            refine P_h rfl rfl (Wh_store rfl rfl rfl (.there (.there (.there (.there (.there (.there (.here))))))) (.put (.put (.put (.done)))) rfl (List.cons_ne_nil _ _) agg125.2 ?_) ?_
            rotate_left; exact P_stop
            refine P_done ?_
            refine T_bundle (es := [e174, .r (A172) ((r25.d).length) (c173) 141 1 ((r25.d).flatMap e_u32), e181, .r (A179) ((r38.d).length) (c180) 141 1 ((r38.d).flatMap e_u32), e192, e193]) (by exact .pick 5 rfl (.pick 4 rfl (.pick 3 rfl (.pick 2 rfl (.pick 0 rfl (.pick 0 rfl (.refl))))))) (loCons lo176 (loCons rfl (loCons lo183 (loCons rfl (loCons lo196 (loCons lo197 (loNil))))))) ?_
            exact T_metP (r52.neg, r52.n, r52.d) (g169, A188, c189, bun [e174, .r (A172) ((r25.d).length) (c173) 141 1 ((r25.d).flatMap e_u32), e181, .r (A179) ((r38.d).length) (c180) 141 1 ((r38.d).flatMap e_u32), e192, e193], A190, c191) hx72 ((by exact ⟨rfl, Has.len' ((Has.up (L := ([(bun [e174, .r (A172) ((r25.d).length) (c173) 141 1 ((r25.d).flatMap e_u32), e181, .r (A179) ((r38.d).length) (c180) 141 1 ((r38.d).flatMap e_u32), e192, e193])] : List Ent)) hs198 (SubE.consB (i := 0) (j := 0) rfl rfl (SubE.consB (i := 0) (j := 1) rfl rfl (SubE.consB (i := 0) (j := 2) rfl rfl (SubE.consB (i := 0) (j := 3) rfl rfl (SubE.consB (i := 0) (j := 4) rfl rfl (SubE.consB (i := 0) (j := 5) rfl rfl (SubE.nil))))))))), Has.len' ((Has.up (L := ([(bun [e174, .r (A172) ((r25.d).length) (c173) 141 1 ((r25.d).flatMap e_u32), e181, .r (A179) ((r38.d).length) (c180) 141 1 ((r38.d).flatMap e_u32), e192, e193])] : List Ent)) hs199 (SubE.consB (i := 0) (j := 0) rfl rfl (SubE.consB (i := 0) (j := 1) rfl rfl (SubE.consB (i := 0) (j := 2) rfl rfl (SubE.consB (i := 0) (j := 3) rfl rfl (SubE.consB (i := 0) (j := 4) rfl rfl (SubE.consB (i := 0) (j := 5) rfl rfl (SubE.nil))))))))), trivial⟩)) (by exact .cons rfl (.cons rfl (.cons rfl (.cons rfl (.cons rfl (.cons rfl (.nil))))))) (by exact .pick 0 rfl (.pick 0 rfl (.pick 1 rfl (.pick 1 rfl (.pick 1 rfl (.pick 1 rfl (.drop 0 rfl (.refl))))))))
        · skip
          refine P_x rfl (Wx_alloc zer125 rfl (fun g200 => ?_)) ?_
          rotate_left; exact P_stop
          refine P_x rfl (Wx_callL rfl (fun w1 hw1 => exact_lift_ok p0 p3  h23 w1) rfl ?_) ?_
          rotate_left; exact P_stop
          rintro _ _ hlo ⟨rfl, rfl, -⟩
          refine T_app0 ?_
          refine P_x rfl (Wx_callL rfl (fun w1 hw1 => ratio_Int_ok r22  h26 w1) rfl ?_) ?_
          rotate_left; exact P_stop
          rintro _ _ hlo ⟨A201, c202, A203, c204, e205, rfl, rfl, hs206, -⟩
          have lo207 := hlo e205 (by simp)
          refine T_app2 ?_
          refine P_x rfl (Wx_callL rfl (fun w1 hw1 => exact_cross_ok p3 p1 p2  h36 w1) rfl ?_) ?_
          rotate_left; exact P_stop
          rintro _ _ hlo ⟨rfl, rfl, -⟩
          refine T_app0 ?_
          refine P_x rfl (Wx_callL rfl (fun w1 hw1 => ratio_Int_ok r35  h39 w1) rfl ?_) ?_
          rotate_left; exact P_stop
          rintro _ _ hlo ⟨A208, c209, A210, c211, e212, rfl, rfl, hs213, -⟩
          have lo214 := hlo e212 (by simp)
          refine T_app2 ?_
          refine T_rowP (k := 2) rfl (by decide) (fun _ => rfl) (fun hn215 hs216 => ?_)
          refine T_rowP (k := 0) rfl (by decide) (fun _ => rfl) (fun hn217 hs218 => ?_)
          refine P_x rfl (Wx_callL rfl (fun w1 hw1 => ratio_Num_Mul_ok r25 r38 (Has.len' (Has.up (L := ([e205, .r (A203) ((r25.d).length) (c204) 141 1 ((r25.d).flatMap e_u32), e212, .r (A210) ((r38.d).length) (c211) 141 1 ((r38.d).flatMap e_u32)] : List Ent)) hs206 (SubE.cons2 (i := 0) rfl (SubE.nil)))) (Has.len' (Has.up (L := ([e205, .r (A203) ((r25.d).length) (c204) 141 1 ((r25.d).flatMap e_u32), e212, .r (A210) ((r38.d).length) (c211) 141 1 ((r38.d).flatMap e_u32)] : List Ent)) hs216 (SubE.cons2 (i := 1) rfl (SubE.nil)))) (Has.len' (Has.up (L := ([e205, .r (A203) ((r25.d).length) (c204) 141 1 ((r25.d).flatMap e_u32), e212, .r (A210) ((r38.d).length) (c211) 141 1 ((r38.d).flatMap e_u32)] : List Ent)) hs213 (SubE.cons2 (i := 2) rfl (SubE.nil)))) (Has.len' (Has.up (L := ([e205, .r (A203) ((r25.d).length) (c204) 141 1 ((r25.d).flatMap e_u32), e212, .r (A210) ((r38.d).length) (c211) 141 1 ((r38.d).flatMap e_u32)] : List Ent)) hs218 (SubE.cons2 (i := 3) rfl (SubE.nil)))) h53 w1 (okAll (K := ([e205, .r (A203) ((r25.d).length) (c204) 141 1 ((r25.d).flatMap e_u32), e212, .r (A210) ((r38.d).length) (c211) 141 1 ((r38.d).flatMap e_u32)] : List Ent)) (by exact (SubE.cons2 (i := 3) rfl (SubE.cons2 (i := 2) rfl (SubE.cons2 (i := 1) rfl (SubE.cons2 (i := 0) rfl (SubE.nil)))))) hw1)) rfl ?_) ?_
          rotate_left; exact P_stop
          rintro _ _ hlo ⟨A219, c220, A221, c222, e223, e224, rfl, rfl, hs225, hs226, -⟩
          have lo227 := hlo e223 (by simp)
          have lo228 := hlo e224 (by simp)
          refine T_app2 ?_
          have hs229 : Has ([e205, .r (A203) ((r25.d).length) (c204) 141 1 ((r25.d).flatMap e_u32), e212, .r (A210) ((r38.d).length) (c211) 141 1 ((r38.d).flatMap e_u32), e223, e224] : List Ent) _ _ _ _ _ _ := id hs225
          have hs230 : Has ([e205, .r (A203) ((r25.d).length) (c204) 141 1 ((r25.d).flatMap e_u32), e212, .r (A210) ((r38.d).length) (c211) 141 1 ((r38.d).flatMap e_u32), e223, e224] : List Ent) _ _ _ _ _ _ := id hs226
          refine P_h rfl rfl (Wh_store rfl rfl rfl (.there (.there (.there (.there (.there (.there (.here))))))) (.put (.put (.put (.done)))) rfl (List.cons_ne_nil _ _) agg125.2 ?_) ?_
          rotate_left; exact P_stop
          refine P_done ?_
          refine T_bundle (es := [e205, .r (A203) ((r25.d).length) (c204) 141 1 ((r25.d).flatMap e_u32), e212, .r (A210) ((r38.d).length) (c211) 141 1 ((r38.d).flatMap e_u32), e223, e224]) (by exact .pick 5 rfl (.pick 4 rfl (.pick 3 rfl (.pick 2 rfl (.pick 0 rfl (.pick 0 rfl (.refl))))))) (loCons lo207 (loCons rfl (loCons lo214 (loCons rfl (loCons lo227 (loCons lo228 (loNil))))))) ?_
          exact T_metP (r52.neg, r52.n, r52.d) (g200, A219, c220, bun [e205, .r (A203) ((r25.d).length) (c204) 141 1 ((r25.d).flatMap e_u32), e212, .r (A210) ((r38.d).length) (c211) 141 1 ((r38.d).flatMap e_u32), e223, e224], A221, c222) hx72 ((by exact ⟨rfl, Has.len' ((Has.up (L := ([(bun [e205, .r (A203) ((r25.d).length) (c204) 141 1 ((r25.d).flatMap e_u32), e212, .r (A210) ((r38.d).length) (c211) 141 1 ((r38.d).flatMap e_u32), e223, e224])] : List Ent)) hs229 (SubE.consB (i := 0) (j := 0) rfl rfl (SubE.consB (i := 0) (j := 1) rfl rfl (SubE.consB (i := 0) (j := 2) rfl rfl (SubE.consB (i := 0) (j := 3) rfl rfl (SubE.consB (i := 0) (j := 4) rfl rfl (SubE.consB (i := 0) (j := 5) rfl rfl (SubE.nil))))))))), Has.len' ((Has.up (L := ([(bun [e205, .r (A203) ((r25.d).length) (c204) 141 1 ((r25.d).flatMap e_u32), e212, .r (A210) ((r38.d).length) (c211) 141 1 ((r38.d).flatMap e_u32), e223, e224])] : List Ent)) hs230 (SubE.consB (i := 0) (j := 0) rfl rfl (SubE.consB (i := 0) (j := 1) rfl rfl (SubE.consB (i := 0) (j := 2) rfl rfl (SubE.consB (i := 0) (j := 3) rfl rfl (SubE.consB (i := 0) (j := 4) rfl rfl (SubE.consB (i := 0) (j := 5) rfl rfl (SubE.nil))))))))), trivial⟩)) (by exact .cons rfl (.cons rfl (.cons rfl (.cons rfl (.cons rfl (.cons rfl (.nil))))))) (by exact .pick 0 rfl (.pick 0 rfl (.pick 1 rfl (.pick 1 rfl (.pick 1 rfl (.pick 1 rfl (.drop 0 rfl (.refl))))))))
set_option maxRecDepth 100000 in
theorem exact_Valid_ok (p0 : S_api_Span)  {r : Bool} (hx : exact_Valid p0 = some r) (w : World) : CtL Tryz.prog 85 [.agg #[.int .i64 (p0.Lo), .int .i64 (p0.Hi)]] w fun v Ln => v = .bool (r) ∧ Ln = [] ∧ True := by
  refine CtL.mk 18 Tryz.func85 rfl Tryz.ntmps85 (by kernel_rfl) rfl ?_
  show T 18 _ [(0, .agg #[.int .i64 (p0.Lo), .int .i64 (p0.Hi)])] _
  unfold exact_Valid at hx
  refine T_seq ?_
  refine T_reg ?_
  refine T_x (Wx_box rfl rfl rfl (fun g1 => ?_))
  refine T_val (Ev_assign rfl) rfl ?_
  refine T_nil ?_
  refine T_next ?_
  obtain ⟨j2, hj2, hx⟩ := jn_some hx
  refine T_cutP (τ := Bool) (γ := Unit) (J := j2) (out := r) (fun s2 y2 => [(2, .bool (s2))]) (fun s2 y2 => [] ++ [.old w]) (fun s2 y2 => True) ?_ ?_
  · intro s2 y2 hx8 hG9
    subst hj2
    refine T_retc ?_
    obtain rfl := Option.some.inj hx8
    exact T_retP (rs := [.tmp 2]) Tryz.results85 (.tmp rfl (.nil)) (Ln := []) ⟨rfl, rfl, trivial⟩ (loNil) (by exact .refl)
  · skip
    refine T_reg ?_
    refine T_val (Ev_field rfl fld41_0 rfl) rfl ?_
    refine T_val (Ev_load1 rfl (i := 0) rfl rfl one3) rfl ?_
    refine T_val (Ev_leq rfl rfl) rfl ?_
    refine T_val (Ev_move rfl) rfl ?_
    refine T_caseP (s := 6) rfl (fun h2 => ?_) (fun h2 => ?_)
    · have hx3 := ite_t h2 hx
      refine T_valG rfl rfl rfl (Ev_field rfl fld41_0 rfl) rfl ?_
      refine T_valG rfl rfl rfl (Ev_load1 rfl (i := 0) rfl rfl one3) rfl ?_
      refine T_valG rfl rfl rfl (Ev_field rfl fld41_1 rfl) rfl ?_
      refine T_valG rfl rfl rfl (Ev_load1 rfl (i := 0) rfl rfl one3) rfl ?_
      refine T_valG rfl rfl rfl (Ev_leq rfl rfl) rfl ?_
      refine T_val (Ev_pickT rfl rfl) rfl ?_
      refine T_val (Ev_move rfl) rfl ?_
      refine T_caseP (s := 13) rfl (fun h4 => ?_) (fun h4 => ?_)
      · have hx5 := ite_t h4 hx3
        refine T_valG rfl rfl rfl (Ev_field rfl fld41_1 rfl) rfl ?_
        refine T_valG rfl rfl rfl (Ev_load1 rfl (i := 0) rfl rfl one3) rfl ?_
        refine T_valG rfl rfl rfl (Ev_leq rfl rfl) rfl ?_
        refine T_val (Ev_pickT rfl rfl) rfl ?_
        refine T_val (Ev_assign rfl) rfl ?_
        refine T_nil ?_
        exact T_metP (decide (p0.Hi ≤ 1152921504606846976)) () hx5 trivial (by exact .cons rfl (.nil)) (by exact .drop 0 rfl (.refl))
      · have hx6 := ite_f h4 hx3
        refine T_skipG rfl rfl rfl rfl rfl ?_
        refine T_skipG rfl rfl rfl rfl rfl ?_
        refine T_skipG rfl rfl rfl rfl rfl ?_
        refine T_val (Ev_pickF rfl rfl) rfl ?_
        refine T_val (Ev_assign rfl) rfl ?_
        refine T_nil ?_
        exact T_metP false () hx6 trivial (by exact .cons rfl (.nil)) (by exact .drop 0 rfl (.refl))
    · have hx7 := ite_f h2 hx
      refine T_skipG rfl rfl rfl rfl rfl ?_
      refine T_skipG rfl rfl rfl rfl rfl ?_
      refine T_skipG rfl rfl rfl rfl rfl ?_
      refine T_skipG rfl rfl rfl rfl rfl ?_
      refine T_skipG rfl rfl rfl rfl rfl ?_
      refine T_val (Ev_pickF rfl rfl) rfl ?_
      refine T_val (Ev_move rfl) rfl ?_
      refine T_skipG rfl rfl rfl rfl rfl ?_
      refine T_skipG rfl rfl rfl rfl rfl ?_
      refine T_skipG rfl rfl rfl rfl rfl ?_
      refine T_val (Ev_pickF rfl rfl) rfl ?_
      refine T_val (Ev_assign rfl) rfl ?_
      refine T_nil ?_
      exact T_metP false () hx7 trivial (by exact .cons rfl (.nil)) (by exact .drop 0 rfl (.refl))
set_option maxRecDepth 100000 in
theorem mesh_at_ok (p0 : S_api_Vertex)  {r : S_api_XY} (hx : mesh_at p0 = some r) (w : World) : CtL Tryz.prog 59 [.agg #[.int .i64 (p0.X), .int .i64 (p0.Y), .int .i64 (p0.Z.Lo), .int .i64 (p0.Z.Hi)]] w fun v Ln => v = .agg #[.int .i64 (r.X), .int .i64 (r.Y)] ∧ Ln = [] ∧ True := by
  refine CtL.mk 8 Tryz.func59 rfl Tryz.ntmps59 (by kernel_rfl) rfl ?_
  show T 8 _ [(0, .agg #[.int .i64 (p0.X), .int .i64 (p0.Y), .int .i64 (p0.Z.Lo), .int .i64 (p0.Z.Hi)])] _
  unfold mesh_at at hx
  refine T_seq ?_
  refine T_reg ?_
  refine T_x (Wx_box rfl rfl rfl (fun g1 => ?_))
  refine T_x (Wx_alloc zer38 rfl (fun g2 => ?_))
  refine T_nil ?_
  refine T_next ?_
  refine T_seq ?_
  refine T_reg ?_
  refine T_val (Ev_field rfl fld43_0 rfl) rfl ?_
  refine T_val (Ev_load1 rfl (i := 1) rfl rfl one3) rfl ?_
  refine T_val (Ev_field rfl fld43_1 rfl) rfl ?_
  refine T_val (Ev_load1 rfl (i := 1) rfl rfl one3) rfl ?_
  refine T_val (Ev_build rfl (bld38_0i641i64 _ _)) rfl ?_
  refine T_h (Wh_store rfl rfl rfl (.here) (.put (.put (.done))) rfl (List.cons_ne_nil _ _) agg38.2 ?_)
  refine T_nil ?_
  refine T_next ?_
  refine T_retc ?_
  obtain rfl := Option.some.inj hx
  exact T_retP (rs := [.cell 2 38]) Tryz.results59 (.cell rfl (i := 0) rfl rfl agg38 (.nil)) (Ln := []) ⟨rfl, rfl, trivial⟩ (loNil) (by exact .drop 0 rfl (.drop 0 rfl (.refl)))
set_option maxRecDepth 100000 in
theorem mesh_before_ok (p0 : S_api_XY) (p1 : S_api_XY)  {r : Bool} (hx : mesh_before p0 p1 = some r) (w : World) : CtL Tryz.prog 70 [.agg #[.int .i64 (p0.X), .int .i64 (p0.Y)], .agg #[.int .i64 (p1.X), .int .i64 (p1.Y)]] w fun v Ln => v = .bool (r) ∧ Ln = [] ∧ True := by
  refine CtL.mk 24 Tryz.func70 rfl Tryz.ntmps70 (by kernel_rfl) rfl ?_
  show T 24 _ [(0, .agg #[.int .i64 (p0.X), .int .i64 (p0.Y)]), (1, .agg #[.int .i64 (p1.X), .int .i64 (p1.Y)])] _
  unfold mesh_before at hx
  refine T_seq ?_
  refine T_reg ?_
  refine T_x (Wx_box rfl rfl rfl (fun g1 => ?_))
  refine T_x (Wx_box rfl rfl rfl (fun g2 => ?_))
  refine T_val (Ev_assign rfl) rfl ?_
  refine T_nil ?_
  refine T_next ?_
  obtain ⟨j2, hj2, hx⟩ := jn_some hx
  refine T_cutP (τ := Bool) (γ := Unit) (J := j2) (out := r) (fun s2 y2 => [(4, .bool (s2))]) (fun s2 y2 => [] ++ [.old w]) (fun s2 y2 => True) ?_ ?_
  · intro s2 y2 hx9 hG10
    subst hj2
    refine T_retc ?_
    obtain rfl := Option.some.inj hx9
    exact T_retP (rs := [.tmp 4]) Tryz.results70 (.tmp rfl (.nil)) (Ln := []) ⟨rfl, rfl, trivial⟩ (loNil) (by exact .refl)
  · skip
    refine T_reg ?_
    refine T_val (Ev_field rfl fld38_0 rfl) rfl ?_
    refine T_val (Ev_load1 rfl (i := 1) rfl rfl one3) rfl ?_
    refine T_val (Ev_field rfl fld38_0 rfl) rfl ?_
    refine T_val (Ev_load1 rfl (i := 0) rfl rfl one3) rfl ?_
    refine T_val (Ev_lss rfl rfl) rfl ?_
    refine T_val (Ev_move rfl) rfl ?_
    refine T_caseP (s := 10) rfl (fun h3 => ?_) (fun h3 => ?_)
    · have hx4 := ite_t h3 hx
      refine T_skipG rfl rfl rfl rfl rfl ?_
      refine T_skipG rfl rfl rfl rfl rfl ?_
      refine T_skipG rfl rfl rfl rfl rfl ?_
      refine T_skipG rfl rfl rfl rfl rfl ?_
      refine T_skipG rfl rfl rfl rfl rfl ?_
      refine T_skipG rfl rfl rfl rfl rfl ?_
      refine T_skipU rfl rfl rfl rfl ?_
      refine T_skipU rfl rfl rfl rfl ?_
      refine T_skipU rfl rfl rfl rfl ?_
      refine T_skipU rfl rfl rfl rfl ?_
      refine T_skipU rfl rfl rfl rfl ?_
      refine T_skipG rfl rfl rfl rfl rfl ?_
      refine T_val (Ev_pickT rfl rfl) rfl ?_
      refine T_val (Ev_assign rfl) rfl ?_
      refine T_nil ?_
      exact T_metP true () hx4 trivial (by exact .cons rfl (.nil)) (by exact .drop 0 rfl (.drop 0 rfl (.refl)))
    · have hx5 := ite_f h3 hx
      refine T_valG rfl rfl rfl (Ev_field rfl fld38_0 rfl) rfl ?_
      refine T_valG rfl rfl rfl (Ev_load1 rfl (i := 1) rfl rfl one3) rfl ?_
      refine T_valG rfl rfl rfl (Ev_field rfl fld38_0 rfl) rfl ?_
      refine T_valG rfl rfl rfl (Ev_load1 rfl (i := 0) rfl rfl one3) rfl ?_
      refine T_valG rfl rfl rfl (Ev_eql rfl rfl) rfl ?_
      refine T_valG rfl rfl rfl (Ev_move rfl) rfl ?_
      refine T_caseP (s := 16) rfl (fun h6 => ?_) (fun h6 => ?_)
      · have hx7 := ite_t h6 hx5
        refine T_valG rfl rfl rfl (Ev_field rfl fld38_1 rfl) rfl ?_
        refine T_valG rfl rfl rfl (Ev_load1 rfl (i := 1) rfl rfl one3) rfl ?_
        refine T_valG rfl rfl rfl (Ev_field rfl fld38_1 rfl) rfl ?_
        refine T_valG rfl rfl rfl (Ev_load1 rfl (i := 0) rfl rfl one3) rfl ?_
        refine T_valG rfl rfl rfl (Ev_lss rfl rfl) rfl ?_
        refine T_valG rfl rfl rfl (Ev_pickT rfl rfl) rfl ?_
        refine T_val (Ev_pickF rfl rfl) rfl ?_
        refine T_val (Ev_assign rfl) rfl ?_
        refine T_nil ?_
        exact T_metP (decide (p0.Y < p1.Y)) () hx7 trivial (by exact .cons rfl (.nil)) (by exact .drop 0 rfl (.drop 0 rfl (.refl)))
      · have hx8 := ite_f h6 hx5
        refine T_skipG rfl rfl rfl rfl rfl ?_
        refine T_skipG rfl rfl rfl rfl rfl ?_
        refine T_skipG rfl rfl rfl rfl rfl ?_
        refine T_skipG rfl rfl rfl rfl rfl ?_
        refine T_skipG rfl rfl rfl rfl rfl ?_
        refine T_valG rfl rfl rfl (Ev_pickF rfl rfl) rfl ?_
        refine T_val (Ev_pickF rfl rfl) rfl ?_
        refine T_val (Ev_assign rfl) rfl ?_
        refine T_nil ?_
        exact T_metP false () hx8 trivial (by exact .cons rfl (.nil)) (by exact .drop 0 rfl (.drop 0 rfl (.refl)))
set_option maxRecDepth 100000 in
theorem mesh_turn_ok (p0 : S_api_XY) (p1 : S_api_XY) (p2 : S_api_XY)  {r : Int} (hx : mesh_turn p0 p1 p2 = some r) (w : World) : CtL Tryz.prog 42 [.agg #[.int .i64 (p0.X), .int .i64 (p0.Y)], .agg #[.int .i64 (p1.X), .int .i64 (p1.Y)], .agg #[.int .i64 (p2.X), .int .i64 (p2.Y)]] w fun v Ln => v = .int .i64 (r) ∧ Ln = [] ∧ True := by
  refine CtL.mk 17 Tryz.func42 rfl Tryz.ntmps42 (by kernel_rfl) rfl ?_
  show T 17 _ [(0, .agg #[.int .i64 (p0.X), .int .i64 (p0.Y)]), (1, .agg #[.int .i64 (p1.X), .int .i64 (p1.Y)]), (2, .agg #[.int .i64 (p2.X), .int .i64 (p2.Y)])] _
  unfold mesh_turn at hx
  refine T_seq ?_
  refine T_reg ?_
  refine T_x (Wx_box rfl rfl rfl (fun g1 => ?_))
  refine T_x (Wx_box rfl rfl rfl (fun g2 => ?_))
  refine T_x (Wx_box rfl rfl rfl (fun g3 => ?_))
  refine T_val (Ev_assign rfl) rfl ?_
  refine T_nil ?_
  refine T_next ?_
  refine T_seq ?_
  refine T_reg ?_
  refine T_val (Ev_loadK rfl (i := 2) rfl rfl agg38) rfl ?_
  refine T_val (Ev_loadK rfl (i := 1) rfl rfl agg38) rfl ?_
  refine T_val (Ev_loadK rfl (i := 0) rfl rfl agg38) rfl ?_
  obtain ⟨r4, h5, hx6⟩ := bnd_some hx
  refine T_x (Wx_callL rfl (fun w1 hw1 => exact_Turn_ok p0 p1 p2  h5 w1) rfl ?_)
  rintro _ _ hlo ⟨rfl, rfl, -⟩
  refine T_app0 ?_
  refine T_val (Ev_move rfl) rfl ?_
  refine T_val (Ev_extract rfl rfl) rfl ?_
  refine T_val (Ev_extract rfl rfl) rfl ?_
  refine T_val (Ev_assign rfl) rfl ?_
  refine T_val (Ev_assign rfl) rfl ?_
  refine T_nil ?_
  refine T_next ?_
  refine T_seq ?_
  refine T_reg ?_
  refine T_val (Ev_move rfl) rfl ?_
  refine T_val (Ev_assign rfl) rfl ?_
  refine T_nil ?_
  refine T_next ?_
  refine T_retc ?_
  obtain rfl := Option.some.inj hx6
  exact T_retP (rs := [.tmp 6]) Tryz.results42 (.tmp rfl (.nil)) (Ln := []) ⟨rfl, rfl, trivial⟩ (loNil) (by exact .drop 0 rfl (.drop 0 rfl (.drop 0 rfl (.refl))))
set_option maxRecDepth 100000 in
theorem mesh_good_ok (p0 : S_api_Vertex)  {r : Bool} (hx : mesh_good p0 = some r) (w : World) : CtL Tryz.prog 58 [.agg #[.int .i64 (p0.X), .int .i64 (p0.Y), .int .i64 (p0.Z.Lo), .int .i64 (p0.Z.Hi)]] w fun v Ln => v = .bool (r) ∧ Ln = [] ∧ True := by
  refine CtL.mk 34 Tryz.func58 rfl Tryz.ntmps58 (by kernel_rfl) rfl ?_
  show T 34 _ [(0, .agg #[.int .i64 (p0.X), .int .i64 (p0.Y), .int .i64 (p0.Z.Lo), .int .i64 (p0.Z.Hi)])] _
  unfold mesh_good at hx
  refine T_seq ?_
  refine T_reg ?_
  refine T_x (Wx_box rfl rfl rfl (fun g1 => ?_))
  refine T_val (Ev_assign rfl) rfl ?_
  refine T_nil ?_
  refine T_next ?_
  refine T_seq ?_
  refine T_draw [1, 2, 1, 2, 1, 2, 2, 0, 0, 0, 2, 2] [[], [0], [], [0, 1, 2], [], [0, 1, 2, 3, 4], [0, 1, 2, 3, 4, 5], [0, 1, 2, 3, 4, 5, 6], [0, 1, 2, 3, 4, 5, 6, 7], [0, 1, 2, 3, 4, 5, 6, 7], [0, 1, 2, 3, 4, 5, 6, 7, 8], [0, 1, 2, 3, 4, 5, 6, 7, 8, 9, 10]] (.q 0 (.q 2 (.q 4 (.e 1 (.e 3 (.e 5 (.e 6 (.q 7 (.q 8 (.q 9 (.e 10 (.e 11 (.done) (.stop)) (.stop))))) (.stop)) (.stop)) (.stop)) (.stop))))) mixed (by kernel_rfl) (by kernel_rfl) ?_
  refine P_q rfl rfl (Ev_loadK rfl (i := 0) rfl rfl agg43) rfl ?_
  refine P_q rfl rfl (Ev_loadK rfl (i := 0) rfl rfl agg43) rfl ?_
  refine P_q rfl rfl (Ev_loadK rfl (i := 0) rfl rfl agg43) rfl ?_
  obtain ⟨r2, h3, hx4⟩ := bnd_some hx
  refine P_x rfl (Wx_callL rfl (fun w1 hw1 => mesh_at_ok p0  h3 w1) rfl ?_) ?_
  rotate_left; exact P_stop
  rintro _ _ hlo ⟨rfl, rfl, -⟩
  refine T_app0 ?_
  obtain ⟨r5, h6, hx7⟩ := bnd_some hx4
  refine P_x rfl (Wx_callL rfl (fun w1 hw1 => mesh_at_ok p0  h6 w1) rfl ?_) ?_
  rotate_left; exact P_stop
  rintro _ _ hlo ⟨rfl, rfl, -⟩
  refine T_app0 ?_
  obtain ⟨r8, h9, hx10⟩ := bnd_some hx7
  refine P_x rfl (Wx_callL rfl (fun w1 hw1 => mesh_at_ok p0  h9 w1) rfl ?_) ?_
  rotate_left; exact P_stop
  rintro _ _ hlo ⟨rfl, rfl, -⟩
  refine T_app0 ?_
  obtain ⟨r11, h12, hx13⟩ := bnd_some hx10
  refine P_x rfl (Wx_callL rfl (fun w1 hw1 => exact_Turn_ok r2 r5 r8  h12 w1) rfl ?_) ?_
  rotate_left; exact P_stop
  rintro _ _ hlo ⟨rfl, rfl, -⟩
  refine T_app0 ?_
  refine P_p rfl rfl (Ev_move rfl) rfl ?_
  refine P_p rfl rfl (Ev_extract rfl rfl) rfl ?_
  refine P_p rfl rfl (Ev_extract rfl rfl) rfl ?_
  refine P_x rfl (Wx_val (Ev_assign rfl) rfl ?_) ?_
  rotate_left; exact P_stop
  refine P_x rfl (Wx_val (Ev_assign rfl) rfl ?_) ?_
  rotate_left; exact P_stop
  refine P_done ?_
  refine T_next ?_
  obtain ⟨j3, hj3, hx13⟩ := jn_some hx13
  refine T_cutP (τ := Bool) (γ := Unit) (J := j3) (out := r) (fun s3 y3 => [(2, .bool (s3))]) (fun s3 y3 => [] ++ [.old w]) (fun s3 y3 => True) ?_ ?_
  · intro s3 y3 hx26 hG27
    subst hj3
    refine T_retc ?_
    obtain rfl := Option.some.inj hx26
    exact T_retP (rs := [.tmp 2]) Tryz.results58 (.tmp rfl (.nil)) (Ln := []) ⟨rfl, rfl, trivial⟩ (loNil) (by exact .refl)
  · skip
    refine T_reg ?_
    refine T_val (Ev_move rfl) rfl ?_
    refine T_val (Ev_eql rfl rfl) rfl ?_
    refine T_val (Ev_move rfl) rfl ?_
    refine T_caseP (s := 17) rfl (fun h14 => ?_) (fun h14 => ?_)
    · have hx15 := ite_t h14 hx13
      refine T_valG rfl rfl rfl (Ev_field rfl fld43_2 rfl) rfl ?_
      refine T_valG rfl rfl rfl (Ev_loadK rfl (i := 0) rfl rfl agg41) rfl ?_
      obtain ⟨r16, h17, hx18⟩ := bnd_some hx15
      refine T_xG rfl rfl rfl (Wx_callL rfl (fun w1 hw1 => exact_Valid_ok p0.Z  h17 w1) rfl ?_)
      rintro _ _ hlo ⟨rfl, rfl, -⟩
      refine T_app0 ?_
      refine T_val (Ev_pickT rfl rfl) rfl ?_
      refine T_val (Ev_move rfl) rfl ?_
      refine T_caseB (s := 22) rfl (fun h19 => ?_) (fun h19 => ?_)
      · have hx20 := ite_t h19 hx18
        refine T_valG rfl rfl rfl (Ev_field rfl fld43_2 rfl) rfl ?_
        refine T_valG rfl rfl rfl (Ev_field rfl fld41_0 rfl) rfl ?_
        refine T_valG rfl rfl rfl (Ev_load1 rfl (i := 0) rfl rfl one3) rfl ?_
        refine T_valG rfl rfl rfl (Ev_geq rfl rfl) rfl ?_
        refine T_val (Ev_pickT rfl rfl) rfl ?_
        refine T_val (Ev_move rfl) rfl ?_
        refine T_caseP (s := 28) rfl (fun h21 => ?_) (fun h21 => ?_)
        · have hx22 := ite_t h21 hx20
          refine T_valG rfl rfl rfl (Ev_field rfl fld43_2 rfl) rfl ?_
          refine T_valG rfl rfl rfl (Ev_field rfl fld41_1 rfl) rfl ?_
          refine T_valG rfl rfl rfl (Ev_load1 rfl (i := 0) rfl rfl one3) rfl ?_
          refine T_valG rfl rfl rfl (Ev_leq rfl rfl) rfl ?_
          refine T_val (Ev_pickT rfl rfl) rfl ?_
          refine T_val (Ev_assign rfl) rfl ?_
          refine T_nil ?_
          exact T_metP (decide (p0.Z.Hi ≤ 268435456)) () hx22 trivial (by exact .cons rfl (.nil)) (by exact .drop 0 rfl (.refl))
        · have hx23 := ite_f h21 hx20
          refine T_skipG rfl rfl rfl rfl rfl ?_
          refine T_skipG rfl rfl rfl rfl rfl ?_
          refine T_skipG rfl rfl rfl rfl rfl ?_
          refine T_skipG rfl rfl rfl rfl rfl ?_
          refine T_val (Ev_pickF rfl rfl) rfl ?_
          refine T_val (Ev_assign rfl) rfl ?_
          refine T_nil ?_
          exact T_metP false () hx23 trivial (by exact .cons rfl (.nil)) (by exact .drop 0 rfl (.refl))
      · have hx24 := ite_bf h19 hx18
        refine T_skipG rfl rfl rfl rfl rfl ?_
        refine T_skipG rfl rfl rfl rfl rfl ?_
        refine T_skipG rfl rfl rfl rfl rfl ?_
        refine T_skipG rfl rfl rfl rfl rfl ?_
        refine T_val (Ev_pickF rfl rfl) rfl ?_
        refine T_val (Ev_move rfl) rfl ?_
        refine T_skipG rfl rfl rfl rfl rfl ?_
        refine T_skipG rfl rfl rfl rfl rfl ?_
        refine T_skipG rfl rfl rfl rfl rfl ?_
        refine T_skipG rfl rfl rfl rfl rfl ?_
        refine T_val (Ev_pickF rfl rfl) rfl ?_
        refine T_val (Ev_assign rfl) rfl ?_
        refine T_nil ?_
        exact T_metP false () hx24 trivial (by exact .cons rfl (.nil)) (by exact .drop 0 rfl (.refl))
    · have hx25 := ite_f h14 hx13
      refine T_skipG rfl rfl rfl rfl rfl ?_
      refine T_skipG rfl rfl rfl rfl rfl ?_
      refine T_skipG rfl rfl rfl rfl rfl ?_
      refine T_val (Ev_pickF rfl rfl) rfl ?_
      refine T_val (Ev_move rfl) rfl ?_
      refine T_skipG rfl rfl rfl rfl rfl ?_
      refine T_skipG rfl rfl rfl rfl rfl ?_
      refine T_skipG rfl rfl rfl rfl rfl ?_
      refine T_skipG rfl rfl rfl rfl rfl ?_
      refine T_val (Ev_pickF rfl rfl) rfl ?_
      refine T_val (Ev_move rfl) rfl ?_
      refine T_skipG rfl rfl rfl rfl rfl ?_
      refine T_skipG rfl rfl rfl rfl rfl ?_
      refine T_skipG rfl rfl rfl rfl rfl ?_
      refine T_skipG rfl rfl rfl rfl rfl ?_
      refine T_val (Ev_pickF rfl rfl) rfl ?_
      refine T_val (Ev_assign rfl) rfl ?_
      refine T_nil ?_
      exact T_metP false () hx25 trivial (by exact .cons rfl (.nil)) (by exact .drop 0 rfl (.refl))
set_option maxRecDepth 100000 in
theorem mesh_pair_ok (p0 : Int) (p1 : Int)  {r : S_arr2_int} (hx : mesh_pair p0 p1 = some r) (w : World) : CtL Tryz.prog 60 [.int .i64 (p0), .int .i64 (p1)] w fun v Ln => v = .agg #[.int .i64 (r.a0), .int .i64 (r.a1)] ∧ Ln = [] ∧ True := by
  refine CtL.mk 12 Tryz.func60 rfl Tryz.ntmps60 (by kernel_rfl) rfl ?_
  show T 12 _ [(0, .int .i64 (p0)), (1, .int .i64 (p1))] _
  unfold mesh_pair at hx
  refine T_seq ?_
  refine T_reg ?_
  refine T_x (Wx_alloc zer48 rfl (fun g1 => ?_))
  refine T_nil ?_
  refine T_next ?_
  refine T_seq ?_
  refine T_reg ?_
  refine T_val (Ev_move rfl) rfl ?_
  refine T_val (Ev_move rfl) rfl ?_
  refine T_val (Ev_min2 rfl rfl) rfl ?_
  refine T_val (Ev_move rfl) rfl ?_
  refine T_val (Ev_move rfl) rfl ?_
  refine T_val (Ev_max2 rfl rfl) rfl ?_
  refine T_val (Ev_build rfl (bld48_0i641i64 _ _)) rfl ?_
  refine T_h (Wh_store rfl rfl rfl (.here) (.put (.put (.done))) rfl (List.cons_ne_nil _ _) agg48.2 ?_)
  refine T_nil ?_
  refine T_next ?_
  refine T_retc ?_
  obtain rfl := Option.some.inj hx
  exact T_retP (rs := [.cell 4 48]) Tryz.results60 (.cell rfl (i := 0) rfl rfl agg48 (.nil)) (Ln := []) ⟨rfl, rfl, trivial⟩ (loNil) (by exact .drop 0 rfl (.refl))
set_option maxRecDepth 100000 in
theorem mesh_order_ok (p0 : S_arr2_int) (p1 : S_arr2_int)  {r : Int} (hx : mesh_order p0 p1 = some r) (w : World) : CtL Tryz.prog 64 [.agg #[.int .i64 (p0.a0), .int .i64 (p0.a1)], .agg #[.int .i64 (p1.a0), .int .i64 (p1.a1)]] w fun v Ln => v = .int .i64 (r) ∧ Ln = [] ∧ True := by
  refine CtL.mk 20 Tryz.func64 rfl Tryz.ntmps64 (by kernel_rfl) rfl ?_
  show T 20 _ [(0, .agg #[.int .i64 (p0.a0), .int .i64 (p0.a1)]), (1, .agg #[.int .i64 (p1.a0), .int .i64 (p1.a1)])] _
  unfold mesh_order at hx
  refine T_seq ?_
  refine T_reg ?_
  refine T_x (Wx_box rfl rfl rfl (fun g1 => ?_))
  refine T_x (Wx_box rfl rfl rfl (fun g2 => ?_))
  refine T_val (Ev_assign rfl) rfl ?_
  refine T_nil ?_
  refine T_next ?_
  refine T_seq ?_
  refine T_seq ?_
  refine T_reg ?_
  refine T_val (Ev_indexP rfl rfl arr48 (by decide) (by decide) rfl) rfl ?_
  refine T_val (Ev_load1 rfl (i := 1) rfl rfl one3) rfl ?_
  refine T_val (Ev_indexP rfl rfl arr48 (by decide) (by decide) rfl) rfl ?_
  refine T_val (Ev_load1 rfl (i := 0) rfl rfl one3) rfl ?_
  refine T_val (Ev_neq rfl rfl) rfl ?_
  refine T_nil ?_
  refine T_next ?_
  refine T_caseNP (s := 9) rfl (fun h3 => ?_) (fun h3 => ?_)
  · have hx4 := ite_f h3 hx
    refine T_condT rfl ?_
    refine T_seq ?_
    refine T_reg ?_
    refine T_val (Ev_indexP rfl rfl arr48 (by decide) (by decide) rfl) rfl ?_
    refine T_val (Ev_load1 rfl (i := 1) rfl rfl one3) rfl ?_
    refine T_val (Ev_indexP rfl rfl arr48 (by decide) (by decide) rfl) rfl ?_
    refine T_val (Ev_load1 rfl (i := 0) rfl rfl one3) rfl ?_
    refine T_val (Ev_sub_w64 rfl rfl) rfl ?_
    refine T_val (Ev_assign rfl) rfl ?_
    refine T_nil ?_
    refine T_next ?_
    refine T_retc ?_
    refine T_outR ?_
    obtain rfl := Option.some.inj hx4
    exact T_retP (rs := [.tmp 4]) Tryz.results64 (.tmp rfl (.nil)) (Ln := []) ⟨rfl, rfl, trivial⟩ (loNil) (by exact .drop 0 rfl (.drop 0 rfl (.refl)))
  · have hx5 := ite_t h3 hx
    refine T_condF rfl ?_
    refine T_skip ?_
    refine T_next ?_
    refine T_seq ?_
    refine T_reg ?_
    refine T_val (Ev_indexP rfl rfl arr48 (by decide) (by decide) rfl) rfl ?_
    refine T_val (Ev_load1 rfl (i := 1) rfl rfl one3) rfl ?_
    refine T_val (Ev_indexP rfl rfl arr48 (by decide) (by decide) rfl) rfl ?_
    refine T_val (Ev_load1 rfl (i := 0) rfl rfl one3) rfl ?_
    refine T_val (Ev_sub_w64 rfl rfl) rfl ?_
    refine T_val (Ev_assign rfl) rfl ?_
    refine T_nil ?_
    refine T_next ?_
    refine T_retc ?_
    obtain rfl := Option.some.inj hx5
    exact T_retP (rs := [.tmp 4]) Tryz.results64 (.tmp rfl (.nil)) (Ln := []) ⟨rfl, rfl, trivial⟩ (loNil) (by exact .drop 0 rfl (.drop 0 rfl (.refl)))
set_option maxRecDepth 100000 in
theorem mesh_between_ok (p0 : S_api_XY) (p1 : S_api_XY) (p2 : S_api_XY)  {r : Bool} (hx : mesh_between p0 p1 p2 = some r) (w : World) : CtL Tryz.prog 61 [.agg #[.int .i64 (p0.X), .int .i64 (p0.Y)], .agg #[.int .i64 (p1.X), .int .i64 (p1.Y)], .agg #[.int .i64 (p2.X), .int .i64 (p2.Y)]] w fun v Ln => v = .bool (r) ∧ Ln = [] ∧ True := by
  refine CtL.mk 31 Tryz.func61 rfl Tryz.ntmps61 (by kernel_rfl) rfl ?_
  show T 31 _ [(0, .agg #[.int .i64 (p0.X), .int .i64 (p0.Y)]), (1, .agg #[.int .i64 (p1.X), .int .i64 (p1.Y)]), (2, .agg #[.int .i64 (p2.X), .int .i64 (p2.Y)])] _
  unfold mesh_between at hx
  refine T_seq ?_
  refine T_reg ?_
  refine T_x (Wx_box rfl rfl rfl (fun g1 => ?_))
  refine T_x (Wx_box rfl rfl rfl (fun g2 => ?_))
  refine T_x (Wx_box rfl rfl rfl (fun g3 => ?_))
  refine T_val (Ev_assign rfl) rfl ?_
  refine T_nil ?_
  refine T_next ?_
  obtain ⟨j2, hj2, hx⟩ := jn_some hx
  refine T_cutP (τ := Bool) (γ := Unit) (J := j2) (out := r) (fun s2 y2 => [(6, .bool (s2))]) (fun s2 y2 => [] ++ [.old w]) (fun s2 y2 => True) ?_ ?_
  · intro s2 y2 hx22 hG23
    subst hj2
    refine T_retc ?_
    obtain rfl := Option.some.inj hx22
    exact T_retP (rs := [.tmp 6]) Tryz.results61 (.tmp rfl (.nil)) (Ln := []) ⟨rfl, rfl, trivial⟩ (loNil) (by exact .refl)
  · skip
    refine T_draw [1, 1, 1, 2, 0, 0, 1, 1, 0, 0, 0, 1, 1, 0, 0, 0, 1, 1, 2, 1, 1, 2, 0, 0, 2] [[], [], [], [0, 1, 2], [0, 1, 2, 3], [0, 1, 2, 3, 4], [0, 1, 2, 3, 4, 5], [0, 1, 2, 3, 4, 5], [0, 1, 2, 3, 4, 5, 6, 7], [0, 1, 2, 3, 4, 5, 6, 7, 8], [0, 1, 2, 3, 4, 5, 6, 7, 8, 9], [0, 1, 2, 3, 4, 5, 6, 7, 8, 9, 10], [0, 1, 2, 3, 4, 5, 6, 7, 8, 9, 10], [0, 1, 2, 3, 4, 5, 6, 7, 8, 9, 10, 11, 12], [0, 1, 2, 3, 4, 5, 6, 7, 8, 9, 10, 11, 12, 13], [0, 1, 2, 3, 4, 5, 6, 7, 8, 9, 10, 11, 12, 13, 14], [0, 1, 2, 3, 4, 5, 6, 7, 8, 9, 10, 11, 12, 13, 14, 15], [0, 1, 2, 3, 4, 5, 6, 7, 8, 9, 10, 11, 12, 13, 14, 15], [0, 1, 2, 3, 4, 5, 6, 7, 8, 9, 10, 11, 12, 13, 14, 15, 16, 17], [0, 1, 2, 3, 4, 5, 6, 7, 8, 9, 10, 11, 12, 13, 14, 15], [0, 1, 2, 3, 4, 5, 6, 7, 8, 9, 10, 11, 12, 13, 14, 15], [0, 1, 2, 3, 4, 5, 6, 7, 8, 9, 10, 11, 12, 13, 14, 15, 16, 17, 18, 19, 20], [0, 1, 2, 3, 4, 5, 6, 7, 8, 9, 10, 11, 12, 13, 14, 15, 16, 17, 18, 19, 20, 21], [0, 1, 2, 3, 4, 5, 6, 7, 8, 9, 10, 11, 12, 13, 14, 15, 16, 17, 18, 19, 20, 21, 22], [0, 1, 2, 3, 4, 5, 6, 7, 8, 9, 10, 11, 12, 13, 14, 15, 16, 17, 18, 19, 20, 21, 22, 23]] (.q 0 (.q 1 (.q 2 (.e 3 (.q 4 (.q 5 (.q 6 (.q 7 (.q 8 (.q 9 (.q 10 (.q 11 (.q 12 (.q 13 (.q 14 (.q 15 (.q 16 (.q 17 (.q 19 (.q 20 (.e 18 (.e 21 (.q 22 (.q 23 (.e 24 (.done) (.stop)))) (.stop)) (.stop)))))))))))))))))) (.stop))))) mixed (by kernel_rfl) (by kernel_rfl) ?_
    refine P_q rfl rfl (Ev_loadK rfl (i := 2) rfl rfl agg38) rfl ?_
    refine P_q rfl rfl (Ev_loadK rfl (i := 1) rfl rfl agg38) rfl ?_
    refine P_q rfl rfl (Ev_loadK rfl (i := 0) rfl rfl agg38) rfl ?_
    obtain ⟨r4, h5, hx6⟩ := bnd_some hx
    refine P_x rfl (Wx_callL rfl (fun w1 hw1 => mesh_turn_ok p0 p1 p2  h5 w1) rfl ?_) ?_
    rotate_left; exact P_stop
    rintro _ _ hlo ⟨rfl, rfl, -⟩
    refine T_app0 ?_
    refine P_p rfl rfl (Ev_eql rfl rfl) rfl ?_
    refine P_p rfl rfl (Ev_move rfl) rfl ?_
    refine T_caseP (s := 12) rfl (fun h7 => ?_) (fun h7 => ?_)
    · have hx8 := ite_t h7 hx6
      refine P_qG rfl rfl rfl rfl rfl (Ev_loadK rfl (i := 0) rfl rfl agg38) rfl ?_
      refine P_qG rfl rfl rfl rfl rfl (Ev_loadK rfl (i := 2) rfl rfl agg38) rfl ?_
      refine P_pG rfl rfl rfl rfl rfl (Ev_neqS rfl rfl (by kernel_rfl) (seq38 _ _ _ _)) rfl ?_
      refine P_p rfl rfl (Ev_pickT rfl rfl) rfl ?_
      refine P_p rfl rfl (Ev_move rfl) rfl ?_
      refine T_caseNB (s := 17) rfl (fun h9 => ?_) (fun h9 => ?_)
      · have hx10 := ite_bf h9 hx8
        refine P_qG rfl rfl rfl rfl rfl (Ev_loadK rfl (i := 0) rfl rfl agg38) rfl ?_
        refine P_qG rfl rfl rfl rfl rfl (Ev_loadK rfl (i := 1) rfl rfl agg38) rfl ?_
        refine P_pG rfl rfl rfl rfl rfl (Ev_neqS rfl rfl (by kernel_rfl) (seq38 _ _ _ _)) rfl ?_
        refine P_p rfl rfl (Ev_pickT rfl rfl) rfl ?_
        refine P_p rfl rfl (Ev_move rfl) rfl ?_
        refine T_caseNB (s := 22) rfl (fun h11 => ?_) (fun h11 => ?_)
        · have hx12 := ite_bf h11 hx10
          refine P_qG rfl rfl rfl rfl rfl (Ev_loadK rfl (i := 2) rfl rfl agg38) rfl ?_
          refine P_qG rfl rfl rfl rfl rfl (Ev_loadK rfl (i := 0) rfl rfl agg38) rfl ?_
          refine P_qG rfl rfl rfl rfl rfl (Ev_loadK rfl (i := 1) rfl rfl agg38) rfl ?_
          refine P_qG rfl rfl rfl rfl rfl (Ev_loadK rfl (i := 0) rfl rfl agg38) rfl ?_
          obtain ⟨r13, h14, hx15⟩ := bnd_some hx12
          refine P_xG rfl rfl rfl rfl (Wx_callL rfl (fun w1 hw1 => mesh_before_ok p0 p2  h14 w1) rfl ?_) ?_
          rotate_left; exact P_stop
          rintro _ _ hlo ⟨rfl, rfl, -⟩
          refine T_app0 ?_
          obtain ⟨r16, h17, hx18⟩ := bnd_some hx15
          refine P_xG rfl rfl rfl rfl (Wx_callL rfl (fun w1 hw1 => mesh_before_ok p1 p2  h17 w1) rfl ?_) ?_
          rotate_left; exact P_stop
          rintro _ _ hlo ⟨rfl, rfl, -⟩
          refine T_app0 ?_
          refine P_pG rfl rfl rfl rfl rfl (Ev_neqB rfl rfl (by kernel_rfl)) rfl ?_
          refine P_p rfl rfl (Ev_pickT rfl rfl) rfl ?_
          refine P_x rfl (Wx_val (Ev_assign rfl) rfl ?_) ?_
          rotate_left; exact P_stop
          refine P_done ?_
          exact T_metP (!((r13) == (r16))) () hx18 trivial (by exact .cons rfl (.nil)) (by exact .drop 0 rfl (.drop 0 rfl (.drop 0 rfl (.refl))))
        · have hx19 := ite_t h11 hx10
          refine P_skip rfl rfl rfl rfl rfl rfl ?_
          refine P_skip rfl rfl rfl rfl rfl rfl ?_
          refine P_skip rfl rfl rfl rfl rfl rfl ?_
          refine P_skip rfl rfl rfl rfl rfl rfl ?_
          refine P_skipE rfl rfl rfl rfl rfl rfl ?_ ?_
          rotate_left; exact P_stop
          refine P_skipE rfl rfl rfl rfl rfl rfl ?_ ?_
          rotate_left; exact P_stop
          refine P_skip rfl rfl rfl rfl rfl rfl ?_
          refine P_p rfl rfl (Ev_pickF rfl rfl) rfl ?_
          refine P_x rfl (Wx_val (Ev_assign rfl) rfl ?_) ?_
          rotate_left; exact P_stop
          refine P_done ?_
          exact T_metP false () hx19 trivial (by exact .cons rfl (.nil)) (by exact .drop 0 rfl (.drop 0 rfl (.drop 0 rfl (.refl))))
      · have hx20 := ite_t h9 hx8
        refine P_skip rfl rfl rfl rfl rfl rfl ?_
        refine P_skip rfl rfl rfl rfl rfl rfl ?_
        refine P_skip rfl rfl rfl rfl rfl rfl ?_
        refine P_p rfl rfl (Ev_pickF rfl rfl) rfl ?_
        refine P_p rfl rfl (Ev_move rfl) rfl ?_
        refine P_skip rfl rfl rfl rfl rfl rfl ?_
        refine P_skip rfl rfl rfl rfl rfl rfl ?_
        refine P_skip rfl rfl rfl rfl rfl rfl ?_
        refine P_skip rfl rfl rfl rfl rfl rfl ?_
        refine P_skipE rfl rfl rfl rfl rfl rfl ?_ ?_
        rotate_left; exact P_stop
        refine P_skipE rfl rfl rfl rfl rfl rfl ?_ ?_
        rotate_left; exact P_stop
        refine P_skip rfl rfl rfl rfl rfl rfl ?_
        refine P_p rfl rfl (Ev_pickF rfl rfl) rfl ?_
        refine P_x rfl (Wx_val (Ev_assign rfl) rfl ?_) ?_
        rotate_left; exact P_stop
        refine P_done ?_
        exact T_metP false () hx20 trivial (by exact .cons rfl (.nil)) (by exact .drop 0 rfl (.drop 0 rfl (.drop 0 rfl (.refl))))
    · have hx21 := ite_f h7 hx6
      refine P_skip rfl rfl rfl rfl rfl rfl ?_
      refine P_skip rfl rfl rfl rfl rfl rfl ?_
      refine P_skip rfl rfl rfl rfl rfl rfl ?_
      refine P_p rfl rfl (Ev_pickF rfl rfl) rfl ?_
      refine P_p rfl rfl (Ev_move rfl) rfl ?_
      refine P_skip rfl rfl rfl rfl rfl rfl ?_
      refine P_skip rfl rfl rfl rfl rfl rfl ?_
      refine P_skip rfl rfl rfl rfl rfl rfl ?_
      refine P_p rfl rfl (Ev_pickF rfl rfl) rfl ?_
      refine P_p rfl rfl (Ev_move rfl) rfl ?_
      refine P_skip rfl rfl rfl rfl rfl rfl ?_
      refine P_skip rfl rfl rfl rfl rfl rfl ?_
      refine P_skip rfl rfl rfl rfl rfl rfl ?_
      refine P_skip rfl rfl rfl rfl rfl rfl ?_
      refine P_skipE rfl rfl rfl rfl rfl rfl ?_ ?_
      rotate_left; exact P_stop
      refine P_skipE rfl rfl rfl rfl rfl rfl ?_ ?_
      rotate_left; exact P_stop
      refine P_skip rfl rfl rfl rfl rfl rfl ?_
      refine P_p rfl rfl (Ev_pickF rfl rfl) rfl ?_
      refine P_x rfl (Wx_val (Ev_assign rfl) rfl ?_) ?_
      rotate_left; exact P_stop
      refine P_done ?_
      exact T_metP false () hx21 trivial (by exact .cons rfl (.nil)) (by exact .drop 0 rfl (.drop 0 rfl (.drop 0 rfl (.refl))))
set_option maxRecDepth 100000 in
theorem mesh_meet_ok (p0 : S_api_XY) (p1 : S_api_XY) (p2 : S_api_XY) (p3 : S_api_XY)  {r : Bool} (hx : mesh_meet p0 p1 p2 p3 = some r) (w : World) : CtL Tryz.prog 86 [.agg #[.int .i64 (p0.X), .int .i64 (p0.Y)], .agg #[.int .i64 (p1.X), .int .i64 (p1.Y)], .agg #[.int .i64 (p2.X), .int .i64 (p2.Y)], .agg #[.int .i64 (p3.X), .int .i64 (p3.Y)]] w fun v Ln => v = .bool (r) ∧ Ln = [] ∧ True := by
  refine CtL.mk 53 Tryz.func86 rfl Tryz.ntmps86 (by kernel_rfl) rfl ?_
  show T 53 _ [(0, .agg #[.int .i64 (p0.X), .int .i64 (p0.Y)]), (1, .agg #[.int .i64 (p1.X), .int .i64 (p1.Y)]), (2, .agg #[.int .i64 (p2.X), .int .i64 (p2.Y)]), (3, .agg #[.int .i64 (p3.X), .int .i64 (p3.Y)])] _
  unfold mesh_meet at hx
  refine T_seq ?_
  refine T_reg ?_
  refine T_x (Wx_box rfl rfl rfl (fun g1 => ?_))
  refine T_x (Wx_box rfl rfl rfl (fun g2 => ?_))
  refine T_x (Wx_box rfl rfl rfl (fun g3 => ?_))
  refine T_x (Wx_box rfl rfl rfl (fun g4 => ?_))
  refine T_val (Ev_assign rfl) rfl ?_
  refine T_nil ?_
  refine T_next ?_
  refine T_seq ?_
  obtain ⟨j3, hj3, hx⟩ := jn_some hx
  refine T_cutP (τ := Bool) (γ := Unit) (J := j3) (out := r) (fun s3 y3 => [(4, .pointer (some ⟨g1, 0, none⟩)), (5, .pointer (some ⟨g2, 0, none⟩)), (6, .pointer (some ⟨g3, 0, none⟩)), (7, .pointer (some ⟨g4, 0, none⟩)), (30, .bool (s3))]) (fun s3 y3 => [.m g4 38 [.int .i64 (p3.X), .int .i64 (p3.Y)], .m g3 38 [.int .i64 (p2.X), .int .i64 (p2.Y)], .m g2 38 [.int .i64 (p1.X), .int .i64 (p1.Y)], .m g1 38 [.int .i64 (p0.X), .int .i64 (p0.Y)]] ++ [.old w]) (fun s3 y3 => True) ?_ ?_
  · intro s3 y3 hx26 hG27
    subst hj3
    refine T_caseB (s := 30) rfl (fun h28 => ?_) (fun h28 => ?_)
    · have hx29 := ite_t h28 hx26
      refine T_condT rfl ?_
      refine T_seq ?_
      refine T_reg ?_
      refine T_val (Ev_assign rfl) rfl ?_
      refine T_nil ?_
      refine T_next ?_
      refine T_retc ?_
      refine T_outR ?_
      obtain rfl := Option.some.inj hx29
      exact T_retP (rs := [.tmp 8]) Tryz.results86 (.tmp rfl (.nil)) (Ln := []) ⟨rfl, rfl, trivial⟩ (loNil) (by exact .drop 0 rfl (.drop 0 rfl (.drop 0 rfl (.drop 0 rfl (.refl)))))
    · have hx30 := ite_bf h28 hx26
      refine T_condF rfl ?_
      refine T_skip ?_
      refine T_next ?_
      obtain ⟨j5, hj5, hx30⟩ := jn_some hx30
      refine T_cutP (τ := Bool) (γ := Unit) (J := j5) (out := r) (fun s5 y5 => [(8, .bool (s5))]) (fun s5 y5 => [] ++ [.old w]) (fun s5 y5 => True) ?_ ?_
      · intro s5 y5 hx46 hG47
        subst hj5
        refine T_retc ?_
        obtain rfl := Option.some.inj hx46
        exact T_retP (rs := [.tmp 8]) Tryz.results86 (.tmp rfl (.nil)) (Ln := []) ⟨rfl, rfl, trivial⟩ (loNil) (by exact .refl)
      · skip
        refine T_draw [1, 1, 1, 2, 1, 1, 1, 2, 0, 0, 0, 1, 1, 1, 2, 1, 1, 1, 2, 0, 0, 0, 2] [[], [], [], [0, 1, 2], [], [], [], [0, 1, 2, 3, 4, 5, 6], [0, 1, 2, 3, 4, 5, 6, 7], [0, 1, 2, 3, 4, 5, 6, 7, 8], [0, 1, 2, 3, 4, 5, 6, 7, 8, 9], [0, 1, 2, 3, 4, 5, 6, 7, 8, 9, 10], [0, 1, 2, 3, 4, 5, 6, 7, 8, 9, 10], [0, 1, 2, 3, 4, 5, 6, 7, 8, 9, 10], [0, 1, 2, 3, 4, 5, 6, 7, 8, 9, 10, 11, 12, 13], [0, 1, 2, 3, 4, 5, 6, 7, 8, 9, 10], [0, 1, 2, 3, 4, 5, 6, 7, 8, 9, 10], [0, 1, 2, 3, 4, 5, 6, 7, 8, 9, 10], [0, 1, 2, 3, 4, 5, 6, 7, 8, 9, 10, 11, 12, 13, 14, 15, 16, 17], [0, 1, 2, 3, 4, 5, 6, 7, 8, 9, 10, 11, 12, 13, 14, 15, 16, 17, 18], [0, 1, 2, 3, 4, 5, 6, 7, 8, 9, 10, 11, 12, 13, 14, 15, 16, 17, 18, 19], [0, 1, 2, 3, 4, 5, 6, 7, 8, 9, 10, 11, 12, 13, 14, 15, 16, 17, 18, 19, 20], [0, 1, 2, 3, 4, 5, 6, 7, 8, 9, 10, 11, 12, 13, 14, 15, 16, 17, 18, 19, 20, 21]] (.q 0 (.q 1 (.q 2 (.q 4 (.q 5 (.q 6 (.e 3 (.e 7 (.q 8 (.q 9 (.q 10 (.q 11 (.q 12 (.q 13 (.q 15 (.q 16 (.q 17 (.e 14 (.e 18 (.q 19 (.q 20 (.q 21 (.e 22 (.done) (.stop))))) (.stop)) (.stop))))))))))) (.stop)) (.stop)))))))) mixed (by kernel_rfl) (by kernel_rfl) ?_
        refine P_q rfl rfl (Ev_loadK rfl (i := 3) rfl rfl agg38) rfl ?_
        refine P_q rfl rfl (Ev_loadK rfl (i := 2) rfl rfl agg38) rfl ?_
        refine P_q rfl rfl (Ev_loadK rfl (i := 1) rfl rfl agg38) rfl ?_
        refine P_q rfl rfl (Ev_loadK rfl (i := 3) rfl rfl agg38) rfl ?_
        refine P_q rfl rfl (Ev_loadK rfl (i := 2) rfl rfl agg38) rfl ?_
        refine P_q rfl rfl (Ev_loadK rfl (i := 0) rfl rfl agg38) rfl ?_
        obtain ⟨r31, h32, hx33⟩ := bnd_some hx30
        refine P_x rfl (Wx_callL rfl (fun w1 hw1 => mesh_turn_ok p0 p1 p2  h32 w1) rfl ?_) ?_
        rotate_left; exact P_stop
        rintro _ _ hlo ⟨rfl, rfl, -⟩
        refine T_app0 ?_
        obtain ⟨r34, h35, hx36⟩ := bnd_some hx33
        refine P_x rfl (Wx_callL rfl (fun w1 hw1 => mesh_turn_ok p0 p1 p3  h35 w1) rfl ?_) ?_
        rotate_left; exact P_stop
        rintro _ _ hlo ⟨rfl, rfl, -⟩
        refine T_app0 ?_
        refine P_p rfl rfl (Ev_mul_w64 rfl rfl) rfl ?_
        refine P_p rfl rfl (Ev_lss rfl rfl) rfl ?_
        refine P_p rfl rfl (Ev_move rfl) rfl ?_
        refine T_caseP (s := 41) rfl (fun h37 => ?_) (fun h37 => ?_)
        · have hx38 := ite_t h37 hx36
          refine P_qG rfl rfl rfl rfl rfl (Ev_loadK rfl (i := 1) rfl rfl agg38) rfl ?_
          refine P_qG rfl rfl rfl rfl rfl (Ev_loadK rfl (i := 0) rfl rfl agg38) rfl ?_
          refine P_qG rfl rfl rfl rfl rfl (Ev_loadK rfl (i := 3) rfl rfl agg38) rfl ?_
          refine P_qG rfl rfl rfl rfl rfl (Ev_loadK rfl (i := 1) rfl rfl agg38) rfl ?_
          refine P_qG rfl rfl rfl rfl rfl (Ev_loadK rfl (i := 0) rfl rfl agg38) rfl ?_
          refine P_qG rfl rfl rfl rfl rfl (Ev_loadK rfl (i := 2) rfl rfl agg38) rfl ?_
          obtain ⟨r39, h40, hx41⟩ := bnd_some hx38
          refine P_xG rfl rfl rfl rfl (Wx_callL rfl (fun w1 hw1 => mesh_turn_ok p2 p3 p0  h40 w1) rfl ?_) ?_
          rotate_left; exact P_stop
          rintro _ _ hlo ⟨rfl, rfl, -⟩
          refine T_app0 ?_
          obtain ⟨r42, h43, hx44⟩ := bnd_some hx41
          refine P_xG rfl rfl rfl rfl (Wx_callL rfl (fun w1 hw1 => mesh_turn_ok p2 p3 p1  h43 w1) rfl ?_) ?_
          rotate_left; exact P_stop
          rintro _ _ hlo ⟨rfl, rfl, -⟩
          refine T_app0 ?_
          refine P_pG rfl rfl rfl rfl rfl (Ev_mul_w64 rfl rfl) rfl ?_
          refine P_pG rfl rfl rfl rfl rfl (Ev_lss rfl rfl) rfl ?_
          refine P_p rfl rfl (Ev_pickT rfl rfl) rfl ?_
          refine P_x rfl (Wx_val (Ev_assign rfl) rfl ?_) ?_
          rotate_left; exact P_stop
          refine P_done ?_
          exact T_metP (decide ((w64 (r39 * r42)) < 0)) () hx44 trivial (by exact .cons rfl (.nil)) (by exact .drop 0 rfl (.drop 0 rfl (.drop 0 rfl (.drop 0 rfl (.refl)))))
        · have hx45 := ite_f h37 hx36
          refine P_skip rfl rfl rfl rfl rfl rfl ?_
          refine P_skip rfl rfl rfl rfl rfl rfl ?_
          refine P_skip rfl rfl rfl rfl rfl rfl ?_
          refine P_skip rfl rfl rfl rfl rfl rfl ?_
          refine P_skip rfl rfl rfl rfl rfl rfl ?_
          refine P_skip rfl rfl rfl rfl rfl rfl ?_
          refine P_skipE rfl rfl rfl rfl rfl rfl ?_ ?_
          rotate_left; exact P_stop
          refine P_skipE rfl rfl rfl rfl rfl rfl ?_ ?_
          rotate_left; exact P_stop
          refine P_skip rfl rfl rfl rfl rfl rfl ?_
          refine P_skip rfl rfl rfl rfl rfl rfl ?_
          refine P_p rfl rfl (Ev_pickF rfl rfl) rfl ?_
          refine P_x rfl (Wx_val (Ev_assign rfl) rfl ?_) ?_
          rotate_left; exact P_stop
          refine P_done ?_
          exact T_metP false () hx45 trivial (by exact .cons rfl (.nil)) (by exact .drop 0 rfl (.drop 0 rfl (.drop 0 rfl (.drop 0 rfl (.refl)))))
  · skip
    refine T_reg ?_
    refine T_val (Ev_loadK rfl (i := 3) rfl rfl agg38) rfl ?_
    refine T_val (Ev_loadK rfl (i := 2) rfl rfl agg38) rfl ?_
    refine T_val (Ev_loadK rfl (i := 1) rfl rfl agg38) rfl ?_
    obtain ⟨r5, h6, hx7⟩ := bnd_some hx
    refine T_x (Wx_callL rfl (fun w1 hw1 => mesh_between_ok p0 p1 p2  h6 w1) rfl ?_)
    rintro _ _ hlo ⟨rfl, rfl, -⟩
    refine T_app0 ?_
    refine T_val (Ev_move rfl) rfl ?_
    refine T_caseB (s := 13) rfl (fun h8 => ?_) (fun h8 => ?_)
    · have hx9 := ite_t h8 hx7
      refine T_skipG rfl rfl rfl rfl rfl ?_
      refine T_skipG rfl rfl rfl rfl rfl ?_
      refine T_skipG rfl rfl rfl rfl rfl ?_
      refine T_skipG rfl rfl rfl rfl rfl ?_
      refine T_val (Ev_pickT rfl rfl) rfl ?_
      refine T_val (Ev_move rfl) rfl ?_
      refine T_skipG rfl rfl rfl rfl rfl ?_
      refine T_skipG rfl rfl rfl rfl rfl ?_
      refine T_skipG rfl rfl rfl rfl rfl ?_
      refine T_skipG rfl rfl rfl rfl rfl ?_
      refine T_val (Ev_pickT rfl rfl) rfl ?_
      refine T_val (Ev_move rfl) rfl ?_
      refine T_skipG rfl rfl rfl rfl rfl ?_
      refine T_skipG rfl rfl rfl rfl rfl ?_
      refine T_skipG rfl rfl rfl rfl rfl ?_
      refine T_skipG rfl rfl rfl rfl rfl ?_
      refine T_val (Ev_pickT rfl rfl) rfl ?_
      refine T_nil ?_
      exact T_metP true () hx9 trivial (by exact .cons rfl (.cons rfl (.cons rfl (.cons rfl (.cons rfl (.nil)))))) (by exact .pick 0 rfl (.pick 0 rfl (.pick 0 rfl (.pick 0 rfl (.refl)))))
    · have hx10 := ite_bf h8 hx7
      refine T_valG rfl rfl rfl (Ev_loadK rfl (i := 3) rfl rfl agg38) rfl ?_
      refine T_valG rfl rfl rfl (Ev_loadK rfl (i := 2) rfl rfl agg38) rfl ?_
      refine T_valG rfl rfl rfl (Ev_loadK rfl (i := 0) rfl rfl agg38) rfl ?_
      obtain ⟨r11, h12, hx13⟩ := bnd_some hx10
      refine T_xG rfl rfl rfl (Wx_callL rfl (fun w1 hw1 => mesh_between_ok p0 p1 p3  h12 w1) rfl ?_)
      rintro _ _ hlo ⟨rfl, rfl, -⟩
      refine T_app0 ?_
      refine T_val (Ev_pickF rfl rfl) rfl ?_
      refine T_val (Ev_move rfl) rfl ?_
      refine T_caseB (s := 19) rfl (fun h14 => ?_) (fun h14 => ?_)
      · have hx15 := ite_t h14 hx13
        refine T_skipG rfl rfl rfl rfl rfl ?_
        refine T_skipG rfl rfl rfl rfl rfl ?_
        refine T_skipG rfl rfl rfl rfl rfl ?_
        refine T_skipG rfl rfl rfl rfl rfl ?_
        refine T_val (Ev_pickT rfl rfl) rfl ?_
        refine T_val (Ev_move rfl) rfl ?_
        refine T_skipG rfl rfl rfl rfl rfl ?_
        refine T_skipG rfl rfl rfl rfl rfl ?_
        refine T_skipG rfl rfl rfl rfl rfl ?_
        refine T_skipG rfl rfl rfl rfl rfl ?_
        refine T_val (Ev_pickT rfl rfl) rfl ?_
        refine T_nil ?_
        exact T_metP true () hx15 trivial (by exact .cons rfl (.cons rfl (.cons rfl (.cons rfl (.cons rfl (.nil)))))) (by exact .pick 0 rfl (.pick 0 rfl (.pick 0 rfl (.pick 0 rfl (.refl)))))
      · have hx16 := ite_bf h14 hx13
        refine T_valG rfl rfl rfl (Ev_loadK rfl (i := 1) rfl rfl agg38) rfl ?_
        refine T_valG rfl rfl rfl (Ev_loadK rfl (i := 0) rfl rfl agg38) rfl ?_
        refine T_valG rfl rfl rfl (Ev_loadK rfl (i := 3) rfl rfl agg38) rfl ?_
        obtain ⟨r17, h18, hx19⟩ := bnd_some hx16
        refine T_xG rfl rfl rfl (Wx_callL rfl (fun w1 hw1 => mesh_between_ok p2 p3 p0  h18 w1) rfl ?_)
        rintro _ _ hlo ⟨rfl, rfl, -⟩
        refine T_app0 ?_
        refine T_val (Ev_pickF rfl rfl) rfl ?_
        refine T_val (Ev_move rfl) rfl ?_
        refine T_caseB (s := 25) rfl (fun h20 => ?_) (fun h20 => ?_)
        · have hx21 := ite_t h20 hx19
          refine T_skipG rfl rfl rfl rfl rfl ?_
          refine T_skipG rfl rfl rfl rfl rfl ?_
          refine T_skipG rfl rfl rfl rfl rfl ?_
          refine T_skipG rfl rfl rfl rfl rfl ?_
          refine T_val (Ev_pickT rfl rfl) rfl ?_
          refine T_nil ?_
          exact T_metP true () hx21 trivial (by exact .cons rfl (.cons rfl (.cons rfl (.cons rfl (.cons rfl (.nil)))))) (by exact .pick 0 rfl (.pick 0 rfl (.pick 0 rfl (.pick 0 rfl (.refl)))))
        · have hx22 := ite_bf h20 hx19
          refine T_valG rfl rfl rfl (Ev_loadK rfl (i := 1) rfl rfl agg38) rfl ?_
          refine T_valG rfl rfl rfl (Ev_loadK rfl (i := 0) rfl rfl agg38) rfl ?_
          refine T_valG rfl rfl rfl (Ev_loadK rfl (i := 2) rfl rfl agg38) rfl ?_
          obtain ⟨r23, h24, hx25⟩ := bnd_some hx22
          refine T_xG rfl rfl rfl (Wx_callL rfl (fun w1 hw1 => mesh_between_ok p2 p3 p1  h24 w1) rfl ?_)
          rintro _ _ hlo ⟨rfl, rfl, -⟩
          refine T_app0 ?_
          refine T_val (Ev_pickF rfl rfl) rfl ?_
          refine T_nil ?_
          exact T_metP r23 () hx25 trivial (by exact .cons rfl (.cons rfl (.cons rfl (.cons rfl (.cons rfl (.nil)))))) (by exact .pick 0 rfl (.pick 0 rfl (.pick 0 rfl (.pick 0 rfl (.refl)))))
set_option maxRecDepth 100000 in
theorem mesh_crossing_ok (p0 : List S_api_Vertex) (p1 : S_arr2_int) (p2 : S_arr2_int) {K : List Ent} {A0_0 : Option Addr} {c0_0 : Nat} (ha0 : Has K A0_0 (p0).length c0_0 4 e_api_Vertex (p0)) {r : Bool} (hx : mesh_crossing p0 p1 p2 = some r) (w : World) (hK : ∀ e ∈ K, Ent.ok w e) : CtL Tryz.prog 62 [.slice (A0_0) ((p0).length) (c0_0), .agg #[.int .i64 (p1.a0), .int .i64 (p1.a1)], .agg #[.int .i64 (p2.a0), .int .i64 (p2.a1)]] w fun v Ln => v = .bool (r) ∧ Ln = [] ∧ True := by
  have ha0' := Has.up0 ha0
  refine CtL.mk 58 Tryz.func62 rfl Tryz.ntmps62 (by kernel_rfl) rfl ?_
  show T 58 _ [(0, .slice (A0_0) ((p0).length) (c0_0)), (1, .agg #[.int .i64 (p1.a0), .int .i64 (p1.a1)]), (2, .agg #[.int .i64 (p2.a0), .int .i64 (p2.a1)])] _
  unfold mesh_crossing at hx
  refine T_seq ?_
  refine T_reg ?_
  refine T_x (Wx_box rfl rfl rfl (fun g1 => ?_))
  refine T_x (Wx_box rfl rfl rfl (fun g2 => ?_))
  refine T_val (Ev_assign rfl) rfl ?_
  refine T_nil ?_
  refine T_next ?_
  refine T_seq ?_
  obtain ⟨j3, hj3, hx⟩ := jn_some hx
  refine T_cutP (τ := Bool) (γ := Unit) (J := j3) (out := r) (fun s3 y3 => [(0, .slice (A0_0) ((p0).length) (c0_0)), (4, .pointer (some ⟨g1, 0, none⟩)), (5, .pointer (some ⟨g2, 0, none⟩)), (32, .bool (s3))]) (fun s3 y3 => [.m g2 48 [.int .i64 (p2.a0), .int .i64 (p2.a1)], .m g1 48 [.int .i64 (p1.a0), .int .i64 (p1.a1)]] ++ [.old w]) (fun s3 y3 => True) ?_ ?_
  · intro s3 y3 hx12 hG13
    subst hj3
    refine T_caseB (s := 32) rfl (fun h14 => ?_) (fun h14 => ?_)
    · have hx15 := ite_t h14 hx12
      refine T_condT rfl ?_
      refine T_seq ?_
      refine T_reg ?_
      refine T_val (Ev_assign rfl) rfl ?_
      refine T_nil ?_
      refine T_next ?_
      refine T_retc ?_
      refine T_outR ?_
      obtain rfl := Option.some.inj hx15
      exact T_retP (rs := [.tmp 6]) Tryz.results62 (.tmp rfl (.nil)) (Ln := []) ⟨rfl, rfl, trivial⟩ (loNil) (by exact .drop 0 rfl (.drop 0 rfl (.refl)))
    · have hx16 := ite_bf h14 hx12
      refine T_condF rfl ?_
      refine T_skip ?_
      refine T_next ?_
      refine T_seq ?_
      refine T_draw [0, 0, 1, 0, 1, 2, 0, 0, 1, 0, 1, 2, 0, 0, 1, 0, 1, 2, 0, 0, 1, 0, 1, 2, 2, 2] [[], [], [1], [0, 1, 2], [0, 1, 2, 3], [0, 1, 2, 3, 4], [], [], [7], [6, 7, 8], [6, 7, 8, 9], [0, 1, 2, 3, 4, 5, 6, 7, 8, 9, 10], [], [], [13], [12, 13, 14], [12, 13, 14, 15], [0, 1, 2, 3, 4, 5, 6, 7, 8, 9, 10, 11, 12, 13, 14, 15, 16], [], [], [19], [18, 19, 20], [18, 19, 20, 21], [0, 1, 2, 3, 4, 5, 6, 7, 8, 9, 10, 11, 12, 13, 14, 15, 16, 17, 18, 19, 20, 21, 22], [0, 1, 2, 3, 4, 5, 6, 7, 8, 9, 10, 11, 12, 13, 14, 15, 16, 17, 18, 19, 20, 21, 22, 23], [0, 1, 2, 3, 4, 5, 6, 7, 8, 9, 10, 11, 12, 13, 14, 15, 16, 17, 18, 19, 20, 21, 22, 23, 24]] (.q 0 (.q 1 (.q 2 (.q 3 (.q 4 (.q 6 (.q 7 (.q 8 (.q 9 (.q 10 (.q 12 (.q 13 (.q 14 (.q 15 (.q 16 (.q 18 (.q 19 (.q 20 (.q 21 (.q 22 (.e 5 (.e 11 (.e 17 (.e 23 (.e 24 (.e 25 (.done) (.stop)) (.stop)) (.stop)) (.stop)) (.stop)) (.stop)))))))))))))))))))))) mixed (by kernel_rfl) (by kernel_rfl) ?_
      refine P_p rfl rfl (Ev_move rfl) rfl ?_
      refine P_p rfl rfl (Ev_indexP rfl rfl arr48 (by decide) (by decide) rfl) rfl ?_
      refine P_q rfl rfl (Ev_load1 rfl (i := 1) rfl rfl one3) rfl ?_
      obtain ⟨x17, h18, hx19⟩ := bnd_some hx16
      have hw27 := Has.low (E := []) ha0' hK
      obtain ⟨b20, o21, j22, hA23, hj24, hl25, hp26⟩ := Has.at_idx hw27 h18
      refine P_p rfl rfl (Ev_index rfl rfl hA23 (j := j22) hj24 hl25 slc22) rfl ?_
      refine P_q rfl rfl (Ev_loadPK0 rfl hp26 (SubE.cons2 (i := 2) rfl (SubE.nil)) rfl agg43) rfl ?_
      refine P_p rfl rfl (Ev_move rfl) rfl ?_
      refine P_p rfl rfl (Ev_indexP rfl rfl arr48 (by decide) (by decide) rfl) rfl ?_
      refine P_q rfl rfl (Ev_load1 rfl (i := 1) rfl rfl one3) rfl ?_
      obtain ⟨x28, h29, hx30⟩ := bnd_some hx19
      have hw38 := Has.low (E := []) ha0' hK
      obtain ⟨b31, o32, j33, hA34, hj35, hl36, hp37⟩ := Has.at_idx hw38 h29
      refine P_p rfl rfl (Ev_index rfl rfl hA34 (j := j33) hj35 hl36 slc22) rfl ?_
      refine P_q rfl rfl (Ev_loadPK0 rfl hp37 (SubE.cons2 (i := 2) rfl (SubE.nil)) rfl agg43) rfl ?_
      refine P_p rfl rfl (Ev_move rfl) rfl ?_
      refine P_p rfl rfl (Ev_indexP rfl rfl arr48 (by decide) (by decide) rfl) rfl ?_
      refine P_q rfl rfl (Ev_load1 rfl (i := 0) rfl rfl one3) rfl ?_
      obtain ⟨x39, h40, hx41⟩ := bnd_some hx30
      have hw49 := Has.low (E := []) ha0' hK
      obtain ⟨b42, o43, j44, hA45, hj46, hl47, hp48⟩ := Has.at_idx hw49 h40
      refine P_p rfl rfl (Ev_index rfl rfl hA45 (j := j44) hj46 hl47 slc22) rfl ?_
      refine P_q rfl rfl (Ev_loadPK0 rfl hp48 (SubE.cons2 (i := 2) rfl (SubE.nil)) rfl agg43) rfl ?_
      refine P_p rfl rfl (Ev_move rfl) rfl ?_
      refine P_p rfl rfl (Ev_indexP rfl rfl arr48 (by decide) (by decide) rfl) rfl ?_
      refine P_q rfl rfl (Ev_load1 rfl (i := 0) rfl rfl one3) rfl ?_
      obtain ⟨x50, h51, hx52⟩ := bnd_some hx41
      have hw60 := Has.low (E := []) ha0' hK
      obtain ⟨b53, o54, j55, hA56, hj57, hl58, hp59⟩ := Has.at_idx hw60 h51
      refine P_p rfl rfl (Ev_index rfl rfl hA56 (j := j55) hj57 hl58 slc22) rfl ?_
      refine P_q rfl rfl (Ev_loadPK0 rfl hp59 (SubE.cons2 (i := 2) rfl (SubE.nil)) rfl agg43) rfl ?_
      obtain ⟨r61, h62, hx63⟩ := bnd_some hx52
      refine P_x rfl (Wx_callL rfl (fun w1 hw1 => mesh_at_ok x17  h62 w1) rfl ?_) ?_
      rotate_left; exact P_stop
      rintro _ _ hlo ⟨rfl, rfl, -⟩
      refine T_app0 ?_
      obtain ⟨r64, h65, hx66⟩ := bnd_some hx63
      refine P_x rfl (Wx_callL rfl (fun w1 hw1 => mesh_at_ok x28  h65 w1) rfl ?_) ?_
      rotate_left; exact P_stop
      rintro _ _ hlo ⟨rfl, rfl, -⟩
      refine T_app0 ?_
      obtain ⟨r67, h68, hx69⟩ := bnd_some hx66
      refine P_x rfl (Wx_callL rfl (fun w1 hw1 => mesh_at_ok x39  h68 w1) rfl ?_) ?_
      rotate_left; exact P_stop
      rintro _ _ hlo ⟨rfl, rfl, -⟩
      refine T_app0 ?_
      obtain ⟨r70, h71, hx72⟩ := bnd_some hx69
      refine P_x rfl (Wx_callL rfl (fun w1 hw1 => mesh_at_ok x50  h71 w1) rfl ?_) ?_
      rotate_left; exact P_stop
      rintro _ _ hlo ⟨rfl, rfl, -⟩
      refine T_app0 ?_
      obtain ⟨r73, h74, hx75⟩ := bnd_some hx72
      refine P_x rfl (Wx_callL rfl (fun w1 hw1 => mesh_meet_ok r61 r64 r67 r70  h74 w1) rfl ?_) ?_
      rotate_left; exact P_stop
      rintro _ _ hlo ⟨rfl, rfl, -⟩
      refine T_app0 ?_
      refine P_x rfl (Wx_val (Ev_assign rfl) rfl ?_) ?_
      rotate_left; exact P_stop
      refine P_done ?_
      refine T_next ?_
      refine T_retc ?_
      obtain rfl := Option.some.inj hx75
      exact T_retP (rs := [.tmp 6]) Tryz.results62 (.tmp rfl (.nil)) (Ln := []) ⟨rfl, rfl, trivial⟩ (loNil) (by exact .drop 0 rfl (.drop 0 rfl (.refl)))
  · skip
    refine T_reg ?_
    refine T_val (Ev_indexP rfl rfl arr48 (by decide) (by decide) rfl) rfl ?_
    refine T_val (Ev_load1 rfl (i := 1) rfl rfl one3) rfl ?_
    refine T_val (Ev_indexP rfl rfl arr48 (by decide) (by decide) rfl) rfl ?_
    refine T_val (Ev_load1 rfl (i := 0) rfl rfl one3) rfl ?_
    refine T_val (Ev_eql rfl rfl) rfl ?_
    refine T_val (Ev_move rfl) rfl ?_
    refine T_caseP (s := 12) rfl (fun h3 => ?_) (fun h3 => ?_)
    · have hx4 := ite_t h3 hx
      refine T_skipG rfl rfl rfl rfl rfl ?_
      refine T_skipG rfl rfl rfl rfl rfl ?_
      refine T_skipG rfl rfl rfl rfl rfl ?_
      refine T_skipG rfl rfl rfl rfl rfl ?_
      refine T_skipG rfl rfl rfl rfl rfl ?_
      refine T_val (Ev_pickT rfl rfl) rfl ?_
      refine T_val (Ev_move rfl) rfl ?_
      refine T_skipG rfl rfl rfl rfl rfl ?_
      refine T_skipG rfl rfl rfl rfl rfl ?_
      refine T_skipG rfl rfl rfl rfl rfl ?_
      refine T_skipG rfl rfl rfl rfl rfl ?_
      refine T_skipG rfl rfl rfl rfl rfl ?_
      refine T_val (Ev_pickT rfl rfl) rfl ?_
      refine T_val (Ev_move rfl) rfl ?_
      refine T_skipG rfl rfl rfl rfl rfl ?_
      refine T_skipG rfl rfl rfl rfl rfl ?_
      refine T_skipG rfl rfl rfl rfl rfl ?_
      refine T_skipG rfl rfl rfl rfl rfl ?_
      refine T_skipG rfl rfl rfl rfl rfl ?_
      refine T_val (Ev_pickT rfl rfl) rfl ?_
      refine T_nil ?_
      exact T_metP true () hx4 trivial (by exact .cons rfl (.cons rfl (.cons rfl (.cons rfl (.nil))))) (by exact .pick 0 rfl (.pick 0 rfl (.refl)))
    · have hx5 := ite_f h3 hx
      refine T_valG rfl rfl rfl (Ev_indexP rfl rfl arr48 (by decide) (by decide) rfl) rfl ?_
      refine T_valG rfl rfl rfl (Ev_load1 rfl (i := 1) rfl rfl one3) rfl ?_
      refine T_valG rfl rfl rfl (Ev_indexP rfl rfl arr48 (by decide) (by decide) rfl) rfl ?_
      refine T_valG rfl rfl rfl (Ev_load1 rfl (i := 0) rfl rfl one3) rfl ?_
      refine T_valG rfl rfl rfl (Ev_eql rfl rfl) rfl ?_
      refine T_val (Ev_pickF rfl rfl) rfl ?_
      refine T_val (Ev_move rfl) rfl ?_
      refine T_caseP (s := 19) rfl (fun h6 => ?_) (fun h6 => ?_)
      · have hx7 := ite_t h6 hx5
        refine T_skipG rfl rfl rfl rfl rfl ?_
        refine T_skipG rfl rfl rfl rfl rfl ?_
        refine T_skipG rfl rfl rfl rfl rfl ?_
        refine T_skipG rfl rfl rfl rfl rfl ?_
        refine T_skipG rfl rfl rfl rfl rfl ?_
        refine T_val (Ev_pickT rfl rfl) rfl ?_
        refine T_val (Ev_move rfl) rfl ?_
        refine T_skipG rfl rfl rfl rfl rfl ?_
        refine T_skipG rfl rfl rfl rfl rfl ?_
        refine T_skipG rfl rfl rfl rfl rfl ?_
        refine T_skipG rfl rfl rfl rfl rfl ?_
        refine T_skipG rfl rfl rfl rfl rfl ?_
        refine T_val (Ev_pickT rfl rfl) rfl ?_
        refine T_nil ?_
        exact T_metP true () hx7 trivial (by exact .cons rfl (.cons rfl (.cons rfl (.cons rfl (.nil))))) (by exact .pick 0 rfl (.pick 0 rfl (.refl)))
      · have hx8 := ite_f h6 hx5
        refine T_valG rfl rfl rfl (Ev_indexP rfl rfl arr48 (by decide) (by decide) rfl) rfl ?_
        refine T_valG rfl rfl rfl (Ev_load1 rfl (i := 1) rfl rfl one3) rfl ?_
        refine T_valG rfl rfl rfl (Ev_indexP rfl rfl arr48 (by decide) (by decide) rfl) rfl ?_
        refine T_valG rfl rfl rfl (Ev_load1 rfl (i := 0) rfl rfl one3) rfl ?_
        refine T_valG rfl rfl rfl (Ev_eql rfl rfl) rfl ?_
        refine T_val (Ev_pickF rfl rfl) rfl ?_
        refine T_val (Ev_move rfl) rfl ?_
        refine T_caseP (s := 26) rfl (fun h9 => ?_) (fun h9 => ?_)
        · have hx10 := ite_t h9 hx8
          refine T_skipG rfl rfl rfl rfl rfl ?_
          refine T_skipG rfl rfl rfl rfl rfl ?_
          refine T_skipG rfl rfl rfl rfl rfl ?_
          refine T_skipG rfl rfl rfl rfl rfl ?_
          refine T_skipG rfl rfl rfl rfl rfl ?_
          refine T_val (Ev_pickT rfl rfl) rfl ?_
          refine T_nil ?_
          exact T_metP true () hx10 trivial (by exact .cons rfl (.cons rfl (.cons rfl (.cons rfl (.nil))))) (by exact .pick 0 rfl (.pick 0 rfl (.refl)))
        · have hx11 := ite_f h9 hx8
          refine T_valG rfl rfl rfl (Ev_indexP rfl rfl arr48 (by decide) (by decide) rfl) rfl ?_
          refine T_valG rfl rfl rfl (Ev_load1 rfl (i := 1) rfl rfl one3) rfl ?_
          refine T_valG rfl rfl rfl (Ev_indexP rfl rfl arr48 (by decide) (by decide) rfl) rfl ?_
          refine T_valG rfl rfl rfl (Ev_load1 rfl (i := 0) rfl rfl one3) rfl ?_
          refine T_valG rfl rfl rfl (Ev_eql rfl rfl) rfl ?_
          refine T_val (Ev_pickF rfl rfl) rfl ?_
          refine T_nil ?_
          exact T_metP (decide (p1.a1 = p2.a1)) () hx11 trivial (by exact .cons rfl (.cons rfl (.cons rfl (.cons rfl (.nil))))) (by exact .pick 0 rfl (.pick 0 rfl (.refl)))
set_option maxRecDepth 100000 in
theorem mesh_legal_ok (p0 : S_api_XY) (p1 : S_api_XY) (p2 : S_api_XY) (p3 : S_api_XY)  {r : Bool} (hx : mesh_legal p0 p1 p2 p3 = some r) (w : World) : CtL Tryz.prog 43 [.agg #[.int .i64 (p0.X), .int .i64 (p0.Y)], .agg #[.int .i64 (p1.X), .int .i64 (p1.Y)], .agg #[.int .i64 (p2.X), .int .i64 (p2.Y)], .agg #[.int .i64 (p3.X), .int .i64 (p3.Y)]] w fun v Ln => v = .bool (r) ∧ Ln = [] ∧ True := by
  refine CtL.mk 47 Tryz.func43 rfl Tryz.ntmps43 (by kernel_rfl) rfl ?_
  show T 47 _ [(0, .agg #[.int .i64 (p0.X), .int .i64 (p0.Y)]), (1, .agg #[.int .i64 (p1.X), .int .i64 (p1.Y)]), (2, .agg #[.int .i64 (p2.X), .int .i64 (p2.Y)]), (3, .agg #[.int .i64 (p3.X), .int .i64 (p3.Y)])] _
  unfold mesh_legal at hx
  refine T_seq ?_
  refine T_reg ?_
  refine T_x (Wx_box rfl rfl rfl (fun g1 => ?_))
  refine T_x (Wx_box rfl rfl rfl (fun g2 => ?_))
  refine T_x (Wx_box rfl rfl rfl (fun g3 => ?_))
  refine T_x (Wx_box rfl rfl rfl (fun g4 => ?_))
  refine T_val (Ev_assign rfl) rfl ?_
  refine T_nil ?_
  refine T_next ?_
  refine T_seq ?_
  refine T_reg ?_
  refine T_val (Ev_loadK rfl (i := 3) rfl rfl agg38) rfl ?_
  refine T_val (Ev_loadK rfl (i := 2) rfl rfl agg38) rfl ?_
  refine T_val (Ev_loadK rfl (i := 1) rfl rfl agg38) rfl ?_
  refine T_val (Ev_loadK rfl (i := 0) rfl rfl agg38) rfl ?_
  obtain ⟨r5, h6, hx7⟩ := bnd_some hx
  refine T_x (Wx_callL rfl (fun w1 hw1 => exact_Circle_ok p0 p1 p2 p3  h6 w1) rfl ?_)
  rintro _ _ hlo ⟨rfl, rfl, -⟩
  refine T_app0 ?_
  refine T_val (Ev_move rfl) rfl ?_
  refine T_val (Ev_extract rfl rfl) rfl ?_
  refine T_val (Ev_extract rfl rfl) rfl ?_
  refine T_val (Ev_assign rfl) rfl ?_
  refine T_val (Ev_assign rfl) rfl ?_
  refine T_nil ?_
  refine T_next ?_
  refine T_seq ?_
  refine T_seq ?_
  refine T_reg ?_
  refine T_val (Ev_move rfl) rfl ?_
  refine T_val (Ev_neq rfl rfl) rfl ?_
  refine T_nil ?_
  refine T_next ?_
  refine T_caseNP (s := 23) rfl (fun h8 => ?_) (fun h8 => ?_)
  · have hx9 := ite_f h8 hx7
    refine T_condT rfl ?_
    refine T_seq ?_
    refine T_reg ?_
    refine T_val (Ev_move rfl) rfl ?_
    refine T_val (Ev_lss rfl rfl) rfl ?_
    refine T_val (Ev_assign rfl) rfl ?_
    refine T_nil ?_
    refine T_next ?_
    refine T_retc ?_
    refine T_outR ?_
    obtain rfl := Option.some.inj hx9
    exact T_retP (rs := [.tmp 8]) Tryz.results43 (.tmp rfl (.nil)) (Ln := []) ⟨rfl, rfl, trivial⟩ (loNil) (by exact .drop 0 rfl (.drop 0 rfl (.drop 0 rfl (.drop 0 rfl (.refl)))))
  · have hx10 := ite_t h8 hx7
    refine T_condF rfl ?_
    refine T_skip ?_
    refine T_next ?_
    refine T_seq ?_
    refine T_reg ?_
    refine T_val (Ev_loadK rfl (i := 3) rfl rfl agg38) rfl ?_
    refine T_x (Wx_alloc zer38 rfl (fun g11 => ?_))
    refine T_h (Wh_store rfl rfl rfl (.here) (.put (.put (.done))) rfl (List.cons_ne_nil _ _) agg38.2 ?_)
    refine T_nil ?_
    refine T_next ?_
    obtain ⟨j7, hj7, hx10⟩ := jn_some hx10
    refine T_cutP (τ := Int × Int) (γ := Unit) (J := j7) (out := r) (fun s7 y7 => [(6, .pointer (some ⟨g3, 0, none⟩)), (7, .pointer (some ⟨g4, 0, none⟩)), (11, .pointer (some ⟨g11, 0, none⟩))]) (fun s7 y7 => [.m g11 38 [.int .i64 (s7.1), .int .i64 (s7.2)], .m g4 38 [.int .i64 (p3.X), .int .i64 (p3.Y)], .m g3 38 [.int .i64 (p2.X), .int .i64 (p2.Y)]] ++ [.old w]) (fun s7 y7 => True) ?_ ?_
    · intro s7 y7 hx44 hG45
      subst hj7
      obtain ⟨j19, hj19, hx44⟩ := jn_some hx44
      refine T_cutP (τ := Bool) (γ := Unit) (J := j19) (out := r) (fun s19 y19 => [(8, .bool (s19))]) (fun s19 y19 => [] ++ [.old w]) (fun s19 y19 => True) ?_ ?_
      · intro s19 y19 hx49 hG50
        subst hj19
        refine T_retc ?_
        obtain rfl := Option.some.inj hx49
        exact T_retP (rs := [.tmp 8]) Tryz.results43 (.tmp rfl (.nil)) (Ln := []) ⟨rfl, rfl, trivial⟩ (loNil) (by exact .refl)
      · skip
        refine T_reg ?_
        refine T_val (Ev_loadK rfl (i := 0) rfl rfl agg38) rfl ?_
        refine T_val (Ev_loadK rfl (i := 2) rfl rfl agg38) rfl ?_
        refine T_val (Ev_eqlS rfl rfl (by kernel_rfl) (seq38 _ _ _ _)) rfl ?_
        refine T_val (Ev_move rfl) rfl ?_
        refine T_caseB (s := 42) rfl (fun h46 => ?_) (fun h46 => ?_)
        · have hx47 := ite_t h46 hx44
          refine T_skipG rfl rfl rfl rfl rfl ?_
          refine T_skipG rfl rfl rfl rfl rfl ?_
          refine T_skipG rfl rfl rfl rfl rfl ?_
          refine T_val (Ev_pickT rfl rfl) rfl ?_
          refine T_val (Ev_assign rfl) rfl ?_
          refine T_nil ?_
          exact T_metP true () hx47 trivial (by exact .cons rfl (.nil)) (by exact .drop 0 rfl (.drop 0 rfl (.drop 0 rfl (.refl))))
        · have hx48 := ite_bf h46 hx44
          refine T_valG rfl rfl rfl (Ev_loadK rfl (i := 0) rfl rfl agg38) rfl ?_
          refine T_valG rfl rfl rfl (Ev_loadK rfl (i := 1) rfl rfl agg38) rfl ?_
          refine T_valG rfl rfl rfl (Ev_eqlS rfl rfl (by kernel_rfl) (seq38 _ _ _ _)) rfl ?_
          refine T_val (Ev_pickF rfl rfl) rfl ?_
          refine T_val (Ev_assign rfl) rfl ?_
          refine T_nil ?_
          exact T_metP (((s7.1) == (p3.X)) && (((s7.2) == (p3.Y)) && true)) () hx48 trivial (by exact .cons rfl (.nil)) (by exact .drop 0 rfl (.drop 0 rfl (.drop 0 rfl (.refl))))
    · skip
      refine T_seq ?_
      refine T_reg ?_
      refine T_val (Ev_loadK rfl (i := 3) rfl rfl agg38) rfl ?_
      refine T_val (Ev_loadK rfl (i := 2) rfl rfl agg38) rfl ?_
      refine T_val (Ev_loadK rfl (i := 1) rfl rfl agg38) rfl ?_
      refine T_val (Ev_build rfl (bld112_0ai64i641ai64i642ai64i64 _ _ _ _ _ _)) rfl ?_
      refine T_val (Ev_move rfl) rfl ?_
      refine T_nil ?_
      refine T_next ?_
      refine T_block ?_
      obtain ⟨t28, hl28, ho28⟩ := bnd_some hx10
      refine T_loopP (σ := Int × Int × Int) (γ := Unit) hl28 (fun s28 y28 => [(6, .pointer (some ⟨g3, 0, none⟩)), (7, .pointer (some ⟨g4, 0, none⟩)), (11, .pointer (some ⟨g11, 0, none⟩)), (30, .agg #[.int .i64 (p1.X), .int .i64 (p1.Y), .int .i64 (p2.X), .int .i64 (p2.Y), .int .i64 (p3.X), .int .i64 (p3.Y)]), (31, .int .i64 (s28.2.2))]) (fun s28 y28 => [.m g11 38 [.int .i64 (s28.1), .int .i64 (s28.2.1)], .m g4 38 [.int .i64 (p3.X), .int .i64 (p3.Y)], .m g3 38 [.int .i64 (p2.X), .int .i64 (p2.Y)]] ++ [.old w]) (fun s28 y28 => True) () trivial (by exact .cons rfl (.cons rfl (.cons rfl (.cons rfl (.cons rfl (.nil)))))) (by exact .pick 0 rfl (.pick 0 rfl (.pick 0 rfl (.drop 0 rfl (.drop 0 rfl (.refl)))))) ?_
      intro s28 y28 hG28 x28 hx28 ht28
      unfold mesh_legal_l6 at hx28
      refine T_seq ?_
      refine T_reg ?_
      refine T_val (Ev_lss rfl rfl) rfl ?_
      refine T_nil ?_
      refine T_next ?_
      refine T_seq ?_
      refine T_caseP (s := 32) rfl (fun h29 => ?_) (fun h29 => ?_)
      · have hx30 := ite_t h29 hx28
        refine T_condT rfl ?_
        refine T_skip ?_
        refine T_next ?_
        obtain ⟨j16, hj16, hx30⟩ := jn_some hx30
        refine T_cutP (τ := Int × Int) (γ := Unit) (J := j16) (out := x28) (fun s16 y16 => [(6, .pointer (some ⟨g3, 0, none⟩)), (7, .pointer (some ⟨g4, 0, none⟩)), (11, .pointer (some ⟨g11, 0, none⟩)), (30, .agg #[.int .i64 (p1.X), .int .i64 (p1.Y), .int .i64 (p2.X), .int .i64 (p2.Y), .int .i64 (p3.X), .int .i64 (p3.Y)]), (31, .int .i64 (s28.2.2))]) (fun s16 y16 => [.m g11 38 [.int .i64 (s16.1), .int .i64 (s16.2)], .m g4 38 [.int .i64 (p3.X), .int .i64 (p3.Y)], .m g3 38 [.int .i64 (p2.X), .int .i64 (p2.Y)]] ++ [.old w]) (fun s16 y16 => True) ?_ ?_
        · intro s16 y16 hx42 hG43
          subst hj16
          refine T_reg ?_
          refine T_val (Ev_add_w64 rfl rfl) rfl ?_
          refine T_val (Ev_move rfl) rfl ?_
          refine T_nil ?_
          exact T_roundP (s16.1, s16.2, w64 (s28.2.2 + 1)) () hx42 trivial (by exact .cons rfl (.cons rfl (.cons rfl (.cons rfl (.cons rfl (.nil)))))) (by exact .pick 0 rfl (.pick 0 rfl (.pick 0 rfl (.refl))))
        · skip
          refine T_block ?_
          refine T_seq ?_
          refine T_reg ?_
          obtain ⟨x32, h33, hx34⟩ := bnd_some hx30
          refine T_val (Ev_indexAS (f := v_api_XY) rfl rfl rfl (ixs112 _ _ _ _ _ _) h33 rfl) rfl ?_
          refine T_x (Wx_alloc zer38 rfl (fun g35 => ?_))
          refine T_h (Wh_store rfl rfl rfl (.here) (.put (.put (.done))) rfl (List.cons_ne_nil _ _) agg38.2 ?_)
          refine T_nil ?_
          refine T_next ?_
          refine T_seq ?_
          refine T_reg ?_
          refine T_val (Ev_loadK rfl (i := 0) rfl rfl agg38) rfl ?_
          refine T_val (Ev_loadK rfl (i := 1) rfl rfl agg38) rfl ?_
          obtain ⟨r36, h37, hx38⟩ := bnd_some hx34
          refine T_x (Wx_callL rfl (fun w1 hw1 => mesh_before_ok x32 (⟨s28.1, s28.2.1⟩ : S_api_XY)  h37 w1) rfl ?_)
          rintro _ _ hlo ⟨rfl, rfl, -⟩
          refine T_app0 ?_
          refine T_nil ?_
          refine T_next ?_
          refine T_caseB (s := 36) rfl (fun h39 => ?_) (fun h39 => ?_)
          · have hx40 := ite_t h39 hx38
            refine T_condT rfl ?_
            refine T_reg ?_
            refine T_val (Ev_loadK rfl (i := 0) rfl rfl agg38) rfl ?_
            refine T_h (Wh_store rfl rfl rfl (.there (.here)) (.put (.put (.done))) rfl (List.cons_ne_nil _ _) agg38.2 ?_)
            refine T_nil ?_
            refine T_inN ?_
            exact T_metP (x32.X, x32.Y) () hx40 trivial (by exact .cons rfl (.cons rfl (.cons rfl (.cons rfl (.cons rfl (.nil)))))) (by exact .pick 1 rfl (.pick 1 rfl (.pick 1 rfl (.drop 0 rfl (.refl)))))
          · have hx41 := ite_bf h39 hx38
            refine T_condF rfl ?_
            refine T_skip ?_
            refine T_inN ?_
            exact T_metP (s28.1, s28.2.1) () hx41 trivial (by exact .cons rfl (.cons rfl (.cons rfl (.cons rfl (.cons rfl (.nil)))))) (by exact .pick 1 rfl (.pick 1 rfl (.pick 1 rfl (.drop 0 rfl (.refl)))))
      · have hx31 := ite_f h29 hx28
        refine T_condF rfl ?_
        refine T_exit ?_
        refine T_outX ?_
        obtain rfl := exit_eq ht28 hx31
        refine T_outX ?_
        refine T_here ?_
        exact T_metP (s28.1, s28.2.1) () ho28 trivial (by exact .cons rfl (.cons rfl (.cons rfl (.nil)))) (by exact .pick 0 rfl (.pick 0 rfl (.pick 0 rfl (.refl))))
end Go.Proofs.YtlkgeeppfifeeaaGreat
