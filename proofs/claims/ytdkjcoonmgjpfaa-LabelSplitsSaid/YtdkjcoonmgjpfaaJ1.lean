/- Walks of the program, with their plain functions: points, rules, rings. -/
import Derived.Test.YtdkjcoonmgjpfaaFlow9
import Derived.Test.YtdkjcoonmgjpfaaProg
namespace Go.Proofs.Ytdkjcoonmgjpfaa
open Go Go.RowKit
theorem mixed : Try.prog.follows .mixedOrders = true := by kernel_rfl
theorem fld24_0 : FieldOf Try.prog 24 0 0 := .mk Try.underlying24 rfl rfl (show Try.prog.info? 3 = some Try.t3 from by kernel_rfl) (show Try.t3.size = 1 from by kernel_rfl) rfl
theorem one3 : OneOf Try.prog 3 := .mk Try.underlying3 rfl (show Try.prog.info? 3 = some Try.t3 from by kernel_rfl) (by kernel_rfl)
theorem fld24_1 : FieldOf Try.prog 24 1 1 := .mk Try.underlying24 rfl rfl (show Try.prog.info? 3 = some Try.t3 from by kernel_rfl) (show Try.t3.size = 1 from by kernel_rfl) rfl
theorem zer24 : ZeroOf Try.prog 24 [.int .i64 (0), .int .i64 (0)] := ⟨_, Try.zeroValue24, rfl⟩
theorem fld53_1 : FieldOf Try.prog 53 1 1 := .mk Try.underlying53 rfl rfl (show Try.prog.info? 3 = some Try.t3 from by kernel_rfl) (show Try.t3.size = 1 from by kernel_rfl) rfl
theorem fld53_2 : FieldOf Try.prog 53 2 2 := .mk Try.underlying53 rfl rfl (show Try.prog.info? 3 = some Try.t3 from by kernel_rfl) (show Try.t3.size = 1 from by kernel_rfl) rfl
theorem bld24_0i641i64 (x0 : Int) (x1 : Int) : BuildOf Try.prog 24 [(0, .int .i64 x0), (1, .int .i64 x1)] [.int .i64 x0, .int .i64 x1] := fun w => by kernel_rfl
theorem agg24 : AggOf Try.prog 24 2 := .mk Try.underlying24 rfl (show Try.prog.info? 24 = some Try.t24 from by kernel_rfl) (by kernel_rfl)
theorem fld53_0 : FieldOf Try.prog 53 0 0 := .mk Try.underlying53 rfl rfl (show Try.prog.info? 3 = some Try.t3 from by kernel_rfl) (show Try.t3.size = 1 from by kernel_rfl) rfl
theorem agg53 : AggOf Try.prog 53 9 := .mk Try.underlying53 rfl (show Try.prog.info? 53 = some Try.t53 from by kernel_rfl) (by kernel_rfl)
theorem fld53_3 : FieldOf Try.prog 53 3 3 := .mk Try.underlying53 rfl rfl (show Try.prog.info? 51 = some Try.t51 from by kernel_rfl) (show Try.t51.size = 2 from by kernel_rfl) rfl
theorem fld51_0 : FieldOf Try.prog 51 0 0 := .mk Try.underlying51 rfl rfl (show Try.prog.info? 3 = some Try.t3 from by kernel_rfl) (show Try.t3.size = 1 from by kernel_rfl) rfl
theorem fld51_1 : FieldOf Try.prog 51 1 1 := .mk Try.underlying51 rfl rfl (show Try.prog.info? 3 = some Try.t3 from by kernel_rfl) (show Try.t3.size = 1 from by kernel_rfl) rfl
theorem fld53_4 : FieldOf Try.prog 53 4 5 := .mk Try.underlying53 rfl rfl (show Try.prog.info? 3 = some Try.t3 from by kernel_rfl) (show Try.t3.size = 1 from by kernel_rfl) rfl
theorem fld53_5 : FieldOf Try.prog 53 5 6 := .mk Try.underlying53 rfl rfl (show Try.prog.info? 3 = some Try.t3 from by kernel_rfl) (show Try.t3.size = 1 from by kernel_rfl) rfl
theorem fld53_6 : FieldOf Try.prog 53 6 7 := .mk Try.underlying53 rfl rfl (show Try.prog.info? 3 = some Try.t3 from by kernel_rfl) (show Try.t3.size = 1 from by kernel_rfl) rfl
theorem slc31 : SliceOf Try.prog 31 53 9 := .mk Try.underlying31 (show Try.prog.info? 53 = some Try.t53 from by kernel_rfl) (by kernel_rfl)
theorem zer53 : ZeroOf Try.prog 53 [.int .i64 (0), .int .i64 (0), .int .i64 (0), .int .i64 (0), .int .i64 (0), .int .i64 (0), .int .i64 (0), .int .i64 (0), .int .i64 (0)] := ⟨_, Try.zeroValue53, rfl⟩
theorem fld33_1 : FieldOf Try.prog 33 1 1 := .mk Try.underlying33 rfl rfl (show Try.prog.info? 3 = some Try.t3 from by kernel_rfl) (show Try.t3.size = 1 from by kernel_rfl) rfl
theorem fld33_4 : FieldOf Try.prog 33 4 4 := .mk Try.underlying33 rfl rfl (show Try.prog.info? 3 = some Try.t3 from by kernel_rfl) (show Try.t3.size = 1 from by kernel_rfl) rfl
theorem fld33_5 : FieldOf Try.prog 33 5 5 := .mk Try.underlying33 rfl rfl (show Try.prog.info? 3 = some Try.t3 from by kernel_rfl) (show Try.t3.size = 1 from by kernel_rfl) rfl
theorem fld33_6 : FieldOf Try.prog 33 6 6 := .mk Try.underlying33 rfl rfl (show Try.prog.info? 3 = some Try.t3 from by kernel_rfl) (show Try.t3.size = 1 from by kernel_rfl) rfl
theorem fld33_7 : FieldOf Try.prog 33 7 7 := .mk Try.underlying33 rfl rfl (show Try.prog.info? 3 = some Try.t3 from by kernel_rfl) (show Try.t3.size = 1 from by kernel_rfl) rfl
theorem fld33_8 : FieldOf Try.prog 33 8 8 := .mk Try.underlying33 rfl rfl (show Try.prog.info? 3 = some Try.t3 from by kernel_rfl) (show Try.t3.size = 1 from by kernel_rfl) rfl
theorem bld66_0i641i642i643i644i645i64 (x0 : Int) (x1 : Int) (x2 : Int) (x3 : Int) (x4 : Int) (x5 : Int) : BuildOf Try.prog 66 [(0, .int .i64 x0), (1, .int .i64 x1), (2, .int .i64 x2), (3, .int .i64 x3), (4, .int .i64 x4), (5, .int .i64 x5)] [.int .i64 x0, .int .i64 x1, .int .i64 x2, .int .i64 x3, .int .i64 x4, .int .i64 x5] := fun w => by kernel_rfl
theorem fld33_0 : FieldOf Try.prog 33 0 0 := .mk Try.underlying33 rfl rfl (show Try.prog.info? 3 = some Try.t3 from by kernel_rfl) (show Try.t3.size = 1 from by kernel_rfl) rfl
theorem fld33_2 : FieldOf Try.prog 33 2 2 := .mk Try.underlying33 rfl rfl (show Try.prog.info? 3 = some Try.t3 from by kernel_rfl) (show Try.t3.size = 1 from by kernel_rfl) rfl
theorem fld33_3 : FieldOf Try.prog 33 3 3 := .mk Try.underlying33 rfl rfl (show Try.prog.info? 3 = some Try.t3 from by kernel_rfl) (show Try.t3.size = 1 from by kernel_rfl) rfl
theorem fld33_9 : FieldOf Try.prog 33 9 9 := .mk Try.underlying33 rfl rfl (show Try.prog.info? 3 = some Try.t3 from by kernel_rfl) (show Try.t3.size = 1 from by kernel_rfl) rfl
theorem agg33 : AggOf Try.prog 33 10 := .mk Try.underlying33 rfl (show Try.prog.info? 33 = some Try.t33 from by kernel_rfl) (by kernel_rfl)
theorem bls31_1_0ai64i64i64i64i64i64i64i64i64 (x0 : Int) (x1 : Int) (x2 : Int) (x3 : Int) (x4 : Int) (x5 : Int) (x6 : Int) (x7 : Int) (x8 : Int) : BuildSliceOf Try.prog 31 1 [(0, .agg #[.int .i64 x0, .int .i64 x1, .int .i64 x2, .int .i64 x3, .int .i64 x4, .int .i64 x5, .int .i64 x6, .int .i64 x7, .int .i64 x8])] 53 [.int .i64 x0, .int .i64 x1, .int .i64 x2, .int .i64 x3, .int .i64 x4, .int .i64 x5, .int .i64 x6, .int .i64 x7, .int .i64 x8] := fun w => by kernel_rfl
theorem elm31 : ElemOf Try.prog 31 53 9 72 := ⟨Try.underlying31, ⟨Try.t53, .agg #[.int .i64 (0), .int .i64 (0), .int .i64 (0), .int .i64 (0), .int .i64 (0), .int .i64 (0), .int .i64 (0), .int .i64 (0), .int .i64 (0)], by kernel_rfl, by kernel_rfl, by kernel_rfl, by kernel_rfl, rfl⟩, by decide⟩
theorem slc22 : SliceOf Try.prog 22 24 2 := .mk Try.underlying22 (show Try.prog.info? 24 = some Try.t24 from by kernel_rfl) (by kernel_rfl)
def e_i64 (x : Int) : List Value := [.int .i64 (x)]
theorem e_i64_len (x : Int) : (e_i64 x).length = 1 := rfl
noncomputable def label_within (p0 : Int) (p1 : Int) (p2 : Int) : Option Bool :=
 jn (fun (s2 : Bool) =>
 some s2)
 (fun j2 => if p0 ≤ p1 then (j2 (decide (p1 ≤ p2)))
 else (j2 false))
structure S_api_XY where
  X : Int
  Y : Int
noncomputable def label_validPlace (p0 : S_api_XY) : Option Bool :=
 jn (fun (s2 : Bool) =>
 some s2)
 (fun j2 => bnd (label_within (-268435456) p0.X 268435456) fun r2 =>
 if r2 = true then (bnd (label_within (-268435456) p0.Y 268435456) fun r7 =>
 j2 r7)
 else (j2 false))
structure S_api_Span where
  Lo : Int
  Hi : Int
structure S_api_Point where
  Id : Int
  X : Int
  Y : Int
  Z : S_api_Span
  Wide : Int
  Num : Int
  Of : Int
  Class : Int
structure S_runtime_boundsError where
  x : Int
  y : Int
  signed : Bool
  code : Int
structure S_api_Terrain where
  Cell : Int
  Reach : Int
  Slope : Int
  Link : Int
  Flat : Int
  Tall : Int
  High : Int
  Low : Int
  Brush : Int
  Few : Int
structure S_api_Edit where
  Id : Int
  Ring : List S_api_XY
  From : Int
  To : Int
structure S_lidarlaw07_Splitting where
  L : List S_api_Point
  Classes : List Int
  Edits : List S_api_Edit
  At : Int
noncomputable def label_place (p0 : S_api_Point) : Option S_api_XY :=
 some (⟨p0.X, p0.Y⟩ : S_api_XY)
noncomputable def label_validPoint (p0 : S_api_Point) : Option Bool :=
 jn (fun (s2 : Bool) =>
 some s2)
 (fun j2 => bnd (label_within 0 p0.Id 1152921504606846976) fun r2 =>
 if r2 = true then (bnd (label_place p0) fun r7 =>
 bnd (label_validPlace r7) fun r10 =>
 if r10 = true then (bnd (label_within (-268435456) p0.Z.Lo p0.Z.Hi) fun r15 =>
 if r15 = true then (if p0.Z.Hi ≤ 268435456 then (bnd (label_within 0 p0.Wide 268435456) fun r22 =>
 if r22 = true then (bnd (label_within 1 p0.Num p0.Of) fun r27 =>
 if r27 = true then (j2 (decide (p0.Of ≤ 15)))
 else (j2 false))
 else (j2 false))
 else (j2 false))
 else (j2 false))
 else (j2 false))
 else (j2 false))
def v_i64 (x : Int) : Value := .int .i64 (x)
theorem v_i64_inj (x y : Int) (h : v_i64 x = v_i64 y) : x = y := by simpa [v_i64] using h
theorem key3 : Maps.Keyed Try.prog 3 := Maps.int_keyed Try.underlying3
theorem isk3 (x : Int) (h : (-9223372036854775808 ≤ x ∧ x ≤ 9223372036854775807)) : (keyOf Try.prog 3 (v_i64 x)).isSome = true := intKey Try.underlying3 (wf_i64 h)
def v_bool (x : Bool) : Value := .bool (x)
theorem v_bool_inj (x y : Bool) (h : v_bool x = v_bool y) : x = y := by simpa [v_bool] using h
noncomputable def label_Valid_l5 (p0 : List S_api_Point) : ((List (Int × Bool)) × Int) → Option (Sum ((List (Int × Bool)) × Int) (Sum Unit Bool)) := fun s41 =>
 if s41.2 < ((((p0).length : Nat) : Int)) then (bnd (idx p0 s41.2) fun x45 =>
 jn (fun (s20 : Bool) =>
 if s20 = true then (some (.inr (.inr (false))))
 else (gd ((-9223372036854775808 ≤ x45.Id ∧ x45.Id ≤ 9223372036854775807)) <|
 gd ((s41.1).length < 9223372036854775807) <|
 some (.inl ((x45.Id, true) :: s41.1, w64 (s41.2 + 1)))))
 (fun j20 => bnd (label_validPoint x45) fun r57 =>
 if r57 = true then (gd ((-9223372036854775808 ≤ x45.Id ∧ x45.Id ≤ 9223372036854775807)) <|
 bnd (some ((mget s41.1 x45.Id).getD false)) fun x65 =>
 j20 x65)
 else (j20 true)))
 else (some (.inr (.inl ())))
noncomputable def label_Valid (p0 : List S_api_Point) : Option Bool :=
 if 1024 < ((((p0).length : Nat) : Int)) then (some false)
 else (jn (fun (s6 : Unit) =>
 some true)
 (fun j6 => bnd (lfix (label_Valid_l5 p0) (([] : List (Int × Bool)), 0)) fun t41 =>
 (match t41 with
 | (.inl z41) => j6 z41
 | (.inr (z41)) => some z41
 )))
def e_api_Point (x : S_api_Point) : List Value := [.int .i64 (x.Id), .int .i64 (x.X), .int .i64 (x.Y), .int .i64 (x.Z.Lo), .int .i64 (x.Z.Hi), .int .i64 (x.Wide), .int .i64 (x.Num), .int .i64 (x.Of), .int .i64 (x.Class)]
theorem e_api_Point_len (x : S_api_Point) : (e_api_Point x).length = 9 := rfl
theorem ixv66 (x0 : Int) (x1 : Int) (x2 : Int) (x3 : Int) (x4 : Int) (x5 : Int) : IndexV Try.prog 66 [.int .i64 x0, .int .i64 x1, .int .i64 x2, .int .i64 x3, .int .i64 x4, .int .i64 x5] := by
  intro j h k w
  have h' : j < 6 := h
  match j, h, h' with
  | 0, _, _ => exact (show (Instr.index 66 (.agg ([.int .i64 x0, .int .i64 x1, .int .i64 x2, .int .i64 x3, .int .i64 x4, .int .i64 x5] : List Value).toArray) (.int k ((0 : Nat) : Int))).run Try.prog w = .ok (.int .i64 x0) w by kernel_rfl)
  | 1, _, _ => exact (show (Instr.index 66 (.agg ([.int .i64 x0, .int .i64 x1, .int .i64 x2, .int .i64 x3, .int .i64 x4, .int .i64 x5] : List Value).toArray) (.int k ((1 : Nat) : Int))).run Try.prog w = .ok (.int .i64 x1) w by kernel_rfl)
  | 2, _, _ => exact (show (Instr.index 66 (.agg ([.int .i64 x0, .int .i64 x1, .int .i64 x2, .int .i64 x3, .int .i64 x4, .int .i64 x5] : List Value).toArray) (.int k ((2 : Nat) : Int))).run Try.prog w = .ok (.int .i64 x2) w by kernel_rfl)
  | 3, _, _ => exact (show (Instr.index 66 (.agg ([.int .i64 x0, .int .i64 x1, .int .i64 x2, .int .i64 x3, .int .i64 x4, .int .i64 x5] : List Value).toArray) (.int k ((3 : Nat) : Int))).run Try.prog w = .ok (.int .i64 x3) w by kernel_rfl)
  | 4, _, _ => exact (show (Instr.index 66 (.agg ([.int .i64 x0, .int .i64 x1, .int .i64 x2, .int .i64 x3, .int .i64 x4, .int .i64 x5] : List Value).toArray) (.int k ((4 : Nat) : Int))).run Try.prog w = .ok (.int .i64 x4) w by kernel_rfl)
  | 5, _, _ => exact (show (Instr.index 66 (.agg ([.int .i64 x0, .int .i64 x1, .int .i64 x2, .int .i64 x3, .int .i64 x4, .int .i64 x5] : List Value).toArray) (.int k ((5 : Nat) : Int))).run Try.prog w = .ok (.int .i64 x5) w by kernel_rfl)
noncomputable def label_ValidRules_l2 (p0 : S_api_Terrain) : Int → Option (Sum Int (Sum Unit Bool)) := fun s15 =>
 if s15 < 6 then (bnd (idx [p0.Reach, p0.Flat, p0.Tall, p0.High, p0.Low, p0.Brush] s15) fun x19 =>
 bnd (label_within 0 x19 1000000) fun r22 =>
 if r22 = true then (some (.inl (w64 (s15 + 1))))
 else (some (.inr (.inr (false)))))
 else (some (.inr (.inl ())))
noncomputable def label_ValidRules (p0 : S_api_Terrain) : Option Bool :=
 jn (fun (s2 : Unit) =>
 jn (fun (s16 : Bool) =>
 some s16)
 (fun j16 => bnd (label_within 1 p0.Cell 10000000) fun r30 =>
 if r30 = true then (bnd (label_within 0 p0.Slope 100000) fun r35 =>
 if r35 = true then (bnd (label_within 1 p0.Link 1000000) fun r40 =>
 if r40 = true then (bnd (label_within 1 p0.Few 1024) fun r45 =>
 j16 r45)
 else (j16 false))
 else (j16 false))
 else (j16 false)))
 (fun j2 => bnd (lfix (label_ValidRules_l2 p0) 0) fun t15 =>
 (match t15 with
 | (.inl z15) => j2 z15
 | (.inr (z15)) => some z15
 ))
noncomputable def label_lower (p0 : S_api_Point) (p1 : S_api_Point) : Option Bool :=
 jn (fun (s2 : Bool) =>
 some s2)
 (fun j2 => if p0.Z.Hi < p1.Z.Hi then (j2 true)
 else (if p0.Z.Hi = p1.Z.Hi then (j2 (decide (p0.Id < p1.Id)))
 else (j2 false)))
noncomputable def surface_Square (p0 : S_api_XY) (p1 : S_api_XY) : Option Int :=
 some (w64 ((w64 ((w64 (p0.X - p1.X)) * (w64 (p0.X - p1.X)))) + (w64 ((w64 (p0.Y - p1.Y)) * (w64 (p0.Y - p1.Y))))))
noncomputable def label_near (p0 : S_api_Point) (p1 : S_api_Point) (p2 : Int) : Option Bool :=
 bnd (label_place p0) fun r3 =>
 bnd (label_place p1) fun r6 =>
 bnd (surface_Square r3 r6) fun r9 =>
 some (decide (r9 ≤ (w64 (p2 * p2))))
noncomputable def label_checked (p0 : List S_api_Point) (p1 : S_api_Terrain) : Option Int :=
 bnd (label_ValidRules p1) fun r2 =>
 if r2 = true then (bnd (label_Valid p0) fun r8 =>
 if r8 = true then (some 0)
 else (some 70))
 else (some 71)
noncomputable def label_isSunk_l3 (p0 : List S_api_Point) (p1 : Int) (p2 : S_api_Terrain) : (Bool × Int) → Option (Sum (Bool × Int) (Sum Bool Bool)) := fun s56 =>
 if s56.2 < ((((p0).length : Nat) : Int)) then (jn (fun (s16 : Bool) =>
 some (.inl (s16, w64 (s56.2 + 1))))
 (fun j16 => bnd (idx p0 s56.2) fun x60 =>
 jn (fun (s19 : Bool) =>
 if s19 = true then (j16 s56.1)
 else (bnd (idx p0 p1) fun x94 =>
 if (w64 (x60.Z.Lo - x94.Z.Hi)) ≤ p2.Low then (some (.inr (.inr (false))))
 else (j16 true)))
 (fun j19 => if s56.2 = p1 then (j19 true)
 else (bnd (idx p0 p1) fun x75 =>
 bnd (label_near x75 x60 p2.Link) fun r86 =>
 j19 (!(r86))))))
 else (some (.inr (.inl s56.1)))
noncomputable def label_isSunk (p0 : List S_api_Point) (p1 : Int) (p2 : S_api_Terrain) : Option Bool :=
 jn (fun (s3 : Bool) =>
 some s3)
 (fun j3 => bnd (lfix (label_isSunk_l3 p0 p1 p2) (false, 0)) fun t56 =>
 (match t56 with
 | (.inl z56) => j3 z56
 | (.inr (z56)) => some z56
 ))
noncomputable def label_parted_l2 (p0 : List S_api_Point) (p1 : S_api_Terrain) : ((List S_api_Point) × (List S_api_Point) × Int) → Option (Sum ((List S_api_Point) × (List S_api_Point) × Int) ((List S_api_Point) × (List S_api_Point))) := fun s38 =>
 if s38.2.2 < ((((p0).length : Nat) : Int)) then (jn (fun (s11 : (List S_api_Point) × (List S_api_Point)) =>
 some (.inl (s11.1, s11.2, w64 (s38.2.2 + 1))))
 (fun j11 => bnd (idx p0 s38.2.2) fun x44 =>
 bnd (label_isSunk p0 s38.2.2 p1) fun r56 =>
 if r56 = true then (gd (((s38.2.1).length + 1) * 72 ≤ 140737488355328) <|
 j11 (s38.1, s38.2.1 ++ [x44]))
 else (gd (((s38.1).length + 1) * 72 ≤ 140737488355328) <|
 j11 (s38.1 ++ [x44], s38.2.1))))
 else (some (.inr (s38.1, s38.2.1)))
noncomputable def label_parted (p0 : List S_api_Point) (p1 : S_api_Terrain) : Option ((List S_api_Point) × (List S_api_Point)) :=
 jn (fun (s2 : (List S_api_Point) × (List S_api_Point)) =>
 some (s2.1, s2.2))
 (fun j2 => bnd (lfix (label_parted_l2 p0 p1) (([] : List S_api_Point), ([] : List S_api_Point), 0)) fun t38 =>
 j2 t38)
noncomputable def label_floor (p0 : Int) (p1 : Int) : Option Int :=
 gd (p1 ≠ 0) <|
 jn (fun (s3 : Int) =>
 some s3)
 (fun j3 => gd (p1 ≠ 0) <|
 if (Int.tmod p0 p1) < 0 then (j3 (w64 ((w64 (Int.tdiv p0 p1)) - 1)))
 else (j3 (w64 (Int.tdiv p0 p1))))
noncomputable def label_turn (p0 : S_api_XY) (p1 : S_api_XY) (p2 : S_api_XY) : Option Int :=
 if 0 < (w64 ((w64 ((w64 (p1.X - p0.X)) * (w64 (p2.Y - p0.Y)))) - (w64 ((w64 (p1.Y - p0.Y)) * (w64 (p2.X - p0.X)))))) then (some 1)
 else (if (w64 ((w64 ((w64 (p1.X - p0.X)) * (w64 (p2.Y - p0.Y)))) - (w64 ((w64 (p1.Y - p0.Y)) * (w64 (p2.X - p0.X)))))) < 0 then (some (-1))
 else (some 0))
noncomputable def label_on (p0 : S_api_XY) (p1 : S_api_XY) (p2 : S_api_XY) : Option Bool :=
 jn (fun (s2 : Bool) =>
 some s2)
 (fun j2 => bnd (label_turn p0 p1 p2) fun r4 =>
 if r4 = 0 then (bnd (label_within (min p0.X p1.X) p2.X (max p0.X p1.X)) fun r9 =>
 if r9 = true then (bnd (label_within (min p0.Y p1.Y) p2.Y (max p0.Y p1.Y)) fun r14 =>
 j2 r14)
 else (j2 false))
 else (j2 false))
noncomputable def label_crosses (p0 : S_api_XY) (p1 : S_api_XY) (p2 : S_api_XY) : Option Bool :=
 if ((decide (p2.Y < p0.Y)) == (decide (p2.Y < p1.Y))) = true then (some false)
 else (if p0.Y < p1.Y then (bnd (label_turn p0 p1 p2) fun r9 =>
 some (decide (0 < r9)))
 else (bnd (label_turn p1 p0 p2) fun r13 =>
 some (decide (0 < r13))))
noncomputable def label_inRing_l4 (p0 : List S_api_XY) (p1 : S_api_XY) : (Bool × Int × Int × Int) → Option (Sum (Bool × Int × Int × Int) (Sum Bool Bool)) := fun s44 =>
 if s44.2.2.2 < ((((p0).length : Nat) : Int)) then (bnd (idx p0 s44.2.2.2) fun x48 =>
 bnd (label_on (⟨s44.2.1, s44.2.2.1⟩ : S_api_XY) x48 p1) fun r60 =>
 if r60 = true then (some (.inr (.inr (true))))
 else (jn (fun (s22 : Bool) =>
 some (.inl (s22, x48.X, x48.Y, w64 (s44.2.2.2 + 1))))
 (fun j22 => bnd (label_crosses (⟨s44.2.1, s44.2.2.1⟩ : S_api_XY) x48 p1) fun r66 =>
 if r66 = true then (j22 (!(s44.1)))
 else (j22 s44.1))))
 else (some (.inr (.inl s44.1)))
noncomputable def label_inRing (p0 : List S_api_XY) (p1 : S_api_XY) : Option Bool :=
 bnd (idx p0 (w64 (((((p0).length : Nat) : Int)) - 1))) fun x2 =>
 jn (fun (s4 : Bool) =>
 some s4)
 (fun j4 => bnd (lfix (label_inRing_l4 p0 p1) (false, x2.X, x2.Y, 0)) fun t44 =>
 (match t44 with
 | (.inl z44) => j4 z44
 | (.inr (z44)) => some z44
 ))
def e_api_XY (x : S_api_XY) : List Value := [.int .i64 (x.X), .int .i64 (x.Y)]
theorem e_api_XY_len (x : S_api_XY) : (e_api_XY x).length = 2 := rfl
noncomputable def label_validRing_l4 (p0 : List S_api_XY) : Int → Option (Sum Int (Sum Unit Bool)) := fun s29 =>
 if s29 < ((((p0).length : Nat) : Int)) then (bnd (idx p0 s29) fun x33 =>
 bnd (label_validPlace x33) fun r45 =>
 if r45 = true then (some (.inl (w64 (s29 + 1))))
 else (some (.inr (.inr (false)))))
 else (some (.inr (.inl ())))
noncomputable def label_validRing (p0 : List S_api_XY) : Option Bool :=
 bnd (label_within 3 (((p0).length : Nat) : Int) 64) fun r1 =>
 if r1 = true then (jn (fun (s5 : Unit) =>
 some true)
 (fun j5 => bnd (lfix (label_validRing_l4 p0) 0) fun t29 =>
 (match t29 with
 | (.inl z29) => j5 z29
 | (.inr (z29)) => some z29
 )))
 else (some false)
noncomputable def label_Within (p0 : List S_api_XY) (p1 : S_api_XY) : Option (Bool × Int) :=
 bnd (label_validRing p0) fun r2 =>
 if r2 = true then (bnd (label_validPlace p1) fun r8 =>
 if r8 = true then (bnd (label_inRing p0 p1) fun r14 =>
 some (r14, 0))
 else (some (false, 11)))
 else (some (false, 72))
set_option maxRecDepth 100000 in
theorem label_within_ok (p0 : Int) (p1 : Int) (p2 : Int)  {r : Bool} (hx : label_within p0 p1 p2 = some r) (w : World) : CtL Try.prog 44 [.int .i64 (p0), .int .i64 (p1), .int .i64 (p2)] w fun v Ln => v = .bool (r) ∧ Ln = [] ∧ True := by
  refine CtL.mk 15 Try.func44 rfl Try.ntmps44 (by kernel_rfl) rfl ?_
  show T 15 _ [(0, .int .i64 (p0)), (1, .int .i64 (p1)), (2, .int .i64 (p2))] _
  unfold label_within at hx
  refine T_seq ?_
  refine T_reg ?_
  refine T_val (Ev_assign rfl) rfl ?_
  refine T_nil ?_
  refine T_next ?_
  obtain ⟨j2, hj2, hx⟩ := jn_some hx
  refine T_cutP (τ := Bool) (γ := Unit) (J := j2) (out := r) (fun s2 y2 => [(6, .bool (s2))]) (fun s2 y2 => [] ++ [.old w]) (fun s2 y2 => True) ?_ ?_
  · intro s2 y2 hx4 hG5
    subst hj2
    refine T_retc ?_
    obtain rfl := Option.some.inj hx4
    exact T_retP (rs := [.tmp 6]) Try.results44 (.tmp rfl (.nil)) (Ln := []) ⟨rfl, rfl, trivial⟩ (loNil) (by exact .refl)
  · skip
    refine T_reg ?_
    refine T_val (Ev_move rfl) rfl ?_
    refine T_val (Ev_move rfl) rfl ?_
    refine T_val (Ev_leq rfl rfl) rfl ?_
    refine T_val (Ev_move rfl) rfl ?_
    refine T_caseP (s := 10) rfl (fun h1 => ?_) (fun h1 => ?_)
    · have hx2 := ite_t h1 hx
      refine T_valG rfl rfl rfl (Ev_move rfl) rfl ?_
      refine T_valG rfl rfl rfl (Ev_move rfl) rfl ?_
      refine T_valG rfl rfl rfl (Ev_leq rfl rfl) rfl ?_
      refine T_val (Ev_pickT rfl rfl) rfl ?_
      refine T_val (Ev_assign rfl) rfl ?_
      refine T_nil ?_
      exact T_metP (decide (p1 ≤ p2)) () hx2 trivial (by exact .cons rfl (.nil)) (by exact .refl)
    · have hx3 := ite_f h1 hx
      refine T_skipG rfl rfl rfl rfl rfl ?_
      refine T_skipG rfl rfl rfl rfl rfl ?_
      refine T_skipG rfl rfl rfl rfl rfl ?_
      refine T_val (Ev_pickF rfl rfl) rfl ?_
      refine T_val (Ev_assign rfl) rfl ?_
      refine T_nil ?_
      exact T_metP false () hx3 trivial (by exact .cons rfl (.nil)) (by exact .refl)
set_option maxRecDepth 100000 in
theorem label_validPlace_ok (p0 : S_api_XY)  {r : Bool} (hx : label_validPlace p0 = some r) (w : World) : CtL Try.prog 27 [.agg #[.int .i64 (p0.X), .int .i64 (p0.Y)]] w fun v Ln => v = .bool (r) ∧ Ln = [] ∧ True := by
  refine CtL.mk 11 Try.func27 rfl Try.ntmps27 (by kernel_rfl) rfl ?_
  show T 11 _ [(0, .agg #[.int .i64 (p0.X), .int .i64 (p0.Y)])] _
  unfold label_validPlace at hx
  refine T_seq ?_
  refine T_reg ?_
  refine T_x (Wx_box rfl rfl rfl (fun g1 => ?_))
  refine T_val (Ev_assign rfl) rfl ?_
  refine T_nil ?_
  refine T_next ?_
  obtain ⟨j2, hj2, hx⟩ := jn_some hx
  refine T_cutP (τ := Bool) (γ := Unit) (J := j2) (out := r) (fun s2 y2 => [(2, .bool (s2))]) (fun s2 y2 => [] ++ [.old w]) (fun s2 y2 => True) ?_ ?_
  · intro s2 y2 hx11 hG12
    subst hj2
    refine T_retc ?_
    obtain rfl := Option.some.inj hx11
    exact T_retP (rs := [.tmp 2]) Try.results27 (.tmp rfl (.nil)) (Ln := []) ⟨rfl, rfl, trivial⟩ (loNil) (by exact .refl)
  · skip
    refine T_reg ?_
    refine T_val (Ev_field rfl fld24_0 rfl) rfl ?_
    refine T_val (Ev_load1 rfl (i := 0) rfl rfl one3) rfl ?_
    obtain ⟨r2, h3, hx4⟩ := bnd_some hx
    refine T_x (Wx_callL rfl (fun w1 hw1 => label_within_ok (-268435456) p0.X 268435456  h3 w1) rfl ?_)
    rintro _ _ hlo ⟨rfl, rfl, -⟩
    refine T_app0 ?_
    refine T_val (Ev_move rfl) rfl ?_
    refine T_caseB (s := 6) rfl (fun h5 => ?_) (fun h5 => ?_)
    · have hx6 := ite_t h5 hx4
      refine T_valG rfl rfl rfl (Ev_field rfl fld24_1 rfl) rfl ?_
      refine T_valG rfl rfl rfl (Ev_load1 rfl (i := 0) rfl rfl one3) rfl ?_
      obtain ⟨r7, h8, hx9⟩ := bnd_some hx6
      refine T_xG rfl rfl rfl (Wx_callL rfl (fun w1 hw1 => label_within_ok (-268435456) p0.Y 268435456  h8 w1) rfl ?_)
      rintro _ _ hlo ⟨rfl, rfl, -⟩
      refine T_app0 ?_
      refine T_val (Ev_pickT rfl rfl) rfl ?_
      refine T_val (Ev_assign rfl) rfl ?_
      refine T_nil ?_
      exact T_metP r7 () hx9 trivial (by exact .cons rfl (.nil)) (by exact .drop 0 rfl (.refl))
    · have hx10 := ite_bf h5 hx4
      refine T_skipG rfl rfl rfl rfl rfl ?_
      refine T_skipG rfl rfl rfl rfl rfl ?_
      refine T_skipG rfl rfl rfl rfl rfl ?_
      refine T_val (Ev_pickF rfl rfl) rfl ?_
      refine T_val (Ev_assign rfl) rfl ?_
      refine T_nil ?_
      exact T_metP false () hx10 trivial (by exact .cons rfl (.nil)) (by exact .drop 0 rfl (.refl))
set_option maxRecDepth 100000 in
theorem label_place_ok (p0 : S_api_Point)  {r : S_api_XY} (hx : label_place p0 = some r) (w : World) : CtL Try.prog 60 [.agg #[.int .i64 (p0.Id), .int .i64 (p0.X), .int .i64 (p0.Y), .int .i64 (p0.Z.Lo), .int .i64 (p0.Z.Hi), .int .i64 (p0.Wide), .int .i64 (p0.Num), .int .i64 (p0.Of), .int .i64 (p0.Class)]] w fun v Ln => v = .agg #[.int .i64 (r.X), .int .i64 (r.Y)] ∧ Ln = [] ∧ True := by
  refine CtL.mk 8 Try.func60 rfl Try.ntmps60 (by kernel_rfl) rfl ?_
  show T 8 _ [(0, .agg #[.int .i64 (p0.Id), .int .i64 (p0.X), .int .i64 (p0.Y), .int .i64 (p0.Z.Lo), .int .i64 (p0.Z.Hi), .int .i64 (p0.Wide), .int .i64 (p0.Num), .int .i64 (p0.Of), .int .i64 (p0.Class)])] _
  unfold label_place at hx
  refine T_seq ?_
  refine T_reg ?_
  refine T_x (Wx_box rfl rfl rfl (fun g1 => ?_))
  refine T_x (Wx_alloc zer24 rfl (fun g2 => ?_))
  refine T_nil ?_
  refine T_next ?_
  refine T_seq ?_
  refine T_reg ?_
  refine T_val (Ev_field rfl fld53_1 rfl) rfl ?_
  refine T_val (Ev_load1 rfl (i := 1) rfl rfl one3) rfl ?_
  refine T_val (Ev_field rfl fld53_2 rfl) rfl ?_
  refine T_val (Ev_load1 rfl (i := 1) rfl rfl one3) rfl ?_
  refine T_val (Ev_build rfl (bld24_0i641i64 _ _)) rfl ?_
  refine T_h (Wh_store rfl rfl rfl (.here) (.put (.put (.done))) rfl (List.cons_ne_nil _ _) agg24.2 ?_)
  refine T_nil ?_
  refine T_next ?_
  refine T_retc ?_
  obtain rfl := Option.some.inj hx
  exact T_retP (rs := [.cell 2 24]) Try.results60 (.cell rfl (i := 0) rfl rfl agg24 (.nil)) (Ln := []) ⟨rfl, rfl, trivial⟩ (loNil) (by exact .drop 0 rfl (.drop 0 rfl (.refl)))
set_option maxRecDepth 100000 in
theorem label_validPoint_ok (p0 : S_api_Point)  {r : Bool} (hx : label_validPoint p0 = some r) (w : World) : CtL Try.prog 42 [.agg #[.int .i64 (p0.Id), .int .i64 (p0.X), .int .i64 (p0.Y), .int .i64 (p0.Z.Lo), .int .i64 (p0.Z.Hi), .int .i64 (p0.Wide), .int .i64 (p0.Num), .int .i64 (p0.Of), .int .i64 (p0.Class)]] w fun v Ln => v = .bool (r) ∧ Ln = [] ∧ True := by
  refine CtL.mk 43 Try.func42 rfl Try.ntmps42 (by kernel_rfl) rfl ?_
  show T 43 _ [(0, .agg #[.int .i64 (p0.Id), .int .i64 (p0.X), .int .i64 (p0.Y), .int .i64 (p0.Z.Lo), .int .i64 (p0.Z.Hi), .int .i64 (p0.Wide), .int .i64 (p0.Num), .int .i64 (p0.Of), .int .i64 (p0.Class)])] _
  unfold label_validPoint at hx
  refine T_seq ?_
  refine T_reg ?_
  refine T_x (Wx_box rfl rfl rfl (fun g1 => ?_))
  refine T_val (Ev_assign rfl) rfl ?_
  refine T_nil ?_
  refine T_next ?_
  obtain ⟨j2, hj2, hx⟩ := jn_some hx
  refine T_cutP (τ := Bool) (γ := Unit) (J := j2) (out := r) (fun s2 y2 => [(2, .bool (s2))]) (fun s2 y2 => [] ++ [.old w]) (fun s2 y2 => True) ?_ ?_
  · intro s2 y2 hx38 hG39
    subst hj2
    refine T_retc ?_
    obtain rfl := Option.some.inj hx38
    exact T_retP (rs := [.tmp 2]) Try.results42 (.tmp rfl (.nil)) (Ln := []) ⟨rfl, rfl, trivial⟩ (loNil) (by exact .refl)
  · skip
    refine T_reg ?_
    refine T_val (Ev_field rfl fld53_0 rfl) rfl ?_
    refine T_val (Ev_load1 rfl (i := 0) rfl rfl one3) rfl ?_
    obtain ⟨r2, h3, hx4⟩ := bnd_some hx
    refine T_x (Wx_callL rfl (fun w1 hw1 => label_within_ok 0 p0.Id 1152921504606846976  h3 w1) rfl ?_)
    rintro _ _ hlo ⟨rfl, rfl, -⟩
    refine T_app0 ?_
    refine T_val (Ev_move rfl) rfl ?_
    refine T_caseB (s := 6) rfl (fun h5 => ?_) (fun h5 => ?_)
    · have hx6 := ite_t h5 hx4
      refine T_valG rfl rfl rfl (Ev_loadK rfl (i := 0) rfl rfl agg53) rfl ?_
      obtain ⟨r7, h8, hx9⟩ := bnd_some hx6
      refine T_xG rfl rfl rfl (Wx_callL rfl (fun w1 hw1 => label_place_ok p0  h8 w1) rfl ?_)
      rintro _ _ hlo ⟨rfl, rfl, -⟩
      refine T_app0 ?_
      obtain ⟨r10, h11, hx12⟩ := bnd_some hx9
      refine T_xG rfl rfl rfl (Wx_callL rfl (fun w1 hw1 => label_validPlace_ok r7  h11 w1) rfl ?_)
      rintro _ _ hlo ⟨rfl, rfl, -⟩
      refine T_app0 ?_
      refine T_val (Ev_pickT rfl rfl) rfl ?_
      refine T_val (Ev_move rfl) rfl ?_
      refine T_caseB (s := 11) rfl (fun h13 => ?_) (fun h13 => ?_)
      · have hx14 := ite_t h13 hx12
        refine T_valG rfl rfl rfl (Ev_field rfl fld53_3 rfl) rfl ?_
        refine T_valG rfl rfl rfl (Ev_field rfl fld51_0 rfl) rfl ?_
        refine T_valG rfl rfl rfl (Ev_load1 rfl (i := 0) rfl rfl one3) rfl ?_
        refine T_valG rfl rfl rfl (Ev_field rfl fld53_3 rfl) rfl ?_
        refine T_valG rfl rfl rfl (Ev_field rfl fld51_1 rfl) rfl ?_
        refine T_valG rfl rfl rfl (Ev_load1 rfl (i := 0) rfl rfl one3) rfl ?_
        obtain ⟨r15, h16, hx17⟩ := bnd_some hx14
        refine T_xG rfl rfl rfl (Wx_callL rfl (fun w1 hw1 => label_within_ok (-268435456) p0.Z.Lo p0.Z.Hi  h16 w1) rfl ?_)
        rintro _ _ hlo ⟨rfl, rfl, -⟩
        refine T_app0 ?_
        refine T_val (Ev_pickT rfl rfl) rfl ?_
        refine T_val (Ev_move rfl) rfl ?_
        refine T_caseB (s := 20) rfl (fun h18 => ?_) (fun h18 => ?_)
        · have hx19 := ite_t h18 hx17
          refine T_valG rfl rfl rfl (Ev_field rfl fld53_3 rfl) rfl ?_
          refine T_valG rfl rfl rfl (Ev_field rfl fld51_1 rfl) rfl ?_
          refine T_valG rfl rfl rfl (Ev_load1 rfl (i := 0) rfl rfl one3) rfl ?_
          refine T_valG rfl rfl rfl (Ev_leq rfl rfl) rfl ?_
          refine T_val (Ev_pickT rfl rfl) rfl ?_
          refine T_val (Ev_move rfl) rfl ?_
          refine T_caseP (s := 26) rfl (fun h20 => ?_) (fun h20 => ?_)
          · have hx21 := ite_t h20 hx19
            refine T_valG rfl rfl rfl (Ev_field rfl fld53_4 rfl) rfl ?_
            refine T_valG rfl rfl rfl (Ev_load1 rfl (i := 0) rfl rfl one3) rfl ?_
            obtain ⟨r22, h23, hx24⟩ := bnd_some hx21
            refine T_xG rfl rfl rfl (Wx_callL rfl (fun w1 hw1 => label_within_ok 0 p0.Wide 268435456  h23 w1) rfl ?_)
            rintro _ _ hlo ⟨rfl, rfl, -⟩
            refine T_app0 ?_
            refine T_val (Ev_pickT rfl rfl) rfl ?_
            refine T_val (Ev_move rfl) rfl ?_
            refine T_caseB (s := 31) rfl (fun h25 => ?_) (fun h25 => ?_)
            · have hx26 := ite_t h25 hx24
              refine T_valG rfl rfl rfl (Ev_field rfl fld53_5 rfl) rfl ?_
              refine T_valG rfl rfl rfl (Ev_load1 rfl (i := 0) rfl rfl one3) rfl ?_
              refine T_valG rfl rfl rfl (Ev_field rfl fld53_6 rfl) rfl ?_
              refine T_valG rfl rfl rfl (Ev_load1 rfl (i := 0) rfl rfl one3) rfl ?_
              obtain ⟨r27, h28, hx29⟩ := bnd_some hx26
              refine T_xG rfl rfl rfl (Wx_callL rfl (fun w1 hw1 => label_within_ok 1 p0.Num p0.Of  h28 w1) rfl ?_)
              rintro _ _ hlo ⟨rfl, rfl, -⟩
              refine T_app0 ?_
              refine T_val (Ev_pickT rfl rfl) rfl ?_
              refine T_val (Ev_move rfl) rfl ?_
              refine T_caseB (s := 38) rfl (fun h30 => ?_) (fun h30 => ?_)
              · have hx31 := ite_t h30 hx29
                refine T_valG rfl rfl rfl (Ev_field rfl fld53_6 rfl) rfl ?_
                refine T_valG rfl rfl rfl (Ev_load1 rfl (i := 0) rfl rfl one3) rfl ?_
                refine T_valG rfl rfl rfl (Ev_leq rfl rfl) rfl ?_
                refine T_val (Ev_pickT rfl rfl) rfl ?_
                refine T_val (Ev_assign rfl) rfl ?_
                refine T_nil ?_
                exact T_metP (decide (p0.Of ≤ 15)) () hx31 trivial (by exact .cons rfl (.nil)) (by exact .drop 0 rfl (.refl))
              · have hx32 := ite_bf h30 hx29
                refine T_skipG rfl rfl rfl rfl rfl ?_
                refine T_skipG rfl rfl rfl rfl rfl ?_
                refine T_skipG rfl rfl rfl rfl rfl ?_
                refine T_val (Ev_pickF rfl rfl) rfl ?_
                refine T_val (Ev_assign rfl) rfl ?_
                refine T_nil ?_
                exact T_metP false () hx32 trivial (by exact .cons rfl (.nil)) (by exact .drop 0 rfl (.refl))
            · have hx33 := ite_bf h25 hx24
              refine T_skipG rfl rfl rfl rfl rfl ?_
              refine T_skipG rfl rfl rfl rfl rfl ?_
              refine T_skipG rfl rfl rfl rfl rfl ?_
              refine T_skipG rfl rfl rfl rfl rfl ?_
              refine T_skipG rfl rfl rfl rfl rfl ?_
              refine T_val (Ev_pickF rfl rfl) rfl ?_
              refine T_val (Ev_move rfl) rfl ?_
              refine T_skipG rfl rfl rfl rfl rfl ?_
              refine T_skipG rfl rfl rfl rfl rfl ?_
              refine T_skipG rfl rfl rfl rfl rfl ?_
              refine T_val (Ev_pickF rfl rfl) rfl ?_
              refine T_val (Ev_assign rfl) rfl ?_
              refine T_nil ?_
              exact T_metP false () hx33 trivial (by exact .cons rfl (.nil)) (by exact .drop 0 rfl (.refl))
          · have hx34 := ite_f h20 hx19
            refine T_skipG rfl rfl rfl rfl rfl ?_
            refine T_skipG rfl rfl rfl rfl rfl ?_
            refine T_skipG rfl rfl rfl rfl rfl ?_
            refine T_val (Ev_pickF rfl rfl) rfl ?_
            refine T_val (Ev_move rfl) rfl ?_
            refine T_skipG rfl rfl rfl rfl rfl ?_
            refine T_skipG rfl rfl rfl rfl rfl ?_
            refine T_skipG rfl rfl rfl rfl rfl ?_
            refine T_skipG rfl rfl rfl rfl rfl ?_
            refine T_skipG rfl rfl rfl rfl rfl ?_
            refine T_val (Ev_pickF rfl rfl) rfl ?_
            refine T_val (Ev_move rfl) rfl ?_
            refine T_skipG rfl rfl rfl rfl rfl ?_
            refine T_skipG rfl rfl rfl rfl rfl ?_
            refine T_skipG rfl rfl rfl rfl rfl ?_
            refine T_val (Ev_pickF rfl rfl) rfl ?_
            refine T_val (Ev_assign rfl) rfl ?_
            refine T_nil ?_
            exact T_metP false () hx34 trivial (by exact .cons rfl (.nil)) (by exact .drop 0 rfl (.refl))
        · have hx35 := ite_bf h18 hx17
          refine T_skipG rfl rfl rfl rfl rfl ?_
          refine T_skipG rfl rfl rfl rfl rfl ?_
          refine T_skipG rfl rfl rfl rfl rfl ?_
          refine T_skipG rfl rfl rfl rfl rfl ?_
          refine T_val (Ev_pickF rfl rfl) rfl ?_
          refine T_val (Ev_move rfl) rfl ?_
          refine T_skipG rfl rfl rfl rfl rfl ?_
          refine T_skipG rfl rfl rfl rfl rfl ?_
          refine T_skipG rfl rfl rfl rfl rfl ?_
          refine T_val (Ev_pickF rfl rfl) rfl ?_
          refine T_val (Ev_move rfl) rfl ?_
          refine T_skipG rfl rfl rfl rfl rfl ?_
          refine T_skipG rfl rfl rfl rfl rfl ?_
          refine T_skipG rfl rfl rfl rfl rfl ?_
          refine T_skipG rfl rfl rfl rfl rfl ?_
          refine T_skipG rfl rfl rfl rfl rfl ?_
          refine T_val (Ev_pickF rfl rfl) rfl ?_
          refine T_val (Ev_move rfl) rfl ?_
          refine T_skipG rfl rfl rfl rfl rfl ?_
          refine T_skipG rfl rfl rfl rfl rfl ?_
          refine T_skipG rfl rfl rfl rfl rfl ?_
          refine T_val (Ev_pickF rfl rfl) rfl ?_
          refine T_val (Ev_assign rfl) rfl ?_
          refine T_nil ?_
          exact T_metP false () hx35 trivial (by exact .cons rfl (.nil)) (by exact .drop 0 rfl (.refl))
      · have hx36 := ite_bf h13 hx12
        refine T_skipG rfl rfl rfl rfl rfl ?_
        refine T_skipG rfl rfl rfl rfl rfl ?_
        refine T_skipG rfl rfl rfl rfl rfl ?_
        refine T_skipG rfl rfl rfl rfl rfl ?_
        refine T_skipG rfl rfl rfl rfl rfl ?_
        refine T_skipG rfl rfl rfl rfl rfl ?_
        refine T_skipG rfl rfl rfl rfl rfl ?_
        refine T_val (Ev_pickF rfl rfl) rfl ?_
        refine T_val (Ev_move rfl) rfl ?_
        refine T_skipG rfl rfl rfl rfl rfl ?_
        refine T_skipG rfl rfl rfl rfl rfl ?_
        refine T_skipG rfl rfl rfl rfl rfl ?_
        refine T_skipG rfl rfl rfl rfl rfl ?_
        refine T_val (Ev_pickF rfl rfl) rfl ?_
        refine T_val (Ev_move rfl) rfl ?_
        refine T_skipG rfl rfl rfl rfl rfl ?_
        refine T_skipG rfl rfl rfl rfl rfl ?_
        refine T_skipG rfl rfl rfl rfl rfl ?_
        refine T_val (Ev_pickF rfl rfl) rfl ?_
        refine T_val (Ev_move rfl) rfl ?_
        refine T_skipG rfl rfl rfl rfl rfl ?_
        refine T_skipG rfl rfl rfl rfl rfl ?_
        refine T_skipG rfl rfl rfl rfl rfl ?_
        refine T_skipG rfl rfl rfl rfl rfl ?_
        refine T_skipG rfl rfl rfl rfl rfl ?_
        refine T_val (Ev_pickF rfl rfl) rfl ?_
        refine T_val (Ev_move rfl) rfl ?_
        refine T_skipG rfl rfl rfl rfl rfl ?_
        refine T_skipG rfl rfl rfl rfl rfl ?_
        refine T_skipG rfl rfl rfl rfl rfl ?_
        refine T_val (Ev_pickF rfl rfl) rfl ?_
        refine T_val (Ev_assign rfl) rfl ?_
        refine T_nil ?_
        exact T_metP false () hx36 trivial (by exact .cons rfl (.nil)) (by exact .drop 0 rfl (.refl))
    · have hx37 := ite_bf h5 hx4
      refine T_skipG rfl rfl rfl rfl rfl ?_
      refine T_skipG rfl rfl rfl rfl rfl ?_
      refine T_skipG rfl rfl rfl rfl rfl ?_
      refine T_val (Ev_pickF rfl rfl) rfl ?_
      refine T_val (Ev_move rfl) rfl ?_
      refine T_skipG rfl rfl rfl rfl rfl ?_
      refine T_skipG rfl rfl rfl rfl rfl ?_
      refine T_skipG rfl rfl rfl rfl rfl ?_
      refine T_skipG rfl rfl rfl rfl rfl ?_
      refine T_skipG rfl rfl rfl rfl rfl ?_
      refine T_skipG rfl rfl rfl rfl rfl ?_
      refine T_skipG rfl rfl rfl rfl rfl ?_
      refine T_val (Ev_pickF rfl rfl) rfl ?_
      refine T_val (Ev_move rfl) rfl ?_
      refine T_skipG rfl rfl rfl rfl rfl ?_
      refine T_skipG rfl rfl rfl rfl rfl ?_
      refine T_skipG rfl rfl rfl rfl rfl ?_
      refine T_skipG rfl rfl rfl rfl rfl ?_
      refine T_val (Ev_pickF rfl rfl) rfl ?_
      refine T_val (Ev_move rfl) rfl ?_
      refine T_skipG rfl rfl rfl rfl rfl ?_
      refine T_skipG rfl rfl rfl rfl rfl ?_
      refine T_skipG rfl rfl rfl rfl rfl ?_
      refine T_val (Ev_pickF rfl rfl) rfl ?_
      refine T_val (Ev_move rfl) rfl ?_
      refine T_skipG rfl rfl rfl rfl rfl ?_
      refine T_skipG rfl rfl rfl rfl rfl ?_
      refine T_skipG rfl rfl rfl rfl rfl ?_
      refine T_skipG rfl rfl rfl rfl rfl ?_
      refine T_skipG rfl rfl rfl rfl rfl ?_
      refine T_val (Ev_pickF rfl rfl) rfl ?_
      refine T_val (Ev_move rfl) rfl ?_
      refine T_skipG rfl rfl rfl rfl rfl ?_
      refine T_skipG rfl rfl rfl rfl rfl ?_
      refine T_skipG rfl rfl rfl rfl rfl ?_
      refine T_val (Ev_pickF rfl rfl) rfl ?_
      refine T_val (Ev_assign rfl) rfl ?_
      refine T_nil ?_
      exact T_metP false () hx37 trivial (by exact .cons rfl (.nil)) (by exact .drop 0 rfl (.refl))
set_option maxRecDepth 100000 in
theorem label_Valid_ok (p0 : List S_api_Point) {K : List Ent} {A0_0 : Option Addr} {c0_0 : Nat} (ha0 : Has K A0_0 (p0).length c0_0 9 e_api_Point (p0)) {r : Bool} (hx : label_Valid p0 = some r) (w : World) (hK : ∀ e ∈ K, Ent.ok w e) : CtL Try.prog 16 [.slice (A0_0) ((p0).length) (c0_0)] w fun v Ln => v = .bool (r) ∧ Ln = [] ∧ True := by
  have ha0' := Has.up0 ha0
  refine CtL.mk 31 Try.func16 rfl Try.ntmps16 (by kernel_rfl) rfl ?_
  show T 31 _ [(0, .slice (A0_0) ((p0).length) (c0_0))] _
  unfold label_Valid at hx
  refine T_seq ?_
  refine T_reg ?_
  refine T_val (Ev_assign rfl) rfl ?_
  refine T_nil ?_
  refine T_next ?_
  refine T_seq ?_
  refine T_seq ?_
  refine T_reg ?_
  refine T_val (Ev_move rfl) rfl ?_
  refine T_val (Ev_len rfl 53 Try.underlying31) rfl ?_
  refine T_val (Ev_gtr rfl rfl) rfl ?_
  refine T_nil ?_
  refine T_next ?_
  refine T_caseP (s := 8) rfl (fun h1 => ?_) (fun h1 => ?_)
  · have hx2 := ite_t h1 hx
    refine T_condT rfl ?_
    refine T_seq ?_
    refine T_reg ?_
    refine T_val (Ev_assign rfl) rfl ?_
    refine T_nil ?_
    refine T_next ?_
    refine T_retc ?_
    refine T_outR ?_
    obtain rfl := Option.some.inj hx2
    exact T_retP (rs := [.tmp 2]) Try.results16 (.tmp rfl (.nil)) (Ln := []) ⟨rfl, rfl, trivial⟩ (loNil) (by exact .refl)
  · have hx3 := ite_f h1 hx
    refine T_condF rfl ?_
    refine T_skip ?_
    refine T_next ?_
    refine T_seq ?_
    refine T_reg ?_
    refine T_val (Ev_move rfl) rfl ?_
    refine T_val (Ev_len rfl 53 Try.underlying31) rfl ?_
    refine T_x (Wx_makeMapN Try.prog 3 v_i64 v_bool Try.underlying64 rfl rfl (fun g4 => ?_))
    refine T_val (Ev_assign rfl) rfl ?_
    refine T_nil ?_
    refine T_next ?_
    obtain ⟨j6, hj6, hx3⟩ := jn_some hx3
    refine T_cutP (τ := Unit) (γ := Unit) (J := j6) (out := r) (fun s6 y6 => []) (fun s6 y6 => [] ++ [.old w]) (fun s6 y6 => True) ?_ ?_
    · intro s6 y6 hx77 hG78
      subst hj6
      refine T_seq ?_
      refine T_reg ?_
      refine T_val (Ev_assign rfl) rfl ?_
      refine T_nil ?_
      refine T_next ?_
      refine T_retc ?_
      obtain rfl := Option.some.inj hx77
      exact T_retP (rs := [.tmp 2]) Try.results16 (.tmp rfl (.nil)) (Ln := []) ⟨rfl, rfl, trivial⟩ (loNil) (by exact .refl)
    · skip
      refine T_seq ?_
      refine T_reg ?_
      refine T_val (Ev_move rfl) rfl ?_
      refine T_val (Ev_len rfl 53 Try.underlying31) rfl ?_
      refine T_val (Ev_move rfl) rfl ?_
      refine T_nil ?_
      refine T_next ?_
      refine T_block ?_
      obtain ⟨t41, hl41, ho41⟩ := bnd_some hx3
      refine T_loopP (σ := (List (Int × Bool)) × Int) (γ := Unit) hl41 (fun s41 y41 => [(3, .map (some g4)), (12, .slice (A0_0) ((p0).length) (c0_0)), (13, .int .i64 ((((p0).length : Nat) : Int))), (14, .int .i64 (s41.2))]) (fun s41 y41 => [mapE Try.prog 3 v_i64 v_bool g4 (s41.1)] ++ [.old w]) (fun s41 y41 => True) () trivial (by exact .cons rfl (.cons rfl (.cons rfl (.cons rfl (.nil))))) (by exact .pick 0 rfl (.refl)) ?_
      intro s41 y41 hG41 x41 hx41 ht41
      unfold label_Valid_l5 at hx41
      refine T_seq ?_
      refine T_reg ?_
      refine T_val (Ev_lss rfl rfl) rfl ?_
      refine T_nil ?_
      refine T_next ?_
      refine T_seq ?_
      refine T_caseP (s := 15) rfl (fun h42 => ?_) (fun h42 => ?_)
      · have hx43 := ite_t h42 hx41
        refine T_condT rfl ?_
        refine T_skip ?_
        refine T_next ?_
        refine T_seq ?_
        refine T_block ?_
        refine T_seq ?_
        refine T_reg ?_
        obtain ⟨x45, h46, hx47⟩ := bnd_some hx43
        have hw55 := Has.low (E := []) ha0' hK
        obtain ⟨b48, o49, j50, hA51, hj52, hl53, hp54⟩ := Has.at_idx hw55 h46
        refine T_val (Ev_index rfl rfl hA51 (j := j50) hj52 hl53 slc31) rfl ?_
        refine T_val (Ev_loadPK0 rfl hp54 (SubE.cons2 (i := 1) rfl (SubE.nil)) rfl agg53) rfl ?_
        refine T_x (Wx_alloc zer53 rfl (fun g56 => ?_))
        refine T_h (Wh_store rfl rfl rfl (.here) (.put (.put (.put (.put (.put (.put (.put (.put (.put (.done)))))))))) rfl (List.cons_ne_nil _ _) agg53.2 ?_)
        refine T_nil ?_
        refine T_next ?_
        refine T_seq ?_
        obtain ⟨j20, hj20, hx47⟩ := jn_some hx47
        refine T_cutP (τ := Bool) (γ := Unit) (J := j20) (out := x41) (fun s20 y20 => [(3, .map (some g4)), (5, .pointer (some ⟨g56, 0, none⟩)), (12, .slice (A0_0) ((p0).length) (c0_0)), (13, .int .i64 ((((p0).length : Nat) : Int))), (14, .int .i64 (s41.2)), (26, .bool (s20))]) (fun s20 y20 => [.m g56 53 [.int .i64 (x45.Id), .int .i64 (x45.X), .int .i64 (x45.Y), .int .i64 (x45.Z.Lo), .int .i64 (x45.Z.Hi), .int .i64 (x45.Wide), .int .i64 (x45.Num), .int .i64 (x45.Of), .int .i64 (x45.Class)], mapE Try.prog 3 v_i64 v_bool g4 (s41.1)] ++ [.old w]) (fun s20 y20 => True) ?_ ?_
        · intro s20 y20 hx68 hG69
          subst hj20
          refine T_caseB (s := 26) rfl (fun h70 => ?_) (fun h70 => ?_)
          · have hx71 := ite_t h70 hx68
            refine T_condT rfl ?_
            refine T_seq ?_
            refine T_reg ?_
            refine T_val (Ev_assign rfl) rfl ?_
            refine T_nil ?_
            refine T_next ?_
            refine T_retc ?_
            refine T_outR ?_
            refine T_inR ?_
            refine T_outR ?_
            obtain rfl := exit_eq ht41 hx71
            refine T_outR ?_
            refine T_inR ?_
            refine T_outR ?_
            obtain rfl := Option.some.inj ho41
            exact T_retP (rs := [.tmp 2]) Try.results16 (.tmp rfl (.nil)) (Ln := []) ⟨rfl, rfl, trivial⟩ (loNil) (by exact .drop 0 rfl (.drop 0 rfl (.refl)))
          · have hx72 := ite_bf h70 hx68
            refine T_condF rfl ?_
            refine T_skip ?_
            refine T_next ?_
            refine T_reg ?_
            refine T_val (Ev_move rfl) rfl ?_
            refine T_val (Ev_field rfl fld53_0 rfl) rfl ?_
            refine T_val (Ev_load1 rfl (i := 0) rfl rfl one3) rfl ?_
            obtain ⟨h73, hx74⟩ := gd_some hx72
            obtain ⟨h75, hx76⟩ := gd_some hx74
            refine T_h (Wh_mapPut (x := x45.Id) (y := true) key3 Try.underlying64 rfl rfl rfl rfl rfl (.there (.here)) (isk3 x45.Id h73) h75 ?_)
            refine T_nil ?_
            refine T_inN ?_
            refine T_next ?_
            refine T_reg ?_
            refine T_val (Ev_add_w64 rfl rfl) rfl ?_
            refine T_val (Ev_move rfl) rfl ?_
            refine T_nil ?_
            exact T_roundP ((x45.Id, true) :: s41.1, w64 (s41.2 + 1)) () hx76 trivial (by exact .cons rfl (.cons rfl (.cons rfl (.cons rfl (.nil))))) (by exact .pick 1 rfl (.drop 0 rfl (.refl)))
        · skip
          refine T_reg ?_
          refine T_val (Ev_loadK rfl (i := 0) rfl rfl agg53) rfl ?_
          obtain ⟨r57, h58, hx59⟩ := bnd_some hx47
          refine T_x (Wx_callL rfl (fun w1 hw1 => label_validPoint_ok x45  h58 w1) rfl ?_)
          rintro _ _ hlo ⟨rfl, rfl, -⟩
          refine T_app0 ?_
          refine T_val (Ev_not rfl) rfl ?_
          refine T_val (Ev_move rfl) rfl ?_
          refine T_caseNB (s := 21) rfl (fun h60 => ?_) (fun h60 => ?_)
          · have hx61 := ite_bf h60 hx59
            refine T_skipG rfl rfl rfl rfl rfl ?_
            refine T_skipG rfl rfl rfl rfl rfl ?_
            refine T_skipG rfl rfl rfl rfl rfl ?_
            refine T_skipG rfl rfl rfl rfl rfl ?_
            refine T_val (Ev_pickT rfl rfl) rfl ?_
            refine T_nil ?_
            exact T_metP true () hx61 trivial (by exact .cons rfl (.cons rfl (.cons rfl (.cons rfl (.cons rfl (.cons rfl (.nil))))))) (by exact .pick 0 rfl (.pick 0 rfl (.refl)))
          · have hx62 := ite_t h60 hx59
            refine T_valG rfl rfl rfl (Ev_move rfl) rfl ?_
            refine T_valG rfl rfl rfl (Ev_field rfl fld53_0 rfl) rfl ?_
            refine T_valG rfl rfl rfl (Ev_load1 rfl (i := 0) rfl rfl one3) rfl ?_
            obtain ⟨h63, hx64⟩ := gd_some hx62
            obtain ⟨x65, h66, hx67⟩ := bnd_some hx64
            refine T_valG rfl rfl rfl (Ev_lookG (x := x45.Id) (i := 1) (vv := .bool (x65)) key3 Try.underlying64 (fun w => by kernel_rfl) v_i64_inj rfl rfl rfl rfl (isk3 x45.Id h63) h66 rfl) rfl ?_
            refine T_val (Ev_pickF rfl rfl) rfl ?_
            refine T_nil ?_
            exact T_metP x65 () hx67 trivial (by exact .cons rfl (.cons rfl (.cons rfl (.cons rfl (.cons rfl (.cons rfl (.nil))))))) (by exact .pick 0 rfl (.pick 0 rfl (.refl)))
      · have hx44 := ite_f h42 hx41
        refine T_condF rfl ?_
        refine T_exit ?_
        refine T_outX ?_
        obtain rfl := exit_eq ht41 hx44
        refine T_outX ?_
        refine T_here ?_
        exact T_metP () () ho41 trivial (by exact .nil) (by exact .drop 0 rfl (.refl))
set_option maxRecDepth 100000 in
theorem label_ValidRules_ok (p0 : S_api_Terrain)  {r : Bool} (hx : label_ValidRules p0 = some r) (w : World) : CtL Try.prog 18 [.agg #[.int .i64 (p0.Cell), .int .i64 (p0.Reach), .int .i64 (p0.Slope), .int .i64 (p0.Link), .int .i64 (p0.Flat), .int .i64 (p0.Tall), .int .i64 (p0.High), .int .i64 (p0.Low), .int .i64 (p0.Brush), .int .i64 (p0.Few)]] w fun v Ln => v = .bool (r) ∧ Ln = [] ∧ True := by
  refine CtL.mk 43 Try.func18 rfl Try.ntmps18 (by kernel_rfl) rfl ?_
  show T 43 _ [(0, .agg #[.int .i64 (p0.Cell), .int .i64 (p0.Reach), .int .i64 (p0.Slope), .int .i64 (p0.Link), .int .i64 (p0.Flat), .int .i64 (p0.Tall), .int .i64 (p0.High), .int .i64 (p0.Low), .int .i64 (p0.Brush), .int .i64 (p0.Few)])] _
  unfold label_ValidRules at hx
  refine T_seq ?_
  refine T_reg ?_
  refine T_x (Wx_box rfl rfl rfl (fun g1 => ?_))
  refine T_val (Ev_assign rfl) rfl ?_
  refine T_nil ?_
  refine T_next ?_
  obtain ⟨j2, hj2, hx⟩ := jn_some hx
  refine T_cutP (τ := Unit) (γ := Unit) (J := j2) (out := r) (fun s2 y2 => [(1, .pointer (some ⟨g1, 0, none⟩))]) (fun s2 y2 => [.m g1 33 [.int .i64 (p0.Cell), .int .i64 (p0.Reach), .int .i64 (p0.Slope), .int .i64 (p0.Link), .int .i64 (p0.Flat), .int .i64 (p0.Tall), .int .i64 (p0.High), .int .i64 (p0.Low), .int .i64 (p0.Brush), .int .i64 (p0.Few)]] ++ [.old w]) (fun s2 y2 => True) ?_ ?_
  · intro s2 y2 hx28 hG29
    subst hj2
    obtain ⟨j16, hj16, hx28⟩ := jn_some hx28
    refine T_cutP (τ := Bool) (γ := Unit) (J := j16) (out := r) (fun s16 y16 => [(2, .bool (s16))]) (fun s16 y16 => [] ++ [.old w]) (fun s16 y16 => True) ?_ ?_
    · intro s16 y16 hx51 hG52
      subst hj16
      refine T_retc ?_
      obtain rfl := Option.some.inj hx51
      exact T_retP (rs := [.tmp 2]) Try.results18 (.tmp rfl (.nil)) (Ln := []) ⟨rfl, rfl, trivial⟩ (loNil) (by exact .refl)
    · skip
      refine T_reg ?_
      refine T_val (Ev_field rfl fld33_0 rfl) rfl ?_
      refine T_val (Ev_load1 rfl (i := 0) rfl rfl one3) rfl ?_
      obtain ⟨r30, h31, hx32⟩ := bnd_some hx28
      refine T_x (Wx_callL rfl (fun w1 hw1 => label_within_ok 1 p0.Cell 10000000  h31 w1) rfl ?_)
      rintro _ _ hlo ⟨rfl, rfl, -⟩
      refine T_app0 ?_
      refine T_val (Ev_move rfl) rfl ?_
      refine T_caseB (s := 28) rfl (fun h33 => ?_) (fun h33 => ?_)
      · have hx34 := ite_t h33 hx32
        refine T_valG rfl rfl rfl (Ev_field rfl fld33_2 rfl) rfl ?_
        refine T_valG rfl rfl rfl (Ev_load1 rfl (i := 0) rfl rfl one3) rfl ?_
        obtain ⟨r35, h36, hx37⟩ := bnd_some hx34
        refine T_xG rfl rfl rfl (Wx_callL rfl (fun w1 hw1 => label_within_ok 0 p0.Slope 100000  h36 w1) rfl ?_)
        rintro _ _ hlo ⟨rfl, rfl, -⟩
        refine T_app0 ?_
        refine T_val (Ev_pickT rfl rfl) rfl ?_
        refine T_val (Ev_move rfl) rfl ?_
        refine T_caseB (s := 33) rfl (fun h38 => ?_) (fun h38 => ?_)
        · have hx39 := ite_t h38 hx37
          refine T_valG rfl rfl rfl (Ev_field rfl fld33_3 rfl) rfl ?_
          refine T_valG rfl rfl rfl (Ev_load1 rfl (i := 0) rfl rfl one3) rfl ?_
          obtain ⟨r40, h41, hx42⟩ := bnd_some hx39
          refine T_xG rfl rfl rfl (Wx_callL rfl (fun w1 hw1 => label_within_ok 1 p0.Link 1000000  h41 w1) rfl ?_)
          rintro _ _ hlo ⟨rfl, rfl, -⟩
          refine T_app0 ?_
          refine T_val (Ev_pickT rfl rfl) rfl ?_
          refine T_val (Ev_move rfl) rfl ?_
          refine T_caseB (s := 38) rfl (fun h43 => ?_) (fun h43 => ?_)
          · have hx44 := ite_t h43 hx42
            refine T_valG rfl rfl rfl (Ev_field rfl fld33_9 rfl) rfl ?_
            refine T_valG rfl rfl rfl (Ev_load1 rfl (i := 0) rfl rfl one3) rfl ?_
            obtain ⟨r45, h46, hx47⟩ := bnd_some hx44
            refine T_xG rfl rfl rfl (Wx_callL rfl (fun w1 hw1 => label_within_ok 1 p0.Few 1024  h46 w1) rfl ?_)
            rintro _ _ hlo ⟨rfl, rfl, -⟩
            refine T_app0 ?_
            refine T_val (Ev_pickT rfl rfl) rfl ?_
            refine T_val (Ev_assign rfl) rfl ?_
            refine T_nil ?_
            exact T_metP r45 () hx47 trivial (by exact .cons rfl (.nil)) (by exact .drop 0 rfl (.refl))
          · have hx48 := ite_bf h43 hx42
            refine T_skipG rfl rfl rfl rfl rfl ?_
            refine T_skipG rfl rfl rfl rfl rfl ?_
            refine T_skipG rfl rfl rfl rfl rfl ?_
            refine T_val (Ev_pickF rfl rfl) rfl ?_
            refine T_val (Ev_assign rfl) rfl ?_
            refine T_nil ?_
            exact T_metP false () hx48 trivial (by exact .cons rfl (.nil)) (by exact .drop 0 rfl (.refl))
        · have hx49 := ite_bf h38 hx37
          refine T_skipG rfl rfl rfl rfl rfl ?_
          refine T_skipG rfl rfl rfl rfl rfl ?_
          refine T_skipG rfl rfl rfl rfl rfl ?_
          refine T_val (Ev_pickF rfl rfl) rfl ?_
          refine T_val (Ev_move rfl) rfl ?_
          refine T_skipG rfl rfl rfl rfl rfl ?_
          refine T_skipG rfl rfl rfl rfl rfl ?_
          refine T_skipG rfl rfl rfl rfl rfl ?_
          refine T_val (Ev_pickF rfl rfl) rfl ?_
          refine T_val (Ev_assign rfl) rfl ?_
          refine T_nil ?_
          exact T_metP false () hx49 trivial (by exact .cons rfl (.nil)) (by exact .drop 0 rfl (.refl))
      · have hx50 := ite_bf h33 hx32
        refine T_skipG rfl rfl rfl rfl rfl ?_
        refine T_skipG rfl rfl rfl rfl rfl ?_
        refine T_skipG rfl rfl rfl rfl rfl ?_
        refine T_val (Ev_pickF rfl rfl) rfl ?_
        refine T_val (Ev_move rfl) rfl ?_
        refine T_skipG rfl rfl rfl rfl rfl ?_
        refine T_skipG rfl rfl rfl rfl rfl ?_
        refine T_skipG rfl rfl rfl rfl rfl ?_
        refine T_val (Ev_pickF rfl rfl) rfl ?_
        refine T_val (Ev_move rfl) rfl ?_
        refine T_skipG rfl rfl rfl rfl rfl ?_
        refine T_skipG rfl rfl rfl rfl rfl ?_
        refine T_skipG rfl rfl rfl rfl rfl ?_
        refine T_val (Ev_pickF rfl rfl) rfl ?_
        refine T_val (Ev_assign rfl) rfl ?_
        refine T_nil ?_
        exact T_metP false () hx50 trivial (by exact .cons rfl (.nil)) (by exact .drop 0 rfl (.refl))
  · skip
    refine T_seq ?_
    refine T_reg ?_
    refine T_val (Ev_field rfl fld33_1 rfl) rfl ?_
    refine T_val (Ev_load1 rfl (i := 0) rfl rfl one3) rfl ?_
    refine T_val (Ev_field rfl fld33_4 rfl) rfl ?_
    refine T_val (Ev_load1 rfl (i := 0) rfl rfl one3) rfl ?_
    refine T_val (Ev_field rfl fld33_5 rfl) rfl ?_
    refine T_val (Ev_load1 rfl (i := 0) rfl rfl one3) rfl ?_
    refine T_val (Ev_field rfl fld33_6 rfl) rfl ?_
    refine T_val (Ev_load1 rfl (i := 0) rfl rfl one3) rfl ?_
    refine T_val (Ev_field rfl fld33_7 rfl) rfl ?_
    refine T_val (Ev_load1 rfl (i := 0) rfl rfl one3) rfl ?_
    refine T_val (Ev_field rfl fld33_8 rfl) rfl ?_
    refine T_val (Ev_load1 rfl (i := 0) rfl rfl one3) rfl ?_
    refine T_val (Ev_build rfl (bld66_0i641i642i643i644i645i64 _ _ _ _ _ _)) rfl ?_
    refine T_val (Ev_move rfl) rfl ?_
    refine T_nil ?_
    refine T_next ?_
    refine T_block ?_
    obtain ⟨t15, hl15, ho15⟩ := bnd_some hx
    refine T_loopP (σ := Int) (γ := Unit) hl15 (fun s15 y15 => [(1, .pointer (some ⟨g1, 0, none⟩)), (17, .agg #[.int .i64 (p0.Reach), .int .i64 (p0.Flat), .int .i64 (p0.Tall), .int .i64 (p0.High), .int .i64 (p0.Low), .int .i64 (p0.Brush)]), (18, .int .i64 (s15))]) (fun s15 y15 => [.m g1 33 [.int .i64 (p0.Cell), .int .i64 (p0.Reach), .int .i64 (p0.Slope), .int .i64 (p0.Link), .int .i64 (p0.Flat), .int .i64 (p0.Tall), .int .i64 (p0.High), .int .i64 (p0.Low), .int .i64 (p0.Brush), .int .i64 (p0.Few)]] ++ [.old w]) (fun s15 y15 => True) () trivial (by exact .cons rfl (.cons rfl (.cons rfl (.nil)))) (by exact .pick 0 rfl (.refl)) ?_
    intro s15 y15 hG15 x15 hx15 ht15
    unfold label_ValidRules_l2 at hx15
    refine T_seq ?_
    refine T_reg ?_
    refine T_val (Ev_lss rfl rfl) rfl ?_
    refine T_nil ?_
    refine T_next ?_
    refine T_seq ?_
    refine T_caseP (s := 19) rfl (fun h16 => ?_) (fun h16 => ?_)
    · have hx17 := ite_t h16 hx15
      refine T_condT rfl ?_
      refine T_skip ?_
      refine T_next ?_
      refine T_seq ?_
      refine T_block ?_
      refine T_seq ?_
      refine T_reg ?_
      obtain ⟨x19, h20, hx21⟩ := bnd_some hx17
      refine T_val (Ev_indexA (kd := .i64) rfl rfl rfl (ixv66 _ _ _ _ _ _) h20) rfl ?_
      refine T_val (Ev_assign rfl) rfl ?_
      refine T_nil ?_
      refine T_next ?_
      refine T_seq ?_
      refine T_reg ?_
      refine T_val (Ev_move rfl) rfl ?_
      obtain ⟨r22, h23, hx24⟩ := bnd_some hx21
      refine T_x (Wx_callL rfl (fun w1 hw1 => label_within_ok 0 x19 1000000  h23 w1) rfl ?_)
      rintro _ _ hlo ⟨rfl, rfl, -⟩
      refine T_app0 ?_
      refine T_val (Ev_not rfl) rfl ?_
      refine T_nil ?_
      refine T_next ?_
      refine T_caseNB (s := 23) rfl (fun h25 => ?_) (fun h25 => ?_)
      · have hx26 := ite_bf h25 hx24
        refine T_condT rfl ?_
        refine T_seq ?_
        refine T_reg ?_
        refine T_val (Ev_assign rfl) rfl ?_
        refine T_nil ?_
        refine T_next ?_
        refine T_retc ?_
        refine T_inR ?_
        refine T_outR ?_
        obtain rfl := exit_eq ht15 hx26
        refine T_outR ?_
        refine T_inR ?_
        refine T_outR ?_
        obtain rfl := Option.some.inj ho15
        exact T_retP (rs := [.tmp 2]) Try.results18 (.tmp rfl (.nil)) (Ln := []) ⟨rfl, rfl, trivial⟩ (loNil) (by exact .drop 0 rfl (.refl))
      · have hx27 := ite_t h25 hx24
        refine T_condF rfl ?_
        refine T_skip ?_
        refine T_inN ?_
        refine T_next ?_
        refine T_reg ?_
        refine T_val (Ev_add_w64 rfl rfl) rfl ?_
        refine T_val (Ev_move rfl) rfl ?_
        refine T_nil ?_
        exact T_roundP (w64 (s15 + 1)) () hx27 trivial (by exact .cons rfl (.cons rfl (.cons rfl (.nil)))) (by exact .pick 0 rfl (.refl))
    · have hx18 := ite_f h16 hx15
      refine T_condF rfl ?_
      refine T_exit ?_
      refine T_outX ?_
      obtain rfl := exit_eq ht15 hx18
      refine T_outX ?_
      refine T_here ?_
      exact T_metP () () ho15 trivial (by exact .cons rfl (.nil)) (by exact .pick 0 rfl (.refl))
set_option maxRecDepth 100000 in
theorem label_lower_ok (p0 : S_api_Point) (p1 : S_api_Point)  {r : Bool} (hx : label_lower p0 p1 = some r) (w : World) : CtL Try.prog 72 [.agg #[.int .i64 (p0.Id), .int .i64 (p0.X), .int .i64 (p0.Y), .int .i64 (p0.Z.Lo), .int .i64 (p0.Z.Hi), .int .i64 (p0.Wide), .int .i64 (p0.Num), .int .i64 (p0.Of), .int .i64 (p0.Class)], .agg #[.int .i64 (p1.Id), .int .i64 (p1.X), .int .i64 (p1.Y), .int .i64 (p1.Z.Lo), .int .i64 (p1.Z.Hi), .int .i64 (p1.Wide), .int .i64 (p1.Num), .int .i64 (p1.Of), .int .i64 (p1.Class)]] w fun v Ln => v = .bool (r) ∧ Ln = [] ∧ True := by
  refine CtL.mk 28 Try.func72 rfl Try.ntmps72 (by kernel_rfl) rfl ?_
  show T 28 _ [(0, .agg #[.int .i64 (p0.Id), .int .i64 (p0.X), .int .i64 (p0.Y), .int .i64 (p0.Z.Lo), .int .i64 (p0.Z.Hi), .int .i64 (p0.Wide), .int .i64 (p0.Num), .int .i64 (p0.Of), .int .i64 (p0.Class)]), (1, .agg #[.int .i64 (p1.Id), .int .i64 (p1.X), .int .i64 (p1.Y), .int .i64 (p1.Z.Lo), .int .i64 (p1.Z.Hi), .int .i64 (p1.Wide), .int .i64 (p1.Num), .int .i64 (p1.Of), .int .i64 (p1.Class)])] _
  unfold label_lower at hx
  refine T_seq ?_
  refine T_reg ?_
  refine T_x (Wx_box rfl rfl rfl (fun g1 => ?_))
  refine T_x (Wx_box rfl rfl rfl (fun g2 => ?_))
  refine T_val (Ev_assign rfl) rfl ?_
  refine T_nil ?_
  refine T_next ?_
  obtain ⟨j2, hj2, hx⟩ := jn_some hx
  refine T_cutP (τ := Bool) (γ := Unit) (J := j2) (out := r) (fun s2 y2 => [(4, .bool (s2))]) (fun s2 y2 => [] ++ [.old w]) (fun s2 y2 => True) ?_ ?_
  · intro s2 y2 hx9 hG10
    subst hj2
    refine T_retc ?_
    obtain rfl := Option.some.inj hx9
    exact T_retP (rs := [.tmp 4]) Try.results72 (.tmp rfl (.nil)) (Ln := []) ⟨rfl, rfl, trivial⟩ (loNil) (by exact .refl)
  · skip
    refine T_reg ?_
    refine T_val (Ev_field rfl fld53_3 rfl) rfl ?_
    refine T_val (Ev_field rfl fld51_1 rfl) rfl ?_
    refine T_val (Ev_load1 rfl (i := 1) rfl rfl one3) rfl ?_
    refine T_val (Ev_field rfl fld53_3 rfl) rfl ?_
    refine T_val (Ev_field rfl fld51_1 rfl) rfl ?_
    refine T_val (Ev_load1 rfl (i := 0) rfl rfl one3) rfl ?_
    refine T_val (Ev_lss rfl rfl) rfl ?_
    refine T_val (Ev_move rfl) rfl ?_
    refine T_caseP (s := 12) rfl (fun h3 => ?_) (fun h3 => ?_)
    · have hx4 := ite_t h3 hx
      refine T_skipG rfl rfl rfl rfl rfl ?_
      refine T_skipG rfl rfl rfl rfl rfl ?_
      refine T_skipG rfl rfl rfl rfl rfl ?_
      refine T_skipG rfl rfl rfl rfl rfl ?_
      refine T_skipG rfl rfl rfl rfl rfl ?_
      refine T_skipG rfl rfl rfl rfl rfl ?_
      refine T_skipG rfl rfl rfl rfl rfl ?_
      refine T_skipG rfl rfl rfl rfl rfl ?_
      refine T_skipU rfl rfl rfl rfl ?_
      refine T_skipU rfl rfl rfl rfl ?_
      refine T_skipU rfl rfl rfl rfl ?_
      refine T_skipU rfl rfl rfl rfl ?_
      refine T_skipU rfl rfl rfl rfl ?_
      refine T_skipG rfl rfl rfl rfl rfl ?_
      refine T_val (Ev_pickT rfl rfl) rfl ?_
      refine T_val (Ev_assign rfl) rfl ?_
      refine T_nil ?_
      exact T_metP true () hx4 trivial (by exact .cons rfl (.nil)) (by exact .drop 0 rfl (.drop 0 rfl (.refl)))
    · have hx5 := ite_f h3 hx
      refine T_valG rfl rfl rfl (Ev_field rfl fld53_3 rfl) rfl ?_
      refine T_valG rfl rfl rfl (Ev_field rfl fld51_1 rfl) rfl ?_
      refine T_valG rfl rfl rfl (Ev_load1 rfl (i := 1) rfl rfl one3) rfl ?_
      refine T_valG rfl rfl rfl (Ev_field rfl fld53_3 rfl) rfl ?_
      refine T_valG rfl rfl rfl (Ev_field rfl fld51_1 rfl) rfl ?_
      refine T_valG rfl rfl rfl (Ev_load1 rfl (i := 0) rfl rfl one3) rfl ?_
      refine T_valG rfl rfl rfl (Ev_eql rfl rfl) rfl ?_
      refine T_valG rfl rfl rfl (Ev_move rfl) rfl ?_
      refine T_caseP (s := 20) rfl (fun h6 => ?_) (fun h6 => ?_)
      · have hx7 := ite_t h6 hx5
        refine T_valG rfl rfl rfl (Ev_field rfl fld53_0 rfl) rfl ?_
        refine T_valG rfl rfl rfl (Ev_load1 rfl (i := 1) rfl rfl one3) rfl ?_
        refine T_valG rfl rfl rfl (Ev_field rfl fld53_0 rfl) rfl ?_
        refine T_valG rfl rfl rfl (Ev_load1 rfl (i := 0) rfl rfl one3) rfl ?_
        refine T_valG rfl rfl rfl (Ev_lss rfl rfl) rfl ?_
        refine T_valG rfl rfl rfl (Ev_pickT rfl rfl) rfl ?_
        refine T_val (Ev_pickF rfl rfl) rfl ?_
        refine T_val (Ev_assign rfl) rfl ?_
        refine T_nil ?_
        exact T_metP (decide (p0.Id < p1.Id)) () hx7 trivial (by exact .cons rfl (.nil)) (by exact .drop 0 rfl (.drop 0 rfl (.refl)))
      · have hx8 := ite_f h6 hx5
        refine T_skipG rfl rfl rfl rfl rfl ?_
        refine T_skipG rfl rfl rfl rfl rfl ?_
        refine T_skipG rfl rfl rfl rfl rfl ?_
        refine T_skipG rfl rfl rfl rfl rfl ?_
        refine T_skipG rfl rfl rfl rfl rfl ?_
        refine T_valG rfl rfl rfl (Ev_pickF rfl rfl) rfl ?_
        refine T_val (Ev_pickF rfl rfl) rfl ?_
        refine T_val (Ev_assign rfl) rfl ?_
        refine T_nil ?_
        exact T_metP false () hx8 trivial (by exact .cons rfl (.nil)) (by exact .drop 0 rfl (.drop 0 rfl (.refl)))
set_option maxRecDepth 100000 in
theorem surface_Square_ok (p0 : S_api_XY) (p1 : S_api_XY)  {r : Int} (hx : surface_Square p0 p1 = some r) (w : World) : CtL Try.prog 73 [.agg #[.int .i64 (p0.X), .int .i64 (p0.Y)], .agg #[.int .i64 (p1.X), .int .i64 (p1.Y)]] w fun v Ln => v = .int .i64 (r) ∧ Ln = [] ∧ True := by
  refine CtL.mk 24 Try.func73 rfl Try.ntmps73 (by kernel_rfl) rfl ?_
  show T 24 _ [(0, .agg #[.int .i64 (p0.X), .int .i64 (p0.Y)]), (1, .agg #[.int .i64 (p1.X), .int .i64 (p1.Y)])] _
  unfold surface_Square at hx
  refine T_seq ?_
  refine T_reg ?_
  refine T_x (Wx_box rfl rfl rfl (fun g1 => ?_))
  refine T_x (Wx_box rfl rfl rfl (fun g2 => ?_))
  refine T_val (Ev_assign rfl) rfl ?_
  refine T_nil ?_
  refine T_next ?_
  refine T_seq ?_
  refine T_draw [0, 1, 0, 1, 0, 0, 1, 0, 1, 0, 2, 2] [[], [0], [], [2], [0, 1, 2, 3], [], [5], [], [7], [5, 6, 7, 8], [0, 1, 2, 3, 4], [0, 1, 2, 3, 4, 5, 6, 7, 8, 9, 10]] (.q 0 (.q 1 (.q 2 (.q 3 (.q 4 (.q 5 (.q 6 (.q 7 (.q 8 (.q 9 (.e 10 (.e 11 (.done) (.stop)) (.stop)))))))))))) mixed (by kernel_rfl) (by kernel_rfl) ?_
  refine P_p rfl rfl (Ev_field rfl fld24_0 rfl) rfl ?_
  refine P_q rfl rfl (Ev_load1 rfl (i := 1) rfl rfl one3) rfl ?_
  refine P_p rfl rfl (Ev_field rfl fld24_0 rfl) rfl ?_
  refine P_q rfl rfl (Ev_load1 rfl (i := 0) rfl rfl one3) rfl ?_
  refine P_p rfl rfl (Ev_sub_w64 rfl rfl) rfl ?_
  refine P_p rfl rfl (Ev_field rfl fld24_1 rfl) rfl ?_
  refine P_q rfl rfl (Ev_load1 rfl (i := 1) rfl rfl one3) rfl ?_
  refine P_p rfl rfl (Ev_field rfl fld24_1 rfl) rfl ?_
  refine P_q rfl rfl (Ev_load1 rfl (i := 0) rfl rfl one3) rfl ?_
  refine P_p rfl rfl (Ev_sub_w64 rfl rfl) rfl ?_
  refine P_x rfl (Wx_val (Ev_assign rfl) rfl ?_) ?_
  rotate_left; exact P_stop
  refine P_x rfl (Wx_val (Ev_assign rfl) rfl ?_) ?_
  rotate_left; exact P_stop
  refine P_done ?_
  refine T_next ?_
  refine T_seq ?_
  refine T_reg ?_
  refine T_val (Ev_move rfl) rfl ?_
  refine T_val (Ev_move rfl) rfl ?_
  refine T_val (Ev_mul_w64 rfl rfl) rfl ?_
  refine T_val (Ev_move rfl) rfl ?_
  refine T_val (Ev_move rfl) rfl ?_
  refine T_val (Ev_mul_w64 rfl rfl) rfl ?_
  refine T_val (Ev_add_w64 rfl rfl) rfl ?_
  refine T_val (Ev_assign rfl) rfl ?_
  refine T_nil ?_
  refine T_next ?_
  refine T_retc ?_
  obtain rfl := Option.some.inj hx
  exact T_retP (rs := [.tmp 4]) Try.results73 (.tmp rfl (.nil)) (Ln := []) ⟨rfl, rfl, trivial⟩ (loNil) (by exact .drop 0 rfl (.drop 0 rfl (.refl)))
set_option maxRecDepth 100000 in
theorem label_near_ok (p0 : S_api_Point) (p1 : S_api_Point) (p2 : Int)  {r : Bool} (hx : label_near p0 p1 p2 = some r) (w : World) : CtL Try.prog 67 [.agg #[.int .i64 (p0.Id), .int .i64 (p0.X), .int .i64 (p0.Y), .int .i64 (p0.Z.Lo), .int .i64 (p0.Z.Hi), .int .i64 (p0.Wide), .int .i64 (p0.Num), .int .i64 (p0.Of), .int .i64 (p0.Class)], .agg #[.int .i64 (p1.Id), .int .i64 (p1.X), .int .i64 (p1.Y), .int .i64 (p1.Z.Lo), .int .i64 (p1.Z.Hi), .int .i64 (p1.Wide), .int .i64 (p1.Num), .int .i64 (p1.Of), .int .i64 (p1.Class)], .int .i64 (p2)] w fun v Ln => v = .bool (r) ∧ Ln = [] ∧ True := by
  refine CtL.mk 16 Try.func67 rfl Try.ntmps67 (by kernel_rfl) rfl ?_
  show T 16 _ [(0, .agg #[.int .i64 (p0.Id), .int .i64 (p0.X), .int .i64 (p0.Y), .int .i64 (p0.Z.Lo), .int .i64 (p0.Z.Hi), .int .i64 (p0.Wide), .int .i64 (p0.Num), .int .i64 (p0.Of), .int .i64 (p0.Class)]), (1, .agg #[.int .i64 (p1.Id), .int .i64 (p1.X), .int .i64 (p1.Y), .int .i64 (p1.Z.Lo), .int .i64 (p1.Z.Hi), .int .i64 (p1.Wide), .int .i64 (p1.Num), .int .i64 (p1.Of), .int .i64 (p1.Class)]), (2, .int .i64 (p2))] _
  unfold label_near at hx
  refine T_seq ?_
  refine T_reg ?_
  refine T_x (Wx_box rfl rfl rfl (fun g1 => ?_))
  refine T_x (Wx_box rfl rfl rfl (fun g2 => ?_))
  refine T_val (Ev_assign rfl) rfl ?_
  refine T_nil ?_
  refine T_next ?_
  refine T_seq ?_
  refine T_draw [1, 2, 1, 2, 2, 0, 0, 0, 0, 2] [[], [0], [], [0, 1, 2], [0, 1, 2, 3], [], [], [5, 6], [0, 1, 2, 3, 4, 5, 6, 7], [0, 1, 2, 3, 4, 5, 6, 7, 8]] (.q 0 (.q 2 (.q 5 (.q 6 (.q 7 (.e 1 (.e 3 (.e 4 (.q 8 (.e 9 (.done) (.stop))) (.stop)) (.stop)) (.stop))))))) mixed (by kernel_rfl) (by kernel_rfl) ?_
  refine P_q rfl rfl (Ev_loadK rfl (i := 1) rfl rfl agg53) rfl ?_
  refine P_q rfl rfl (Ev_loadK rfl (i := 0) rfl rfl agg53) rfl ?_
  refine P_p rfl rfl (Ev_move rfl) rfl ?_
  refine P_p rfl rfl (Ev_move rfl) rfl ?_
  refine P_p rfl rfl (Ev_mul_w64 rfl rfl) rfl ?_
  obtain ⟨r3, h4, hx5⟩ := bnd_some hx
  refine P_x rfl (Wx_callL rfl (fun w1 hw1 => label_place_ok p0  h4 w1) rfl ?_) ?_
  rotate_left; exact P_stop
  rintro _ _ hlo ⟨rfl, rfl, -⟩
  refine T_app0 ?_
  obtain ⟨r6, h7, hx8⟩ := bnd_some hx5
  refine P_x rfl (Wx_callL rfl (fun w1 hw1 => label_place_ok p1  h7 w1) rfl ?_) ?_
  rotate_left; exact P_stop
  rintro _ _ hlo ⟨rfl, rfl, -⟩
  refine T_app0 ?_
  obtain ⟨r9, h10, hx11⟩ := bnd_some hx8
  refine P_x rfl (Wx_callL rfl (fun w1 hw1 => surface_Square_ok r3 r6  h10 w1) rfl ?_) ?_
  rotate_left; exact P_stop
  rintro _ _ hlo ⟨rfl, rfl, -⟩
  refine T_app0 ?_
  refine P_p rfl rfl (Ev_leq rfl rfl) rfl ?_
  refine P_x rfl (Wx_val (Ev_assign rfl) rfl ?_) ?_
  rotate_left; exact P_stop
  refine P_done ?_
  refine T_next ?_
  refine T_retc ?_
  obtain rfl := Option.some.inj hx11
  exact T_retP (rs := [.tmp 6]) Try.results67 (.tmp rfl (.nil)) (Ln := []) ⟨rfl, rfl, trivial⟩ (loNil) (by exact .drop 0 rfl (.drop 0 rfl (.refl)))
set_option maxRecDepth 100000 in
theorem label_checked_ok (p0 : List S_api_Point) (p1 : S_api_Terrain) {K : List Ent} {A0_0 : Option Addr} {c0_0 : Nat} (ha0 : Has K A0_0 (p0).length c0_0 9 e_api_Point (p0)) {r : Int} (hx : label_checked p0 p1 = some r) (w : World) (hK : ∀ e ∈ K, Ent.ok w e) : CtL Try.prog 33 [.slice (A0_0) ((p0).length) (c0_0), .agg #[.int .i64 (p1.Cell), .int .i64 (p1.Reach), .int .i64 (p1.Slope), .int .i64 (p1.Link), .int .i64 (p1.Flat), .int .i64 (p1.Tall), .int .i64 (p1.High), .int .i64 (p1.Low), .int .i64 (p1.Brush), .int .i64 (p1.Few)]] w fun v Ln => v = .int .i64 (r) ∧ Ln = [] ∧ True := by
  have ha0' := Has.up0 ha0
  refine CtL.mk 11 Try.func33 rfl Try.ntmps33 (by kernel_rfl) rfl ?_
  show T 11 _ [(0, .slice (A0_0) ((p0).length) (c0_0)), (1, .agg #[.int .i64 (p1.Cell), .int .i64 (p1.Reach), .int .i64 (p1.Slope), .int .i64 (p1.Link), .int .i64 (p1.Flat), .int .i64 (p1.Tall), .int .i64 (p1.High), .int .i64 (p1.Low), .int .i64 (p1.Brush), .int .i64 (p1.Few)])] _
  unfold label_checked at hx
  refine T_seq ?_
  refine T_reg ?_
  refine T_x (Wx_box rfl rfl rfl (fun g1 => ?_))
  refine T_val (Ev_assign rfl) rfl ?_
  refine T_nil ?_
  refine T_next ?_
  refine T_seq ?_
  refine T_seq ?_
  refine T_reg ?_
  refine T_val (Ev_loadK rfl (i := 0) rfl rfl agg33) rfl ?_
  obtain ⟨r2, h3, hx4⟩ := bnd_some hx
  refine T_x (Wx_callL rfl (fun w1 hw1 => label_ValidRules_ok p1  h3 w1) rfl ?_)
  rintro _ _ hlo ⟨rfl, rfl, -⟩
  refine T_app0 ?_
  refine T_val (Ev_not rfl) rfl ?_
  refine T_nil ?_
  refine T_next ?_
  refine T_caseNB (s := 7) rfl (fun h5 => ?_) (fun h5 => ?_)
  · have hx6 := ite_bf h5 hx4
    refine T_condT rfl ?_
    refine T_seq ?_
    refine T_reg ?_
    refine T_val (Ev_assign rfl) rfl ?_
    refine T_nil ?_
    refine T_next ?_
    refine T_retc ?_
    refine T_outR ?_
    obtain rfl := Option.some.inj hx6
    exact T_retP (rs := [.tmp 4]) Try.results33 (.tmp rfl (.nil)) (Ln := []) ⟨rfl, rfl, trivial⟩ (loNil) (by exact .drop 0 rfl (.refl))
  · have hx7 := ite_t h5 hx4
    refine T_condF rfl ?_
    refine T_skip ?_
    refine T_next ?_
    refine T_seq ?_
    refine T_seq ?_
    refine T_reg ?_
    refine T_val (Ev_move rfl) rfl ?_
    obtain ⟨r8, h9, hx10⟩ := bnd_some hx7
    refine T_x (Wx_callL rfl (fun w1 hw1 => label_Valid_ok p0 (Has.len' ha0') h9 w1 (okApp (K := K) (K2 := []) hK (by exact (SubE.cons2 (i := 1) rfl (SubE.nil))) (by exact (SubE.nil)) hw1)) rfl ?_)
    rintro _ _ hlo ⟨rfl, rfl, -⟩
    refine T_app0 ?_
    refine T_val (Ev_not rfl) rfl ?_
    refine T_nil ?_
    refine T_next ?_
    refine T_caseNB (s := 10) rfl (fun h11 => ?_) (fun h11 => ?_)
    · have hx12 := ite_bf h11 hx10
      refine T_condT rfl ?_
      refine T_seq ?_
      refine T_reg ?_
      refine T_val (Ev_assign rfl) rfl ?_
      refine T_nil ?_
      refine T_next ?_
      refine T_retc ?_
      refine T_outR ?_
      obtain rfl := Option.some.inj hx12
      exact T_retP (rs := [.tmp 4]) Try.results33 (.tmp rfl (.nil)) (Ln := []) ⟨rfl, rfl, trivial⟩ (loNil) (by exact .drop 0 rfl (.refl))
    · have hx13 := ite_t h11 hx10
      refine T_condF rfl ?_
      refine T_skip ?_
      refine T_next ?_
      refine T_seq ?_
      refine T_reg ?_
      refine T_val (Ev_assign rfl) rfl ?_
      refine T_nil ?_
      refine T_next ?_
      refine T_retc ?_
      obtain rfl := Option.some.inj hx13
      exact T_retP (rs := [.tmp 4]) Try.results33 (.tmp rfl (.nil)) (Ln := []) ⟨rfl, rfl, trivial⟩ (loNil) (by exact .drop 0 rfl (.refl))
set_option maxRecDepth 100000 in
theorem label_isSunk_ok (p0 : List S_api_Point) (p1 : Int) (p2 : S_api_Terrain) {K : List Ent} {A0_0 : Option Addr} {c0_0 : Nat} (ha0 : Has K A0_0 (p0).length c0_0 9 e_api_Point (p0)) {r : Bool} (hx : label_isSunk p0 p1 p2 = some r) (w : World) (hK : ∀ e ∈ K, Ent.ok w e) : CtL Try.prog 55 [.slice (A0_0) ((p0).length) (c0_0), .int .i64 (p1), .agg #[.int .i64 (p2.Cell), .int .i64 (p2.Reach), .int .i64 (p2.Slope), .int .i64 (p2.Link), .int .i64 (p2.Flat), .int .i64 (p2.Tall), .int .i64 (p2.High), .int .i64 (p2.Low), .int .i64 (p2.Brush), .int .i64 (p2.Few)]] w fun v Ln => v = .bool (r) ∧ Ln = [] ∧ True := by
  have ha0' := Has.up0 ha0
  refine CtL.mk 46 Try.func55 rfl Try.ntmps55 (by kernel_rfl) rfl ?_
  show T 46 _ [(0, .slice (A0_0) ((p0).length) (c0_0)), (1, .int .i64 (p1)), (2, .agg #[.int .i64 (p2.Cell), .int .i64 (p2.Reach), .int .i64 (p2.Slope), .int .i64 (p2.Link), .int .i64 (p2.Flat), .int .i64 (p2.Tall), .int .i64 (p2.High), .int .i64 (p2.Low), .int .i64 (p2.Brush), .int .i64 (p2.Few)])] _
  unfold label_isSunk at hx
  refine T_seq ?_
  refine T_reg ?_
  refine T_x (Wx_box rfl rfl rfl (fun g1 => ?_))
  refine T_val (Ev_assign rfl) rfl ?_
  refine T_nil ?_
  refine T_next ?_
  refine T_seq ?_
  refine T_reg ?_
  refine T_val (Ev_assign rfl) rfl ?_
  refine T_nil ?_
  refine T_next ?_
  obtain ⟨j3, hj3, hx⟩ := jn_some hx
  refine T_cutP (τ := Bool) (γ := Unit) (J := j3) (out := r) (fun s3 y3 => [(7, .bool (s3))]) (fun s3 y3 => [] ++ [.old w]) (fun s3 y3 => True) ?_ ?_
  · intro s3 y3 hx110 hG111
    subst hj3
    refine T_seq ?_
    refine T_reg ?_
    refine T_val (Ev_move rfl) rfl ?_
    refine T_val (Ev_assign rfl) rfl ?_
    refine T_nil ?_
    refine T_next ?_
    refine T_retc ?_
    obtain rfl := Option.some.inj hx110
    exact T_retP (rs := [.tmp 6]) Try.results55 (.tmp rfl (.nil)) (Ln := []) ⟨rfl, rfl, trivial⟩ (loNil) (by exact .refl)
  · skip
    refine T_seq ?_
    refine T_reg ?_
    refine T_val (Ev_move rfl) rfl ?_
    refine T_val (Ev_len rfl 53 Try.underlying31) rfl ?_
    refine T_val (Ev_move rfl) rfl ?_
    refine T_nil ?_
    refine T_next ?_
    refine T_block ?_
    obtain ⟨t56, hl56, ho56⟩ := bnd_some hx
    refine T_loopP (σ := Bool × Int) (γ := Unit) hl56 (fun s56 y56 => [(0, .slice (A0_0) ((p0).length) (c0_0)), (1, .int .i64 (p1)), (5, .pointer (some ⟨g1, 0, none⟩)), (7, .bool (s56.1)), (10, .slice (A0_0) ((p0).length) (c0_0)), (11, .int .i64 ((((p0).length : Nat) : Int))), (12, .int .i64 (s56.2))]) (fun s56 y56 => [.m g1 33 [.int .i64 (p2.Cell), .int .i64 (p2.Reach), .int .i64 (p2.Slope), .int .i64 (p2.Link), .int .i64 (p2.Flat), .int .i64 (p2.Tall), .int .i64 (p2.High), .int .i64 (p2.Low), .int .i64 (p2.Brush), .int .i64 (p2.Few)]] ++ [.old w]) (fun s56 y56 => True) () trivial (by exact .cons rfl (.cons rfl (.cons rfl (.cons rfl (.cons rfl (.cons rfl (.cons rfl (.nil)))))))) (by exact .pick 0 rfl (.refl)) ?_
    intro s56 y56 hG56 x56 hx56 ht56
    unfold label_isSunk_l3 at hx56
    refine T_seq ?_
    refine T_reg ?_
    refine T_val (Ev_lss rfl rfl) rfl ?_
    refine T_nil ?_
    refine T_next ?_
    refine T_seq ?_
    refine T_caseP (s := 13) rfl (fun h57 => ?_) (fun h57 => ?_)
    · have hx58 := ite_t h57 hx56
      refine T_condT rfl ?_
      refine T_skip ?_
      refine T_next ?_
      obtain ⟨j16, hj16, hx58⟩ := jn_some hx58
      refine T_cutP (τ := Bool) (γ := Unit) (J := j16) (out := x56) (fun s16 y16 => [(0, .slice (A0_0) ((p0).length) (c0_0)), (1, .int .i64 (p1)), (5, .pointer (some ⟨g1, 0, none⟩)), (7, .bool (s16)), (10, .slice (A0_0) ((p0).length) (c0_0)), (11, .int .i64 ((((p0).length : Nat) : Int))), (12, .int .i64 (s56.2))]) (fun s16 y16 => [.m g1 33 [.int .i64 (p2.Cell), .int .i64 (p2.Reach), .int .i64 (p2.Slope), .int .i64 (p2.Link), .int .i64 (p2.Flat), .int .i64 (p2.Tall), .int .i64 (p2.High), .int .i64 (p2.Low), .int .i64 (p2.Brush), .int .i64 (p2.Few)]] ++ [.old w]) (fun s16 y16 => True) ?_ ?_
      · intro s16 y16 hx108 hG109
        subst hj16
        refine T_reg ?_
        refine T_val (Ev_add_w64 rfl rfl) rfl ?_
        refine T_val (Ev_move rfl) rfl ?_
        refine T_nil ?_
        exact T_roundP (s16, w64 (s56.2 + 1)) () hx108 trivial (by exact .cons rfl (.cons rfl (.cons rfl (.cons rfl (.cons rfl (.cons rfl (.cons rfl (.nil)))))))) (by exact .pick 0 rfl (.refl))
      · skip
        refine T_block ?_
        refine T_seq ?_
        refine T_reg ?_
        refine T_val (Ev_move rfl) rfl ?_
        obtain ⟨x60, h61, hx62⟩ := bnd_some hx58
        have hw70 := Has.low (E := []) ha0' hK
        obtain ⟨b63, o64, j65, hA66, hj67, hl68, hp69⟩ := Has.at_idx hw70 h61
        refine T_val (Ev_index rfl rfl hA66 (j := j65) hj67 hl68 slc31) rfl ?_
        refine T_val (Ev_loadPK0 rfl hp69 (SubE.cons2 (i := 1) rfl (SubE.nil)) rfl agg53) rfl ?_
        refine T_x (Wx_alloc zer53 rfl (fun g71 => ?_))
        refine T_val (Ev_assign rfl) rfl ?_
        refine T_h (Wh_store rfl rfl rfl (.here) (.put (.put (.put (.put (.put (.put (.put (.put (.put (.done)))))))))) rfl (List.cons_ne_nil _ _) agg53.2 ?_)
        refine T_nil ?_
        refine T_next ?_
        refine T_seq ?_
        obtain ⟨j19, hj19, hx62⟩ := jn_some hx62
        refine T_cutP (τ := Bool) (γ := Unit) (J := j19) (out := x56) (fun s19 y19 => [(0, .slice (A0_0) ((p0).length) (c0_0)), (1, .int .i64 (p1)), (5, .pointer (some ⟨g1, 0, none⟩)), (7, .bool (s56.1)), (9, .pointer (some ⟨g71, 0, none⟩)), (10, .slice (A0_0) ((p0).length) (c0_0)), (11, .int .i64 ((((p0).length : Nat) : Int))), (12, .int .i64 (s56.2)), (30, .bool (s19))]) (fun s19 y19 => [.m g71 53 [.int .i64 (x60.Id), .int .i64 (x60.X), .int .i64 (x60.Y), .int .i64 (x60.Z.Lo), .int .i64 (x60.Z.Hi), .int .i64 (x60.Wide), .int .i64 (x60.Num), .int .i64 (x60.Of), .int .i64 (x60.Class)], .m g1 33 [.int .i64 (p2.Cell), .int .i64 (p2.Reach), .int .i64 (p2.Slope), .int .i64 (p2.Link), .int .i64 (p2.Flat), .int .i64 (p2.Tall), .int .i64 (p2.High), .int .i64 (p2.Low), .int .i64 (p2.Brush), .int .i64 (p2.Few)]] ++ [.old w]) (fun s19 y19 => True) ?_ ?_
        · intro s19 y19 hx89 hG90
          subst hj19
          refine T_caseB (s := 30) rfl (fun h91 => ?_) (fun h91 => ?_)
          · have hx92 := ite_t h91 hx89
            refine T_condT rfl ?_
            refine T_exit ?_
            refine T_outX ?_
            refine T_here ?_
            exact T_metP s56.1 () hx92 trivial (by exact .cons rfl (.cons rfl (.cons rfl (.cons rfl (.cons rfl (.cons rfl (.cons rfl (.nil)))))))) (by exact .pick 1 rfl (.drop 0 rfl (.refl)))
          · have hx93 := ite_bf h91 hx89
            refine T_condF rfl ?_
            refine T_skip ?_
            refine T_next ?_
            refine T_seq ?_
            refine T_seq ?_
            refine T_draw [0, 0, 1, 0, 0, 0, 0, 0, 1, 0, 0, 1, 0] [[], [0], [0, 1], [], [], [3, 4], [3, 4, 5], [3, 4, 5, 6], [3, 4, 5, 6, 7], [0, 1, 2, 3, 4, 5, 6, 7, 8], [], [10], [0, 1, 2, 3, 4, 5, 6, 7, 8, 9, 10, 11]] (.q 0 (.q 1 (.q 2 (.q 3 (.q 4 (.q 5 (.q 6 (.q 7 (.q 8 (.q 9 (.q 10 (.q 11 (.q 12 (.done)))))))))))))) mixed (by kernel_rfl) (by kernel_rfl) ?_
            refine P_p rfl rfl (Ev_field rfl fld53_3 rfl) rfl ?_
            refine P_p rfl rfl (Ev_field rfl fld51_0 rfl) rfl ?_
            refine P_q rfl rfl (Ev_load1 rfl (i := 0) rfl rfl one3) rfl ?_
            refine P_p rfl rfl (Ev_move rfl) rfl ?_
            refine P_p rfl rfl (Ev_move rfl) rfl ?_
            obtain ⟨x94, h95, hx96⟩ := bnd_some hx93
            have hw104 := Has.low (E := []) ha0' hK
            obtain ⟨b97, o98, j99, hA100, hj101, hl102, hp103⟩ := Has.at_idx hw104 h95
            refine P_p rfl rfl (Ev_index rfl rfl hA100 (j := j99) hj101 hl102 slc31) rfl ?_
            refine P_p rfl rfl (Ev_field rfl fld53_3 rfl) rfl ?_
            refine P_p rfl rfl (Ev_field rfl fld51_1 rfl) rfl ?_
            refine P_q rfl rfl (Ev_loadP1 (d := 4) rfl hp103 (SubE.cons2 (i := 2) rfl (SubE.nil)) rfl one3) rfl ?_
            refine P_p rfl rfl (Ev_sub_w64 rfl rfl) rfl ?_
            refine P_p rfl rfl (Ev_field rfl fld33_7 rfl) rfl ?_
            refine P_q rfl rfl (Ev_load1 rfl (i := 1) rfl rfl one3) rfl ?_
            refine P_p rfl rfl (Ev_leq rfl rfl) rfl ?_
            refine P_done ?_
            refine T_next ?_
            refine T_caseP (s := 43) rfl (fun h105 => ?_) (fun h105 => ?_)
            · have hx106 := ite_t h105 hx96
              refine T_condT rfl ?_
              refine T_seq ?_
              refine T_reg ?_
              refine T_val (Ev_assign rfl) rfl ?_
              refine T_nil ?_
              refine T_next ?_
              refine T_retc ?_
              refine T_outR ?_
              refine T_inR ?_
              refine T_outR ?_
              obtain rfl := exit_eq ht56 hx106
              refine T_outR ?_
              refine T_inR ?_
              refine T_outR ?_
              obtain rfl := Option.some.inj ho56
              exact T_retP (rs := [.tmp 6]) Try.results55 (.tmp rfl (.nil)) (Ln := []) ⟨rfl, rfl, trivial⟩ (loNil) (by exact .drop 0 rfl (.drop 0 rfl (.refl)))
            · have hx107 := ite_f h105 hx96
              refine T_condF rfl ?_
              refine T_skip ?_
              refine T_next ?_
              refine T_reg ?_
              refine T_val (Ev_assign rfl) rfl ?_
              refine T_nil ?_
              refine T_inN ?_
              exact T_metP true () hx107 trivial (by exact .cons rfl (.cons rfl (.cons rfl (.cons rfl (.cons rfl (.cons rfl (.cons rfl (.nil)))))))) (by exact .pick 1 rfl (.drop 0 rfl (.refl)))
        · skip
          refine T_draw [0, 0, 0, 0, 0, 0, 0, 1, 1, 0, 1, 2, 0, 0] [[], [], [0, 1], [0, 1, 2], [0, 1, 2, 3], [0, 1, 2, 3], [0, 1, 2, 3, 4, 5], [0, 1, 2, 3, 4, 5, 6], [0, 1, 2, 3], [0, 1, 2, 3], [0, 1, 2, 3, 9], [0, 1, 2, 3, 4, 5, 6, 7, 8, 9, 10], [0, 1, 2, 3, 4, 5, 6, 7, 8, 9, 10, 11], [0, 1, 2, 3, 4, 5, 6, 7, 8, 9, 10, 11, 12]] (.q 0 (.q 1 (.q 2 (.q 3 (.q 4 (.q 5 (.q 6 (.q 7 (.q 8 (.q 9 (.q 10 (.e 11 (.q 12 (.q 13 (.done))) (.stop))))))))))))) mixed (by kernel_rfl) (by kernel_rfl) ?_
          refine P_p rfl rfl (Ev_move rfl) rfl ?_
          refine P_p rfl rfl (Ev_move rfl) rfl ?_
          refine P_p rfl rfl (Ev_eql rfl rfl) rfl ?_
          refine P_p rfl rfl (Ev_move rfl) rfl ?_
          refine T_caseP (s := 20) rfl (fun h72 => ?_) (fun h72 => ?_)
          · have hx73 := ite_t h72 hx62
            refine P_skip rfl rfl rfl rfl rfl rfl ?_
            refine P_skip rfl rfl rfl rfl rfl rfl ?_
            refine P_skip rfl rfl rfl rfl rfl rfl ?_
            refine P_skip rfl rfl rfl rfl rfl rfl ?_
            refine P_skip rfl rfl rfl rfl rfl rfl ?_
            refine P_skip rfl rfl rfl rfl rfl rfl ?_
            refine P_skip rfl rfl rfl rfl rfl rfl ?_
            refine P_skipE rfl rfl rfl rfl rfl rfl ?_ ?_
            rotate_left; exact P_stop
            refine P_skip rfl rfl rfl rfl rfl rfl ?_
            refine P_p rfl rfl (Ev_pickT rfl rfl) rfl ?_
            refine P_done ?_
            exact T_metP true () hx73 trivial (by exact .cons rfl (.cons rfl (.cons rfl (.cons rfl (.cons rfl (.cons rfl (.cons rfl (.cons rfl (.cons rfl (.nil)))))))))) (by exact .pick 0 rfl (.pick 0 rfl (.refl)))
          · have hx74 := ite_f h72 hx62
            refine P_pG rfl rfl rfl rfl rfl (Ev_move rfl) rfl ?_
            refine P_pG rfl rfl rfl rfl rfl (Ev_move rfl) rfl ?_
            obtain ⟨x75, h76, hx77⟩ := bnd_some hx74
            have hw85 := Has.low (E := []) ha0' hK
            obtain ⟨b78, o79, j80, hA81, hj82, hl83, hp84⟩ := Has.at_idx hw85 h76
            refine P_pG rfl rfl rfl rfl rfl (Ev_index rfl rfl hA81 (j := j80) hj82 hl83 slc31) rfl ?_
            refine P_qG rfl rfl rfl rfl rfl (Ev_loadPK0 rfl hp84 (SubE.cons2 (i := 2) rfl (SubE.nil)) rfl agg53) rfl ?_
            refine P_qG rfl rfl rfl rfl rfl (Ev_loadK rfl (i := 0) rfl rfl agg53) rfl ?_
            refine P_pG rfl rfl rfl rfl rfl (Ev_field rfl fld33_3 rfl) rfl ?_
            refine P_qG rfl rfl rfl rfl rfl (Ev_load1 rfl (i := 1) rfl rfl one3) rfl ?_
            obtain ⟨r86, h87, hx88⟩ := bnd_some hx77
            refine P_xG rfl rfl rfl rfl (Wx_callL rfl (fun w1 hw1 => label_near_ok x75 x60 p2.Link  h87 w1) rfl ?_) ?_
            rotate_left; exact P_stop
            rintro _ _ hlo ⟨rfl, rfl, -⟩
            refine T_app0 ?_
            refine P_pG rfl rfl rfl rfl rfl (Ev_not rfl) rfl ?_
            refine P_p rfl rfl (Ev_pickF rfl rfl) rfl ?_
            refine P_done ?_
            exact T_metP (!(r86)) () hx88 trivial (by exact .cons rfl (.cons rfl (.cons rfl (.cons rfl (.cons rfl (.cons rfl (.cons rfl (.cons rfl (.cons rfl (.nil)))))))))) (by exact .pick 0 rfl (.pick 0 rfl (.refl)))
    · have hx59 := ite_f h57 hx56
      refine T_condF rfl ?_
      refine T_exit ?_
      refine T_outX ?_
      obtain rfl := exit_eq ht56 hx59
      refine T_outX ?_
      refine T_here ?_
      exact T_metP s56.1 () ho56 trivial (by exact .cons rfl (.nil)) (by exact .drop 0 rfl (.refl))
set_option maxRecDepth 100000 in
theorem label_parted_ok (p0 : List S_api_Point) (p1 : S_api_Terrain) {K : List Ent} {A0_0 : Option Addr} {c0_0 : Nat} (ha0 : Has K A0_0 (p0).length c0_0 9 e_api_Point (p0)) {r : (List S_api_Point) × (List S_api_Point)} (hx : label_parted p0 p1 = some r) (w : World) (hK : ∀ e ∈ K, Ent.ok w e) : CtL Try.prog 34 [.slice (A0_0) ((p0).length) (c0_0), .agg #[.int .i64 (p1.Cell), .int .i64 (p1.Reach), .int .i64 (p1.Slope), .int .i64 (p1.Link), .int .i64 (p1.Flat), .int .i64 (p1.Tall), .int .i64 (p1.High), .int .i64 (p1.Low), .int .i64 (p1.Brush), .int .i64 (p1.Few)]] w fun v Ln => ∃ (A0 : Option Addr) (c0 : Nat) (A2 : Option Addr) (c2 : Nat), v = .tuple #[.slice (A0) ((r.1).length) (c0), .slice (A2) ((r.2).length) (c2)] ∧ Ln = [.r A0 (r.1).length c0 53 9 ((r.1).flatMap e_api_Point), .r A2 (r.2).length c2 53 9 ((r.2).flatMap e_api_Point)] ∧ True := by
  have ha0' := Has.up0 ha0
  refine CtL.mk 30 Try.func34 rfl Try.ntmps34 (by kernel_rfl) rfl ?_
  show T 30 _ [(0, .slice (A0_0) ((p0).length) (c0_0)), (1, .agg #[.int .i64 (p1.Cell), .int .i64 (p1.Reach), .int .i64 (p1.Slope), .int .i64 (p1.Link), .int .i64 (p1.Flat), .int .i64 (p1.Tall), .int .i64 (p1.High), .int .i64 (p1.Low), .int .i64 (p1.Brush), .int .i64 (p1.Few)])] _
  unfold label_parted at hx
  refine T_seq ?_
  refine T_reg ?_
  refine T_x (Wx_box rfl rfl rfl (fun g1 => ?_))
  refine T_val (Ev_assign rfl) rfl ?_
  refine T_val (Ev_assign rfl) rfl ?_
  refine T_nil ?_
  refine T_next ?_
  obtain ⟨j2, hj2, hx⟩ := jn_some hx
  refine T_cutP (τ := (List S_api_Point) × (List S_api_Point)) (γ := (Option Addr) × Nat × (Option Addr) × Nat) (J := j2) (out := r) (fun s2 y2 => [(4, .slice (y2.1) ((s2.1).length) (y2.2.1)), (5, .slice (y2.2.2.1) ((s2.2).length) (y2.2.2.2))]) (fun s2 y2 => [.r (y2.1) ((s2.1).length) (y2.2.1) 53 9 ((s2.1).flatMap e_api_Point), .r (y2.2.2.1) ((s2.2).length) (y2.2.2.2) 53 9 ((s2.2).flatMap e_api_Point)] ++ [.old w]) (fun s2 y2 => True) ?_ ?_
  · intro s2 y2 hx74 hG75
    subst hj2
    refine T_seq ?_
    refine T_reg ?_
    refine T_val (Ev_move rfl) rfl ?_
    refine T_val (Ev_move rfl) rfl ?_
    refine T_val (Ev_assign rfl) rfl ?_
    refine T_val (Ev_assign rfl) rfl ?_
    refine T_nil ?_
    refine T_next ?_
    refine T_retc ?_
    obtain rfl := Option.some.inj hx74
    exact T_retP (rs := [.tmp 4, .tmp 5]) Try.results34 (.tmp rfl (.tmp rfl (.nil))) (Ln := [.r (y2.1) ((s2.1).length) (y2.2.1) 53 9 ((s2.1).flatMap e_api_Point), .r (y2.2.2.1) ((s2.2).length) (y2.2.2.2) 53 9 ((s2.2).flatMap e_api_Point)]) ⟨y2.1, y2.2.1, y2.2.2.1, y2.2.2.2, rfl, rfl, trivial⟩ (loCons rfl (loCons rfl (loNil))) (by exact .pick 0 rfl (.pick 0 rfl (.refl)))
  · skip
    refine T_seq ?_
    refine T_reg ?_
    refine T_val (Ev_move rfl) rfl ?_
    refine T_val (Ev_len rfl 53 Try.underlying31) rfl ?_
    refine T_val (Ev_move rfl) rfl ?_
    refine T_nil ?_
    refine T_next ?_
    refine T_block ?_
    obtain ⟨t38, hl38, ho38⟩ := bnd_some hx
    refine T_none 53 9 ?_
    refine T_none 53 9 ?_
    have hn39 : 0 = (([] : List S_api_Point)).length := by simp [setI_len, cpy_len, List.length_append] <;> omega
    refine T_ent (.there (.here)) (e' := .r (none) ((([] : List S_api_Point)).length) (0) 53 9 ((([] : List S_api_Point)).flatMap e_api_Point)) (by first | (rw [← hn39]; done) | rfl) ?_
    have hn40 : 0 = (([] : List S_api_Point)).length := by simp [setI_len, cpy_len, List.length_append] <;> omega
    refine T_ent (.here) (e' := .r (none) ((([] : List S_api_Point)).length) (0) 53 9 ((([] : List S_api_Point)).flatMap e_api_Point)) (by first | (rw [← hn40]; done) | rfl) ?_
    refine T_loopP (σ := (List S_api_Point) × (List S_api_Point) × Int) (γ := (Option Addr) × Nat × (Option Addr) × Nat) hl38 (fun s38 y38 => [(0, .slice (A0_0) ((p0).length) (c0_0)), (3, .pointer (some ⟨g1, 0, none⟩)), (4, .slice (y38.1) ((s38.1).length) (y38.2.1)), (5, .slice (y38.2.2.1) ((s38.2.1).length) (y38.2.2.2)), (8, .slice (A0_0) ((p0).length) (c0_0)), (9, .int .i64 ((((p0).length : Nat) : Int))), (10, .int .i64 (s38.2.2))]) (fun s38 y38 => [.r (y38.1) ((s38.1).length) (y38.2.1) 53 9 ((s38.1).flatMap e_api_Point), .r (y38.2.2.1) ((s38.2.1).length) (y38.2.2.2) 53 9 ((s38.2.1).flatMap e_api_Point), .m g1 33 [.int .i64 (p1.Cell), .int .i64 (p1.Reach), .int .i64 (p1.Slope), .int .i64 (p1.Link), .int .i64 (p1.Flat), .int .i64 (p1.Tall), .int .i64 (p1.High), .int .i64 (p1.Low), .int .i64 (p1.Brush), .int .i64 (p1.Few)]] ++ [.old w]) (fun s38 y38 => True) (none, 0, none, 0) trivial (by exact .cons rfl (.cons rfl (.cons rfl (.cons rfl (.cons rfl (.cons rfl (.cons rfl (.nil)))))))) (by exact .pick 1 rfl (.pick 0 rfl (.pick 0 rfl (.refl)))) ?_
    intro s38 y38 hG38 x38 hx38 ht38
    unfold label_parted_l2 at hx38
    refine T_seq ?_
    refine T_reg ?_
    refine T_val (Ev_lss rfl rfl) rfl ?_
    refine T_nil ?_
    refine T_next ?_
    refine T_seq ?_
    refine T_caseP (s := 11) rfl (fun h41 => ?_) (fun h41 => ?_)
    · have hx42 := ite_t h41 hx38
      refine T_condT rfl ?_
      refine T_skip ?_
      refine T_next ?_
      obtain ⟨j11, hj11, hx42⟩ := jn_some hx42
      refine T_cutP (τ := (List S_api_Point) × (List S_api_Point)) (γ := (Option Addr) × Nat × (Option Addr) × Nat) (J := j11) (out := x38) (fun s11 y11 => [(0, .slice (A0_0) ((p0).length) (c0_0)), (3, .pointer (some ⟨g1, 0, none⟩)), (4, .slice (y11.1) ((s11.1).length) (y11.2.1)), (5, .slice (y11.2.2.1) ((s11.2).length) (y11.2.2.2)), (8, .slice (A0_0) ((p0).length) (c0_0)), (9, .int .i64 ((((p0).length : Nat) : Int))), (10, .int .i64 (s38.2.2))]) (fun s11 y11 => [.r (y11.1) ((s11.1).length) (y11.2.1) 53 9 ((s11.1).flatMap e_api_Point), .r (y11.2.2.1) ((s11.2).length) (y11.2.2.2) 53 9 ((s11.2).flatMap e_api_Point), .m g1 33 [.int .i64 (p1.Cell), .int .i64 (p1.Reach), .int .i64 (p1.Slope), .int .i64 (p1.Link), .int .i64 (p1.Flat), .int .i64 (p1.Tall), .int .i64 (p1.High), .int .i64 (p1.Low), .int .i64 (p1.Brush), .int .i64 (p1.Few)]] ++ [.old w]) (fun s11 y11 => True) ?_ ?_
      · intro s11 y11 hx72 hG73
        subst hj11
        refine T_reg ?_
        refine T_val (Ev_add_w64 rfl rfl) rfl ?_
        refine T_val (Ev_move rfl) rfl ?_
        refine T_nil ?_
        exact T_roundP (s11.1, s11.2, w64 (s38.2.2 + 1)) (y11.1, y11.2.1, y11.2.2.1, y11.2.2.2) hx72 trivial (by exact .cons rfl (.cons rfl (.cons rfl (.cons rfl (.cons rfl (.cons rfl (.cons rfl (.nil)))))))) (by exact .pick 0 rfl (.pick 0 rfl (.pick 0 rfl (.refl))))
      · skip
        refine T_block ?_
        refine T_seq ?_
        refine T_reg ?_
        refine T_val (Ev_move rfl) rfl ?_
        obtain ⟨x44, h45, hx46⟩ := bnd_some hx42
        have hw54 := Has.low (E := []) ha0' hK
        obtain ⟨b47, o48, j49, hA50, hj51, hl52, hp53⟩ := Has.at_idx hw54 h45
        refine T_val (Ev_index rfl rfl hA50 (j := j49) hj51 hl52 slc31) rfl ?_
        refine T_val (Ev_loadPK0 rfl hp53 (SubE.cons2 (i := 3) rfl (SubE.nil)) rfl agg53) rfl ?_
        refine T_x (Wx_alloc zer53 rfl (fun g55 => ?_))
        refine T_val (Ev_assign rfl) rfl ?_
        refine T_h (Wh_store rfl rfl rfl (.here) (.put (.put (.put (.put (.put (.put (.put (.put (.put (.done)))))))))) rfl (List.cons_ne_nil _ _) agg53.2 ?_)
        refine T_nil ?_
        refine T_next ?_
        refine T_seq ?_
        refine T_reg ?_
        refine T_val (Ev_move rfl) rfl ?_
        refine T_val (Ev_move rfl) rfl ?_
        refine T_val (Ev_loadK rfl (i := 3) rfl rfl agg33) rfl ?_
        obtain ⟨r56, h57, hx58⟩ := bnd_some hx46
        refine T_x (Wx_callL rfl (fun w1 hw1 => label_isSunk_ok p0 s38.2.2 p1 (Has.len' ha0') h57 w1 (okApp (K := K) (K2 := []) hK (by exact (SubE.cons2 (i := 4) rfl (SubE.nil))) (by exact (SubE.nil)) hw1)) rfl ?_)
        rintro _ _ hlo ⟨rfl, rfl, -⟩
        refine T_app0 ?_
        refine T_nil ?_
        refine T_next ?_
        refine T_caseB (s := 18) rfl (fun h59 => ?_) (fun h59 => ?_)
        · have hx60 := ite_t h59 hx58
          refine T_condT rfl ?_
          refine T_reg ?_
          refine T_val (Ev_move rfl) rfl ?_
          refine T_val (Ev_loadK rfl (i := 0) rfl rfl agg53) rfl ?_
          refine T_x (Wx_buildSlice rfl (bls31_1_0ai64i64i64i64i64i64i64i64i64 _ _ _ _ _ _ _ _ _) rfl (fun g61 => ?_))
          obtain ⟨h62, hx63⟩ := gd_some hx60
          refine T_h (Wh_appendP e_api_Point (s38.2.1) [x44] rfl rfl rfl elm31 (fun _ => rfl) (i' := 0) rfl rfl rfl rfl h62 rfl (fun _ _ => .there (.there (.there (.here)))) (fun _ _ => .drop .refl) (by decide) (fun A64 c65 => ?_))
          refine T_val (Ev_assign rfl) rfl ?_
          refine T_nil ?_
          refine T_inN ?_
          exact T_metP (s38.1, s38.2.1 ++ [x44]) (y38.1, y38.2.1, A64, c65) hx63 trivial (by exact .cons rfl (.cons rfl (.cons rfl (.cons rfl (.cons rfl (.cons rfl (.cons rfl (.nil)))))))) (by exact .pick 1 rfl (.pick 1 rfl (.pick 1 rfl (.drop 0 rfl (.refl)))))
        · have hx66 := ite_bf h59 hx58
          refine T_condF rfl ?_
          refine T_reg ?_
          refine T_val (Ev_move rfl) rfl ?_
          refine T_val (Ev_loadK rfl (i := 0) rfl rfl agg53) rfl ?_
          refine T_x (Wx_buildSlice rfl (bls31_1_0ai64i64i64i64i64i64i64i64i64 _ _ _ _ _ _ _ _ _) rfl (fun g67 => ?_))
          obtain ⟨h68, hx69⟩ := gd_some hx66
          refine T_h (Wh_appendP e_api_Point (s38.1) [x44] rfl rfl rfl elm31 (fun _ => rfl) (i' := 0) rfl rfl rfl rfl h68 rfl (fun _ _ => .there (.there (.here))) (fun _ _ => .drop .refl) (by decide) (fun A70 c71 => ?_))
          refine T_val (Ev_assign rfl) rfl ?_
          refine T_nil ?_
          refine T_inN ?_
          exact T_metP (s38.1 ++ [x44], s38.2.1) (A70, c71, y38.2.2.1, y38.2.2.2) hx69 trivial (by exact .cons rfl (.cons rfl (.cons rfl (.cons rfl (.cons rfl (.cons rfl (.cons rfl (.nil)))))))) (by exact .pick 1 rfl (.pick 1 rfl (.pick 1 rfl (.drop 0 rfl (.refl)))))
    · have hx43 := ite_f h41 hx38
      refine T_condF rfl ?_
      refine T_exit ?_
      refine T_outX ?_
      obtain rfl := exit_eq ht38 hx43
      refine T_outX ?_
      refine T_here ?_
      exact T_metP (s38.1, s38.2.1) (y38.1, y38.2.1, y38.2.2.1, y38.2.2.2) ho38 trivial (by exact .cons rfl (.cons rfl (.nil))) (by exact .pick 0 rfl (.pick 0 rfl (.drop 0 rfl (.refl))))
set_option maxRecDepth 100000 in
theorem label_floor_ok (p0 : Int) (p1 : Int)  {r : Int} (hx : label_floor p0 p1 = some r) (w : World) : CtL Try.prog 62 [.int .i64 (p0), .int .i64 (p1)] w fun v Ln => v = .int .i64 (r) ∧ Ln = [] ∧ True := by
  refine CtL.mk 16 Try.func62 rfl Try.ntmps62 (by kernel_rfl) rfl ?_
  show T 16 _ [(0, .int .i64 (p0)), (1, .int .i64 (p1))] _
  unfold label_floor at hx
  refine T_seq ?_
  refine T_reg ?_
  refine T_val (Ev_assign rfl) rfl ?_
  refine T_nil ?_
  refine T_next ?_
  refine T_seq ?_
  refine T_reg ?_
  refine T_val (Ev_move rfl) rfl ?_
  refine T_val (Ev_move rfl) rfl ?_
  obtain ⟨h1, hx2⟩ := gd_some hx
  refine T_val (Ev_quo_w64 rfl rfl h1) rfl ?_
  refine T_val (Ev_assign rfl) rfl ?_
  refine T_nil ?_
  refine T_next ?_
  obtain ⟨j3, hj3, hx2⟩ := jn_some hx2
  refine T_cutP (τ := Int) (γ := Unit) (J := j3) (out := r) (fun s3 y3 => [(5, .int .i64 (s3))]) (fun s3 y3 => [] ++ [.old w]) (fun s3 y3 => True) ?_ ?_
  · intro s3 y3 hx8 hG9
    subst hj3
    refine T_seq ?_
    refine T_reg ?_
    refine T_val (Ev_move rfl) rfl ?_
    refine T_val (Ev_assign rfl) rfl ?_
    refine T_nil ?_
    refine T_next ?_
    refine T_retc ?_
    obtain rfl := Option.some.inj hx8
    exact T_retP (rs := [.tmp 4]) Try.results62 (.tmp rfl (.nil)) (Ln := []) ⟨rfl, rfl, trivial⟩ (loNil) (by exact .refl)
  · skip
    refine T_seq ?_
    refine T_reg ?_
    refine T_val (Ev_move rfl) rfl ?_
    refine T_val (Ev_move rfl) rfl ?_
    obtain ⟨h3, hx4⟩ := gd_some hx2
    refine T_val (Ev_rem rfl rfl h3) rfl ?_
    refine T_val (Ev_lss rfl rfl) rfl ?_
    refine T_nil ?_
    refine T_next ?_
    refine T_caseP (s := 12) rfl (fun h5 => ?_) (fun h5 => ?_)
    · have hx6 := ite_t h5 hx4
      refine T_condT rfl ?_
      refine T_reg ?_
      refine T_val (Ev_move rfl) rfl ?_
      refine T_val (Ev_sub_w64 rfl rfl) rfl ?_
      refine T_val (Ev_assign rfl) rfl ?_
      refine T_nil ?_
      exact T_metP (w64 ((w64 (Int.tdiv p0 p1)) - 1)) () hx6 trivial (by exact .cons rfl (.nil)) (by exact .refl)
    · have hx7 := ite_f h5 hx4
      refine T_condF rfl ?_
      refine T_skip ?_
      exact T_metP (w64 (Int.tdiv p0 p1)) () hx7 trivial (by exact .cons rfl (.nil)) (by exact .refl)
set_option maxRecDepth 100000 in
theorem label_turn_ok (p0 : S_api_XY) (p1 : S_api_XY) (p2 : S_api_XY)  {r : Int} (hx : label_turn p0 p1 p2 = some r) (w : World) : CtL Try.prog 66 [.agg #[.int .i64 (p0.X), .int .i64 (p0.Y)], .agg #[.int .i64 (p1.X), .int .i64 (p1.Y)], .agg #[.int .i64 (p2.X), .int .i64 (p2.Y)]] w fun v Ln => v = .int .i64 (r) ∧ Ln = [] ∧ True := by
  refine CtL.mk 37 Try.func66 rfl Try.ntmps66 (by kernel_rfl) rfl ?_
  show T 37 _ [(0, .agg #[.int .i64 (p0.X), .int .i64 (p0.Y)]), (1, .agg #[.int .i64 (p1.X), .int .i64 (p1.Y)]), (2, .agg #[.int .i64 (p2.X), .int .i64 (p2.Y)])] _
  unfold label_turn at hx
  refine T_seq ?_
  refine T_reg ?_
  refine T_x (Wx_box rfl rfl rfl (fun g1 => ?_))
  refine T_x (Wx_box rfl rfl rfl (fun g2 => ?_))
  refine T_x (Wx_box rfl rfl rfl (fun g3 => ?_))
  refine T_val (Ev_assign rfl) rfl ?_
  refine T_nil ?_
  refine T_next ?_
  refine T_seq ?_
  refine T_reg ?_
  refine T_val (Ev_field rfl fld24_0 rfl) rfl ?_
  refine T_val (Ev_load1 rfl (i := 1) rfl rfl one3) rfl ?_
  refine T_val (Ev_field rfl fld24_0 rfl) rfl ?_
  refine T_val (Ev_load1 rfl (i := 2) rfl rfl one3) rfl ?_
  refine T_val (Ev_sub_w64 rfl rfl) rfl ?_
  refine T_val (Ev_field rfl fld24_1 rfl) rfl ?_
  refine T_val (Ev_load1 rfl (i := 0) rfl rfl one3) rfl ?_
  refine T_val (Ev_field rfl fld24_1 rfl) rfl ?_
  refine T_val (Ev_load1 rfl (i := 2) rfl rfl one3) rfl ?_
  refine T_val (Ev_sub_w64 rfl rfl) rfl ?_
  refine T_val (Ev_mul_w64 rfl rfl) rfl ?_
  refine T_val (Ev_field rfl fld24_1 rfl) rfl ?_
  refine T_val (Ev_load1 rfl (i := 1) rfl rfl one3) rfl ?_
  refine T_val (Ev_field rfl fld24_1 rfl) rfl ?_
  refine T_val (Ev_load1 rfl (i := 2) rfl rfl one3) rfl ?_
  refine T_val (Ev_sub_w64 rfl rfl) rfl ?_
  refine T_val (Ev_field rfl fld24_0 rfl) rfl ?_
  refine T_val (Ev_load1 rfl (i := 0) rfl rfl one3) rfl ?_
  refine T_val (Ev_field rfl fld24_0 rfl) rfl ?_
  refine T_val (Ev_load1 rfl (i := 2) rfl rfl one3) rfl ?_
  refine T_val (Ev_sub_w64 rfl rfl) rfl ?_
  refine T_val (Ev_mul_w64 rfl rfl) rfl ?_
  refine T_val (Ev_sub_w64 rfl rfl) rfl ?_
  refine T_val (Ev_assign rfl) rfl ?_
  refine T_nil ?_
  refine T_next ?_
  refine T_seq ?_
  refine T_block ?_
  refine T_seq ?_
  refine T_reg ?_
  refine T_val (Ev_move rfl) rfl ?_
  refine T_val (Ev_gtr rfl rfl) rfl ?_
  refine T_val (Ev_assign rfl) rfl ?_
  refine T_nil ?_
  refine T_next ?_
  refine T_caseP (s := 31) rfl (fun h4 => ?_) (fun h4 => ?_)
  · have hx5 := ite_t h4 hx
    refine T_condT rfl ?_
    refine T_seq ?_
    refine T_reg ?_
    refine T_val (Ev_assign rfl) rfl ?_
    refine T_nil ?_
    refine T_next ?_
    refine T_retc ?_
    refine T_inR ?_
    refine T_outR ?_
    obtain rfl := Option.some.inj hx5
    exact T_retP (rs := [.tmp 6]) Try.results66 (.tmp rfl (.nil)) (Ln := []) ⟨rfl, rfl, trivial⟩ (loNil) (by exact .drop 0 rfl (.drop 0 rfl (.drop 0 rfl (.refl))))
  · have hx6 := ite_f h4 hx
    refine T_condF rfl ?_
    refine T_seq ?_
    refine T_reg ?_
    refine T_val (Ev_move rfl) rfl ?_
    refine T_val (Ev_lss rfl rfl) rfl ?_
    refine T_val (Ev_assign rfl) rfl ?_
    refine T_nil ?_
    refine T_next ?_
    refine T_caseP (s := 34) rfl (fun h7 => ?_) (fun h7 => ?_)
    · have hx8 := ite_t h7 hx6
      refine T_condT rfl ?_
      refine T_seq ?_
      refine T_reg ?_
      refine T_val (Ev_assign rfl) rfl ?_
      refine T_nil ?_
      refine T_next ?_
      refine T_retc ?_
      refine T_inR ?_
      refine T_outR ?_
      obtain rfl := Option.some.inj hx8
      exact T_retP (rs := [.tmp 6]) Try.results66 (.tmp rfl (.nil)) (Ln := []) ⟨rfl, rfl, trivial⟩ (loNil) (by exact .drop 0 rfl (.drop 0 rfl (.drop 0 rfl (.refl))))
    · have hx9 := ite_f h7 hx6
      refine T_condF rfl ?_
      refine T_skip ?_
      refine T_inN ?_
      refine T_next ?_
      refine T_seq ?_
      refine T_reg ?_
      refine T_val (Ev_assign rfl) rfl ?_
      refine T_nil ?_
      refine T_next ?_
      refine T_retc ?_
      obtain rfl := Option.some.inj hx9
      exact T_retP (rs := [.tmp 6]) Try.results66 (.tmp rfl (.nil)) (Ln := []) ⟨rfl, rfl, trivial⟩ (loNil) (by exact .drop 0 rfl (.drop 0 rfl (.drop 0 rfl (.refl))))
set_option maxRecDepth 100000 in
theorem label_on_ok (p0 : S_api_XY) (p1 : S_api_XY) (p2 : S_api_XY)  {r : Bool} (hx : label_on p0 p1 p2 = some r) (w : World) : CtL Try.prog 53 [.agg #[.int .i64 (p0.X), .int .i64 (p0.Y)], .agg #[.int .i64 (p1.X), .int .i64 (p1.Y)], .agg #[.int .i64 (p2.X), .int .i64 (p2.Y)]] w fun v Ln => v = .bool (r) ∧ Ln = [] ∧ True := by
  refine CtL.mk 42 Try.func53 rfl Try.ntmps53 (by kernel_rfl) rfl ?_
  show T 42 _ [(0, .agg #[.int .i64 (p0.X), .int .i64 (p0.Y)]), (1, .agg #[.int .i64 (p1.X), .int .i64 (p1.Y)]), (2, .agg #[.int .i64 (p2.X), .int .i64 (p2.Y)])] _
  unfold label_on at hx
  refine T_seq ?_
  refine T_reg ?_
  refine T_x (Wx_box rfl rfl rfl (fun g1 => ?_))
  refine T_x (Wx_box rfl rfl rfl (fun g2 => ?_))
  refine T_x (Wx_box rfl rfl rfl (fun g3 => ?_))
  refine T_val (Ev_assign rfl) rfl ?_
  refine T_nil ?_
  refine T_next ?_
  obtain ⟨j2, hj2, hx⟩ := jn_some hx
  refine T_cutP (τ := Bool) (γ := Unit) (J := j2) (out := r) (fun s2 y2 => [(6, .bool (s2))]) (fun s2 y2 => [] ++ [.old w]) (fun s2 y2 => True) ?_ ?_
  · intro s2 y2 hx19 hG20
    subst hj2
    refine T_retc ?_
    obtain rfl := Option.some.inj hx19
    exact T_retP (rs := [.tmp 6]) Try.results53 (.tmp rfl (.nil)) (Ln := []) ⟨rfl, rfl, trivial⟩ (loNil) (by exact .refl)
  · skip
    refine T_reg ?_
    refine T_val (Ev_loadK rfl (i := 2) rfl rfl agg24) rfl ?_
    refine T_val (Ev_loadK rfl (i := 1) rfl rfl agg24) rfl ?_
    refine T_val (Ev_loadK rfl (i := 0) rfl rfl agg24) rfl ?_
    obtain ⟨r4, h5, hx6⟩ := bnd_some hx
    refine T_x (Wx_callL rfl (fun w1 hw1 => label_turn_ok p0 p1 p2  h5 w1) rfl ?_)
    rintro _ _ hlo ⟨rfl, rfl, -⟩
    refine T_app0 ?_
    refine T_val (Ev_eql rfl rfl) rfl ?_
    refine T_val (Ev_move rfl) rfl ?_
    refine T_caseP (s := 12) rfl (fun h7 => ?_) (fun h7 => ?_)
    · have hx8 := ite_t h7 hx6
      refine T_valG rfl rfl rfl (Ev_field rfl fld24_0 rfl) rfl ?_
      refine T_valG rfl rfl rfl (Ev_load1 rfl (i := 2) rfl rfl one3) rfl ?_
      refine T_valG rfl rfl rfl (Ev_field rfl fld24_0 rfl) rfl ?_
      refine T_valG rfl rfl rfl (Ev_load1 rfl (i := 1) rfl rfl one3) rfl ?_
      refine T_valG rfl rfl rfl (Ev_min2 rfl rfl) rfl ?_
      refine T_valG rfl rfl rfl (Ev_field rfl fld24_0 rfl) rfl ?_
      refine T_valG rfl rfl rfl (Ev_load1 rfl (i := 0) rfl rfl one3) rfl ?_
      refine T_valG rfl rfl rfl (Ev_field rfl fld24_0 rfl) rfl ?_
      refine T_valG rfl rfl rfl (Ev_load1 rfl (i := 2) rfl rfl one3) rfl ?_
      refine T_valG rfl rfl rfl (Ev_field rfl fld24_0 rfl) rfl ?_
      refine T_valG rfl rfl rfl (Ev_load1 rfl (i := 1) rfl rfl one3) rfl ?_
      refine T_valG rfl rfl rfl (Ev_max2 rfl rfl) rfl ?_
      obtain ⟨r9, h10, hx11⟩ := bnd_some hx8
      refine T_xG rfl rfl rfl (Wx_callL rfl (fun w1 hw1 => label_within_ok (min p0.X p1.X) p2.X (max p0.X p1.X)  h10 w1) rfl ?_)
      rintro _ _ hlo ⟨rfl, rfl, -⟩
      refine T_app0 ?_
      refine T_val (Ev_pickT rfl rfl) rfl ?_
      refine T_val (Ev_move rfl) rfl ?_
      refine T_caseB (s := 27) rfl (fun h12 => ?_) (fun h12 => ?_)
      · have hx13 := ite_t h12 hx11
        refine T_valG rfl rfl rfl (Ev_field rfl fld24_1 rfl) rfl ?_
        refine T_valG rfl rfl rfl (Ev_load1 rfl (i := 2) rfl rfl one3) rfl ?_
        refine T_valG rfl rfl rfl (Ev_field rfl fld24_1 rfl) rfl ?_
        refine T_valG rfl rfl rfl (Ev_load1 rfl (i := 1) rfl rfl one3) rfl ?_
        refine T_valG rfl rfl rfl (Ev_min2 rfl rfl) rfl ?_
        refine T_valG rfl rfl rfl (Ev_field rfl fld24_1 rfl) rfl ?_
        refine T_valG rfl rfl rfl (Ev_load1 rfl (i := 0) rfl rfl one3) rfl ?_
        refine T_valG rfl rfl rfl (Ev_field rfl fld24_1 rfl) rfl ?_
        refine T_valG rfl rfl rfl (Ev_load1 rfl (i := 2) rfl rfl one3) rfl ?_
        refine T_valG rfl rfl rfl (Ev_field rfl fld24_1 rfl) rfl ?_
        refine T_valG rfl rfl rfl (Ev_load1 rfl (i := 1) rfl rfl one3) rfl ?_
        refine T_valG rfl rfl rfl (Ev_max2 rfl rfl) rfl ?_
        obtain ⟨r14, h15, hx16⟩ := bnd_some hx13
        refine T_xG rfl rfl rfl (Wx_callL rfl (fun w1 hw1 => label_within_ok (min p0.Y p1.Y) p2.Y (max p0.Y p1.Y)  h15 w1) rfl ?_)
        rintro _ _ hlo ⟨rfl, rfl, -⟩
        refine T_app0 ?_
        refine T_val (Ev_pickT rfl rfl) rfl ?_
        refine T_val (Ev_assign rfl) rfl ?_
        refine T_nil ?_
        exact T_metP r14 () hx16 trivial (by exact .cons rfl (.nil)) (by exact .drop 0 rfl (.drop 0 rfl (.drop 0 rfl (.refl))))
      · have hx17 := ite_bf h12 hx11
        refine T_skipG rfl rfl rfl rfl rfl ?_
        refine T_skipG rfl rfl rfl rfl rfl ?_
        refine T_skipG rfl rfl rfl rfl rfl ?_
        refine T_skipG rfl rfl rfl rfl rfl ?_
        refine T_skipG rfl rfl rfl rfl rfl ?_
        refine T_skipG rfl rfl rfl rfl rfl ?_
        refine T_skipG rfl rfl rfl rfl rfl ?_
        refine T_skipG rfl rfl rfl rfl rfl ?_
        refine T_skipG rfl rfl rfl rfl rfl ?_
        refine T_skipG rfl rfl rfl rfl rfl ?_
        refine T_skipG rfl rfl rfl rfl rfl ?_
        refine T_skipG rfl rfl rfl rfl rfl ?_
        refine T_skipG rfl rfl rfl rfl rfl ?_
        refine T_val (Ev_pickF rfl rfl) rfl ?_
        refine T_val (Ev_assign rfl) rfl ?_
        refine T_nil ?_
        exact T_metP false () hx17 trivial (by exact .cons rfl (.nil)) (by exact .drop 0 rfl (.drop 0 rfl (.drop 0 rfl (.refl))))
    · have hx18 := ite_f h7 hx6
      refine T_skipG rfl rfl rfl rfl rfl ?_
      refine T_skipG rfl rfl rfl rfl rfl ?_
      refine T_skipG rfl rfl rfl rfl rfl ?_
      refine T_skipG rfl rfl rfl rfl rfl ?_
      refine T_skipG rfl rfl rfl rfl rfl ?_
      refine T_skipG rfl rfl rfl rfl rfl ?_
      refine T_skipG rfl rfl rfl rfl rfl ?_
      refine T_skipG rfl rfl rfl rfl rfl ?_
      refine T_skipG rfl rfl rfl rfl rfl ?_
      refine T_skipG rfl rfl rfl rfl rfl ?_
      refine T_skipG rfl rfl rfl rfl rfl ?_
      refine T_skipG rfl rfl rfl rfl rfl ?_
      refine T_skipG rfl rfl rfl rfl rfl ?_
      refine T_val (Ev_pickF rfl rfl) rfl ?_
      refine T_val (Ev_move rfl) rfl ?_
      refine T_skipG rfl rfl rfl rfl rfl ?_
      refine T_skipG rfl rfl rfl rfl rfl ?_
      refine T_skipG rfl rfl rfl rfl rfl ?_
      refine T_skipG rfl rfl rfl rfl rfl ?_
      refine T_skipG rfl rfl rfl rfl rfl ?_
      refine T_skipG rfl rfl rfl rfl rfl ?_
      refine T_skipG rfl rfl rfl rfl rfl ?_
      refine T_skipG rfl rfl rfl rfl rfl ?_
      refine T_skipG rfl rfl rfl rfl rfl ?_
      refine T_skipG rfl rfl rfl rfl rfl ?_
      refine T_skipG rfl rfl rfl rfl rfl ?_
      refine T_skipG rfl rfl rfl rfl rfl ?_
      refine T_skipG rfl rfl rfl rfl rfl ?_
      refine T_val (Ev_pickF rfl rfl) rfl ?_
      refine T_val (Ev_assign rfl) rfl ?_
      refine T_nil ?_
      exact T_metP false () hx18 trivial (by exact .cons rfl (.nil)) (by exact .drop 0 rfl (.drop 0 rfl (.drop 0 rfl (.refl))))
set_option maxRecDepth 100000 in
theorem label_crosses_ok (p0 : S_api_XY) (p1 : S_api_XY) (p2 : S_api_XY)  {r : Bool} (hx : label_crosses p0 p1 p2 = some r) (w : World) : CtL Try.prog 54 [.agg #[.int .i64 (p0.X), .int .i64 (p0.Y)], .agg #[.int .i64 (p1.X), .int .i64 (p1.Y)], .agg #[.int .i64 (p2.X), .int .i64 (p2.Y)]] w fun v Ln => v = .bool (r) ∧ Ln = [] ∧ True := by
  refine CtL.mk 33 Try.func54 rfl Try.ntmps54 (by kernel_rfl) rfl ?_
  show T 33 _ [(0, .agg #[.int .i64 (p0.X), .int .i64 (p0.Y)]), (1, .agg #[.int .i64 (p1.X), .int .i64 (p1.Y)]), (2, .agg #[.int .i64 (p2.X), .int .i64 (p2.Y)])] _
  unfold label_crosses at hx
  refine T_seq ?_
  refine T_reg ?_
  refine T_x (Wx_box rfl rfl rfl (fun g1 => ?_))
  refine T_x (Wx_box rfl rfl rfl (fun g2 => ?_))
  refine T_x (Wx_box rfl rfl rfl (fun g3 => ?_))
  refine T_val (Ev_assign rfl) rfl ?_
  refine T_nil ?_
  refine T_next ?_
  refine T_seq ?_
  refine T_seq ?_
  refine T_reg ?_
  refine T_val (Ev_field rfl fld24_1 rfl) rfl ?_
  refine T_val (Ev_load1 rfl (i := 2) rfl rfl one3) rfl ?_
  refine T_val (Ev_field rfl fld24_1 rfl) rfl ?_
  refine T_val (Ev_load1 rfl (i := 0) rfl rfl one3) rfl ?_
  refine T_val (Ev_gtr rfl rfl) rfl ?_
  refine T_val (Ev_field rfl fld24_1 rfl) rfl ?_
  refine T_val (Ev_load1 rfl (i := 1) rfl rfl one3) rfl ?_
  refine T_val (Ev_field rfl fld24_1 rfl) rfl ?_
  refine T_val (Ev_load1 rfl (i := 0) rfl rfl one3) rfl ?_
  refine T_val (Ev_gtr rfl rfl) rfl ?_
  refine T_val (Ev_eqlB rfl rfl (by kernel_rfl)) rfl ?_
  refine T_nil ?_
  refine T_next ?_
  refine T_caseB (s := 17) rfl (fun h4 => ?_) (fun h4 => ?_)
  · have hx5 := ite_t h4 hx
    refine T_condT rfl ?_
    refine T_seq ?_
    refine T_reg ?_
    refine T_val (Ev_assign rfl) rfl ?_
    refine T_nil ?_
    refine T_next ?_
    refine T_retc ?_
    refine T_outR ?_
    obtain rfl := Option.some.inj hx5
    exact T_retP (rs := [.tmp 6]) Try.results54 (.tmp rfl (.nil)) (Ln := []) ⟨rfl, rfl, trivial⟩ (loNil) (by exact .drop 0 rfl (.drop 0 rfl (.drop 0 rfl (.refl))))
  · have hx6 := ite_bf h4 hx
    refine T_condF rfl ?_
    refine T_skip ?_
    refine T_next ?_
    refine T_seq ?_
    refine T_seq ?_
    refine T_reg ?_
    refine T_val (Ev_field rfl fld24_1 rfl) rfl ?_
    refine T_val (Ev_load1 rfl (i := 1) rfl rfl one3) rfl ?_
    refine T_val (Ev_field rfl fld24_1 rfl) rfl ?_
    refine T_val (Ev_load1 rfl (i := 2) rfl rfl one3) rfl ?_
    refine T_val (Ev_gtr rfl rfl) rfl ?_
    refine T_nil ?_
    refine T_next ?_
    refine T_caseP (s := 22) rfl (fun h7 => ?_) (fun h7 => ?_)
    · have hx8 := ite_t h7 hx6
      refine T_condT rfl ?_
      refine T_seq ?_
      refine T_reg ?_
      refine T_val (Ev_loadK rfl (i := 2) rfl rfl agg24) rfl ?_
      refine T_val (Ev_loadK rfl (i := 1) rfl rfl agg24) rfl ?_
      refine T_val (Ev_loadK rfl (i := 0) rfl rfl agg24) rfl ?_
      obtain ⟨r9, h10, hx11⟩ := bnd_some hx8
      refine T_x (Wx_callL rfl (fun w1 hw1 => label_turn_ok p0 p1 p2  h10 w1) rfl ?_)
      rintro _ _ hlo ⟨rfl, rfl, -⟩
      refine T_app0 ?_
      refine T_val (Ev_gtr rfl rfl) rfl ?_
      refine T_val (Ev_assign rfl) rfl ?_
      refine T_nil ?_
      refine T_next ?_
      refine T_retc ?_
      refine T_outR ?_
      obtain rfl := Option.some.inj hx11
      exact T_retP (rs := [.tmp 6]) Try.results54 (.tmp rfl (.nil)) (Ln := []) ⟨rfl, rfl, trivial⟩ (loNil) (by exact .drop 0 rfl (.drop 0 rfl (.drop 0 rfl (.refl))))
    · have hx12 := ite_f h7 hx6
      refine T_condF rfl ?_
      refine T_skip ?_
      refine T_next ?_
      refine T_seq ?_
      refine T_reg ?_
      refine T_val (Ev_loadK rfl (i := 1) rfl rfl agg24) rfl ?_
      refine T_val (Ev_loadK rfl (i := 2) rfl rfl agg24) rfl ?_
      refine T_val (Ev_loadK rfl (i := 0) rfl rfl agg24) rfl ?_
      obtain ⟨r13, h14, hx15⟩ := bnd_some hx12
      refine T_x (Wx_callL rfl (fun w1 hw1 => label_turn_ok p1 p0 p2  h14 w1) rfl ?_)
      rintro _ _ hlo ⟨rfl, rfl, -⟩
      refine T_app0 ?_
      refine T_val (Ev_gtr rfl rfl) rfl ?_
      refine T_val (Ev_assign rfl) rfl ?_
      refine T_nil ?_
      refine T_next ?_
      refine T_retc ?_
      obtain rfl := Option.some.inj hx15
      exact T_retP (rs := [.tmp 6]) Try.results54 (.tmp rfl (.nil)) (Ln := []) ⟨rfl, rfl, trivial⟩ (loNil) (by exact .drop 0 rfl (.drop 0 rfl (.drop 0 rfl (.refl))))
set_option maxRecDepth 100000 in
theorem label_inRing_ok (p0 : List S_api_XY) (p1 : S_api_XY) {K : List Ent} {A0_0 : Option Addr} {c0_0 : Nat} (ha0 : Has K A0_0 (p0).length c0_0 2 e_api_XY (p0)) {r : Bool} (hx : label_inRing p0 p1 = some r) (w : World) (hK : ∀ e ∈ K, Ent.ok w e) : CtL Try.prog 28 [.slice (A0_0) ((p0).length) (c0_0), .agg #[.int .i64 (p1.X), .int .i64 (p1.Y)]] w fun v Ln => v = .bool (r) ∧ Ln = [] ∧ True := by
  have ha0' := Has.up0 ha0
  refine CtL.mk 34 Try.func28 rfl Try.ntmps28 (by kernel_rfl) rfl ?_
  show T 34 _ [(0, .slice (A0_0) ((p0).length) (c0_0)), (1, .agg #[.int .i64 (p1.X), .int .i64 (p1.Y)])] _
  unfold label_inRing at hx
  refine T_seq ?_
  refine T_reg ?_
  refine T_x (Wx_box rfl rfl rfl (fun g1 => ?_))
  refine T_val (Ev_assign rfl) rfl ?_
  refine T_nil ?_
  refine T_next ?_
  refine T_seq ?_
  refine T_reg ?_
  refine T_val (Ev_assign rfl) rfl ?_
  refine T_nil ?_
  refine T_next ?_
  refine T_seq ?_
  refine T_reg ?_
  refine T_val (Ev_move rfl) rfl ?_
  refine T_val (Ev_move rfl) rfl ?_
  refine T_val (Ev_len rfl 24 Try.underlying22) rfl ?_
  refine T_val (Ev_sub_w64 rfl rfl) rfl ?_
  obtain ⟨x2, h3, hx4⟩ := bnd_some hx
  have hw12 := Has.low (E := []) ha0' hK
  obtain ⟨b5, o6, j7, hA8, hj9, hl10, hp11⟩ := Has.at_idx hw12 h3
  refine T_val (Ev_index rfl rfl hA8 (j := j7) hj9 hl10 slc22) rfl ?_
  refine T_val (Ev_loadPK0 rfl hp11 (SubE.cons2 (i := 1) rfl (SubE.nil)) rfl agg24) rfl ?_
  refine T_x (Wx_alloc zer24 rfl (fun g13 => ?_))
  refine T_h (Wh_store rfl rfl rfl (.here) (.put (.put (.done))) rfl (List.cons_ne_nil _ _) agg24.2 ?_)
  refine T_nil ?_
  refine T_next ?_
  obtain ⟨j4, hj4, hx4⟩ := jn_some hx4
  refine T_cutP (τ := Bool) (γ := Unit) (J := j4) (out := r) (fun s4 y4 => [(5, .bool (s4))]) (fun s4 y4 => [] ++ [.old w]) (fun s4 y4 => True) ?_ ?_
  · intro s4 y4 hx74 hG75
    subst hj4
    refine T_seq ?_
    refine T_reg ?_
    refine T_val (Ev_move rfl) rfl ?_
    refine T_val (Ev_assign rfl) rfl ?_
    refine T_nil ?_
    refine T_next ?_
    refine T_retc ?_
    obtain rfl := Option.some.inj hx74
    exact T_retP (rs := [.tmp 4]) Try.results28 (.tmp rfl (.nil)) (Ln := []) ⟨rfl, rfl, trivial⟩ (loNil) (by exact .refl)
  · skip
    refine T_seq ?_
    refine T_reg ?_
    refine T_val (Ev_move rfl) rfl ?_
    refine T_val (Ev_len rfl 24 Try.underlying22) rfl ?_
    refine T_val (Ev_move rfl) rfl ?_
    refine T_nil ?_
    refine T_next ?_
    refine T_block ?_
    obtain ⟨t44, hl44, ho44⟩ := bnd_some hx4
    refine T_loopP (σ := Bool × Int × Int × Int) (γ := Unit) hl44 (fun s44 y44 => [(3, .pointer (some ⟨g1, 0, none⟩)), (5, .bool (s44.1)), (6, .pointer (some ⟨g13, 0, none⟩)), (15, .slice (A0_0) ((p0).length) (c0_0)), (16, .int .i64 ((((p0).length : Nat) : Int))), (17, .int .i64 (s44.2.2.2))]) (fun s44 y44 => [.m g13 24 [.int .i64 (s44.2.1), .int .i64 (s44.2.2.1)], .m g1 24 [.int .i64 (p1.X), .int .i64 (p1.Y)]] ++ [.old w]) (fun s44 y44 => True) () trivial (by exact .cons rfl (.cons rfl (.cons rfl (.cons rfl (.cons rfl (.cons rfl (.nil))))))) (by exact .pick 0 rfl (.pick 0 rfl (.refl))) ?_
    intro s44 y44 hG44 x44 hx44 ht44
    unfold label_inRing_l4 at hx44
    refine T_seq ?_
    refine T_reg ?_
    refine T_val (Ev_lss rfl rfl) rfl ?_
    refine T_nil ?_
    refine T_next ?_
    refine T_seq ?_
    refine T_caseP (s := 18) rfl (fun h45 => ?_) (fun h45 => ?_)
    · have hx46 := ite_t h45 hx44
      refine T_condT rfl ?_
      refine T_skip ?_
      refine T_next ?_
      refine T_seq ?_
      refine T_block ?_
      refine T_seq ?_
      refine T_reg ?_
      obtain ⟨x48, h49, hx50⟩ := bnd_some hx46
      have hw58 := Has.low (E := []) ha0' hK
      obtain ⟨b51, o52, j53, hA54, hj55, hl56, hp57⟩ := Has.at_idx hw58 h49
      refine T_val (Ev_index rfl rfl hA54 (j := j53) hj55 hl56 slc22) rfl ?_
      refine T_val (Ev_loadPK0 rfl hp57 (SubE.cons2 (i := 2) rfl (SubE.nil)) rfl agg24) rfl ?_
      refine T_x (Wx_alloc zer24 rfl (fun g59 => ?_))
      refine T_h (Wh_store rfl rfl rfl (.here) (.put (.put (.done))) rfl (List.cons_ne_nil _ _) agg24.2 ?_)
      refine T_nil ?_
      refine T_next ?_
      refine T_seq ?_
      refine T_seq ?_
      refine T_reg ?_
      refine T_val (Ev_loadK rfl (i := 1) rfl rfl agg24) rfl ?_
      refine T_val (Ev_loadK rfl (i := 0) rfl rfl agg24) rfl ?_
      refine T_val (Ev_loadK rfl (i := 2) rfl rfl agg24) rfl ?_
      obtain ⟨r60, h61, hx62⟩ := bnd_some hx50
      refine T_x (Wx_callL rfl (fun w1 hw1 => label_on_ok (⟨s44.2.1, s44.2.2.1⟩ : S_api_XY) x48 p1  h61 w1) rfl ?_)
      rintro _ _ hlo ⟨rfl, rfl, -⟩
      refine T_app0 ?_
      refine T_nil ?_
      refine T_next ?_
      refine T_caseB (s := 24) rfl (fun h63 => ?_) (fun h63 => ?_)
      · have hx64 := ite_t h63 hx62
        refine T_condT rfl ?_
        refine T_seq ?_
        refine T_reg ?_
        refine T_val (Ev_assign rfl) rfl ?_
        refine T_nil ?_
        refine T_next ?_
        refine T_retc ?_
        refine T_outR ?_
        refine T_inR ?_
        refine T_outR ?_
        obtain rfl := exit_eq ht44 hx64
        refine T_outR ?_
        refine T_inR ?_
        refine T_outR ?_
        obtain rfl := Option.some.inj ho44
        exact T_retP (rs := [.tmp 4]) Try.results28 (.tmp rfl (.nil)) (Ln := []) ⟨rfl, rfl, trivial⟩ (loNil) (by exact .drop 0 rfl (.drop 0 rfl (.drop 0 rfl (.refl))))
      · have hx65 := ite_bf h63 hx62
        refine T_condF rfl ?_
        refine T_skip ?_
        refine T_next ?_
        obtain ⟨j22, hj22, hx65⟩ := jn_some hx65
        refine T_cutP (τ := Bool) (γ := Unit) (J := j22) (out := x44) (fun s22 y22 => [(3, .pointer (some ⟨g1, 0, none⟩)), (5, .bool (s22)), (6, .pointer (some ⟨g13, 0, none⟩)), (8, .pointer (some ⟨g59, 0, none⟩)), (15, .slice (A0_0) ((p0).length) (c0_0)), (16, .int .i64 ((((p0).length : Nat) : Int))), (17, .int .i64 (s44.2.2.2))]) (fun s22 y22 => [.m g59 24 [.int .i64 (x48.X), .int .i64 (x48.Y)], .m g13 24 [.int .i64 (s44.2.1), .int .i64 (s44.2.2.1)], .m g1 24 [.int .i64 (p1.X), .int .i64 (p1.Y)]] ++ [.old w]) (fun s22 y22 => True) ?_ ?_
        · intro s22 y22 hx72 hG73
          subst hj22
          refine T_reg ?_
          refine T_val (Ev_loadK rfl (i := 0) rfl rfl agg24) rfl ?_
          refine T_h (Wh_store rfl rfl rfl (.there (.here)) (.put (.put (.done))) rfl (List.cons_ne_nil _ _) agg24.2 ?_)
          refine T_nil ?_
          refine T_inN ?_
          refine T_next ?_
          refine T_reg ?_
          refine T_val (Ev_add_w64 rfl rfl) rfl ?_
          refine T_val (Ev_move rfl) rfl ?_
          refine T_nil ?_
          exact T_roundP (s22, x48.X, x48.Y, w64 (s44.2.2.2 + 1)) () hx72 trivial (by exact .cons rfl (.cons rfl (.cons rfl (.cons rfl (.cons rfl (.cons rfl (.nil))))))) (by exact .pick 1 rfl (.pick 1 rfl (.drop 0 rfl (.refl))))
        · skip
          refine T_seq ?_
          refine T_reg ?_
          refine T_val (Ev_loadK rfl (i := 1) rfl rfl agg24) rfl ?_
          refine T_val (Ev_loadK rfl (i := 0) rfl rfl agg24) rfl ?_
          refine T_val (Ev_loadK rfl (i := 2) rfl rfl agg24) rfl ?_
          obtain ⟨r66, h67, hx68⟩ := bnd_some hx65
          refine T_x (Wx_callL rfl (fun w1 hw1 => label_crosses_ok (⟨s44.2.1, s44.2.2.1⟩ : S_api_XY) x48 p1  h67 w1) rfl ?_)
          rintro _ _ hlo ⟨rfl, rfl, -⟩
          refine T_app0 ?_
          refine T_nil ?_
          refine T_next ?_
          refine T_caseB (s := 28) rfl (fun h69 => ?_) (fun h69 => ?_)
          · have hx70 := ite_t h69 hx68
            refine T_condT rfl ?_
            refine T_reg ?_
            refine T_val (Ev_move rfl) rfl ?_
            refine T_val (Ev_not rfl) rfl ?_
            refine T_val (Ev_assign rfl) rfl ?_
            refine T_nil ?_
            exact T_metP (!(s44.1)) () hx70 trivial (by exact .cons rfl (.cons rfl (.cons rfl (.cons rfl (.cons rfl (.cons rfl (.cons rfl (.nil)))))))) (by exact .pick 0 rfl (.pick 0 rfl (.pick 0 rfl (.refl))))
          · have hx71 := ite_bf h69 hx68
            refine T_condF rfl ?_
            refine T_skip ?_
            exact T_metP s44.1 () hx71 trivial (by exact .cons rfl (.cons rfl (.cons rfl (.cons rfl (.cons rfl (.cons rfl (.cons rfl (.nil)))))))) (by exact .pick 0 rfl (.pick 0 rfl (.pick 0 rfl (.refl))))
    · have hx47 := ite_f h45 hx44
      refine T_condF rfl ?_
      refine T_exit ?_
      refine T_outX ?_
      obtain rfl := exit_eq ht44 hx47
      refine T_outX ?_
      refine T_here ?_
      exact T_metP s44.1 () ho44 trivial (by exact .cons rfl (.nil)) (by exact .drop 0 rfl (.drop 0 rfl (.refl)))
set_option maxRecDepth 100000 in
theorem label_validRing_ok (p0 : List S_api_XY) {K : List Ent} {A0_0 : Option Addr} {c0_0 : Nat} (ha0 : Has K A0_0 (p0).length c0_0 2 e_api_XY (p0)) {r : Bool} (hx : label_validRing p0 = some r) (w : World) (hK : ∀ e ∈ K, Ent.ok w e) : CtL Try.prog 26 [.slice (A0_0) ((p0).length) (c0_0)] w fun v Ln => v = .bool (r) ∧ Ln = [] ∧ True := by
  have ha0' := Has.up0 ha0
  refine CtL.mk 19 Try.func26 rfl Try.ntmps26 (by kernel_rfl) rfl ?_
  show T 19 _ [(0, .slice (A0_0) ((p0).length) (c0_0))] _
  unfold label_validRing at hx
  refine T_seq ?_
  refine T_reg ?_
  refine T_val (Ev_assign rfl) rfl ?_
  refine T_nil ?_
  refine T_next ?_
  refine T_seq ?_
  refine T_seq ?_
  refine T_reg ?_
  refine T_val (Ev_move rfl) rfl ?_
  refine T_val (Ev_len rfl 24 Try.underlying22) rfl ?_
  obtain ⟨r1, h2, hx3⟩ := bnd_some hx
  refine T_x (Wx_callL rfl (fun w1 hw1 => label_within_ok 3 (((p0).length : Nat) : Int) 64  h2 w1) rfl ?_)
  rintro _ _ hlo ⟨rfl, rfl, -⟩
  refine T_app0 ?_
  refine T_val (Ev_not rfl) rfl ?_
  refine T_nil ?_
  refine T_next ?_
  refine T_caseNB (s := 8) rfl (fun h4 => ?_) (fun h4 => ?_)
  · have hx5 := ite_bf h4 hx3
    refine T_condT rfl ?_
    refine T_seq ?_
    refine T_reg ?_
    refine T_val (Ev_assign rfl) rfl ?_
    refine T_nil ?_
    refine T_next ?_
    refine T_retc ?_
    refine T_outR ?_
    obtain rfl := Option.some.inj hx5
    exact T_retP (rs := [.tmp 2]) Try.results26 (.tmp rfl (.nil)) (Ln := []) ⟨rfl, rfl, trivial⟩ (loNil) (by exact .refl)
  · have hx6 := ite_t h4 hx3
    refine T_condF rfl ?_
    refine T_skip ?_
    refine T_next ?_
    obtain ⟨j5, hj5, hx6⟩ := jn_some hx6
    refine T_cutP (τ := Unit) (γ := Unit) (J := j5) (out := r) (fun s5 y5 => []) (fun s5 y5 => [] ++ [.old w]) (fun s5 y5 => True) ?_ ?_
    · intro s5 y5 hx51 hG52
      subst hj5
      refine T_seq ?_
      refine T_reg ?_
      refine T_val (Ev_assign rfl) rfl ?_
      refine T_nil ?_
      refine T_next ?_
      refine T_retc ?_
      obtain rfl := Option.some.inj hx51
      exact T_retP (rs := [.tmp 2]) Try.results26 (.tmp rfl (.nil)) (Ln := []) ⟨rfl, rfl, trivial⟩ (loNil) (by exact .refl)
    · skip
      refine T_seq ?_
      refine T_reg ?_
      refine T_val (Ev_move rfl) rfl ?_
      refine T_val (Ev_len rfl 24 Try.underlying22) rfl ?_
      refine T_val (Ev_move rfl) rfl ?_
      refine T_nil ?_
      refine T_next ?_
      refine T_block ?_
      obtain ⟨t29, hl29, ho29⟩ := bnd_some hx6
      refine T_loopP (σ := Int) (γ := Unit) hl29 (fun s29 y29 => [(9, .slice (A0_0) ((p0).length) (c0_0)), (10, .int .i64 ((((p0).length : Nat) : Int))), (11, .int .i64 (s29))]) (fun s29 y29 => [] ++ [.old w]) (fun s29 y29 => True) () trivial (by exact .cons rfl (.cons rfl (.cons rfl (.nil)))) (by exact .refl) ?_
      intro s29 y29 hG29 x29 hx29 ht29
      unfold label_validRing_l4 at hx29
      refine T_seq ?_
      refine T_reg ?_
      refine T_val (Ev_lss rfl rfl) rfl ?_
      refine T_nil ?_
      refine T_next ?_
      refine T_seq ?_
      refine T_caseP (s := 12) rfl (fun h30 => ?_) (fun h30 => ?_)
      · have hx31 := ite_t h30 hx29
        refine T_condT rfl ?_
        refine T_skip ?_
        refine T_next ?_
        refine T_seq ?_
        refine T_block ?_
        refine T_seq ?_
        refine T_reg ?_
        obtain ⟨x33, h34, hx35⟩ := bnd_some hx31
        have hw43 := Has.low (E := []) ha0' hK
        obtain ⟨b36, o37, j38, hA39, hj40, hl41, hp42⟩ := Has.at_idx hw43 h34
        refine T_val (Ev_index rfl rfl hA39 (j := j38) hj40 hl41 slc22) rfl ?_
        refine T_val (Ev_loadPK0 rfl hp42 (SubE.cons2 (i := 0) rfl (SubE.nil)) rfl agg24) rfl ?_
        refine T_x (Wx_alloc zer24 rfl (fun g44 => ?_))
        refine T_h (Wh_store rfl rfl rfl (.here) (.put (.put (.done))) rfl (List.cons_ne_nil _ _) agg24.2 ?_)
        refine T_nil ?_
        refine T_next ?_
        refine T_seq ?_
        refine T_reg ?_
        refine T_val (Ev_loadK rfl (i := 0) rfl rfl agg24) rfl ?_
        obtain ⟨r45, h46, hx47⟩ := bnd_some hx35
        refine T_x (Wx_callL rfl (fun w1 hw1 => label_validPlace_ok x33  h46 w1) rfl ?_)
        rintro _ _ hlo ⟨rfl, rfl, -⟩
        refine T_app0 ?_
        refine T_val (Ev_not rfl) rfl ?_
        refine T_nil ?_
        refine T_next ?_
        refine T_caseNB (s := 17) rfl (fun h48 => ?_) (fun h48 => ?_)
        · have hx49 := ite_bf h48 hx47
          refine T_condT rfl ?_
          refine T_seq ?_
          refine T_reg ?_
          refine T_val (Ev_assign rfl) rfl ?_
          refine T_nil ?_
          refine T_next ?_
          refine T_retc ?_
          refine T_inR ?_
          refine T_outR ?_
          obtain rfl := exit_eq ht29 hx49
          refine T_outR ?_
          refine T_inR ?_
          refine T_outR ?_
          obtain rfl := Option.some.inj ho29
          exact T_retP (rs := [.tmp 2]) Try.results26 (.tmp rfl (.nil)) (Ln := []) ⟨rfl, rfl, trivial⟩ (loNil) (by exact .drop 0 rfl (.refl))
        · have hx50 := ite_t h48 hx47
          refine T_condF rfl ?_
          refine T_skip ?_
          refine T_inN ?_
          refine T_next ?_
          refine T_reg ?_
          refine T_val (Ev_add_w64 rfl rfl) rfl ?_
          refine T_val (Ev_move rfl) rfl ?_
          refine T_nil ?_
          exact T_roundP (w64 (s29 + 1)) () hx50 trivial (by exact .cons rfl (.cons rfl (.cons rfl (.nil)))) (by exact .drop 0 rfl (.refl))
      · have hx32 := ite_f h30 hx29
        refine T_condF rfl ?_
        refine T_exit ?_
        refine T_outX ?_
        obtain rfl := exit_eq ht29 hx32
        refine T_outX ?_
        refine T_here ?_
        exact T_metP () () ho29 trivial (by exact .nil) (by exact .refl)
set_option maxRecDepth 100000 in
theorem label_Within_ok (p0 : List S_api_XY) (p1 : S_api_XY) {K : List Ent} {A0_0 : Option Addr} {c0_0 : Nat} (ha0 : Has K A0_0 (p0).length c0_0 2 e_api_XY (p0)) {r : Bool × Int} (hx : label_Within p0 p1 = some r) (w : World) (hK : ∀ e ∈ K, Ent.ok w e) : CtL Try.prog 9 [.slice (A0_0) ((p0).length) (c0_0), .agg #[.int .i64 (p1.X), .int .i64 (p1.Y)]] w fun v Ln => v = .tuple #[.bool (r.1), .int .i64 (r.2)] ∧ Ln = [] ∧ True := by
  have ha0' := Has.up0 ha0
  refine CtL.mk 15 Try.func9 rfl Try.ntmps9 (by kernel_rfl) rfl ?_
  show T 15 _ [(0, .slice (A0_0) ((p0).length) (c0_0)), (1, .agg #[.int .i64 (p1.X), .int .i64 (p1.Y)])] _
  unfold label_Within at hx
  refine T_seq ?_
  refine T_reg ?_
  refine T_x (Wx_box rfl rfl rfl (fun g1 => ?_))
  refine T_val (Ev_assign rfl) rfl ?_
  refine T_val (Ev_assign rfl) rfl ?_
  refine T_nil ?_
  refine T_next ?_
  refine T_seq ?_
  refine T_seq ?_
  refine T_reg ?_
  refine T_val (Ev_move rfl) rfl ?_
  obtain ⟨r2, h3, hx4⟩ := bnd_some hx
  refine T_x (Wx_callL rfl (fun w1 hw1 => label_validRing_ok p0 (Has.len' ha0') h3 w1 (okApp (K := K) (K2 := []) hK (by exact (SubE.cons2 (i := 1) rfl (SubE.nil))) (by exact (SubE.nil)) hw1)) rfl ?_)
  rintro _ _ hlo ⟨rfl, rfl, -⟩
  refine T_app0 ?_
  refine T_val (Ev_not rfl) rfl ?_
  refine T_nil ?_
  refine T_next ?_
  refine T_caseNB (s := 8) rfl (fun h5 => ?_) (fun h5 => ?_)
  · have hx6 := ite_bf h5 hx4
    refine T_condT rfl ?_
    refine T_seq ?_
    refine T_reg ?_
    refine T_val (Ev_assign rfl) rfl ?_
    refine T_val (Ev_assign rfl) rfl ?_
    refine T_nil ?_
    refine T_next ?_
    refine T_retc ?_
    refine T_outR ?_
    obtain rfl := Option.some.inj hx6
    exact T_retP (rs := [.tmp 4, .tmp 5]) Try.results9 (.tmp rfl (.tmp rfl (.nil))) (Ln := []) ⟨rfl, rfl, trivial⟩ (loNil) (by exact .drop 0 rfl (.refl))
  · have hx7 := ite_t h5 hx4
    refine T_condF rfl ?_
    refine T_skip ?_
    refine T_next ?_
    refine T_seq ?_
    refine T_seq ?_
    refine T_reg ?_
    refine T_val (Ev_loadK rfl (i := 0) rfl rfl agg24) rfl ?_
    obtain ⟨r8, h9, hx10⟩ := bnd_some hx7
    refine T_x (Wx_callL rfl (fun w1 hw1 => label_validPlace_ok p1  h9 w1) rfl ?_)
    rintro _ _ hlo ⟨rfl, rfl, -⟩
    refine T_app0 ?_
    refine T_val (Ev_not rfl) rfl ?_
    refine T_nil ?_
    refine T_next ?_
    refine T_caseNB (s := 11) rfl (fun h11 => ?_) (fun h11 => ?_)
    · have hx12 := ite_bf h11 hx10
      refine T_condT rfl ?_
      refine T_seq ?_
      refine T_reg ?_
      refine T_val (Ev_assign rfl) rfl ?_
      refine T_val (Ev_assign rfl) rfl ?_
      refine T_nil ?_
      refine T_next ?_
      refine T_retc ?_
      refine T_outR ?_
      obtain rfl := Option.some.inj hx12
      exact T_retP (rs := [.tmp 4, .tmp 5]) Try.results9 (.tmp rfl (.tmp rfl (.nil))) (Ln := []) ⟨rfl, rfl, trivial⟩ (loNil) (by exact .drop 0 rfl (.refl))
    · have hx13 := ite_t h11 hx10
      refine T_condF rfl ?_
      refine T_skip ?_
      refine T_next ?_
      refine T_seq ?_
      refine T_reg ?_
      refine T_val (Ev_move rfl) rfl ?_
      refine T_val (Ev_loadK rfl (i := 0) rfl rfl agg24) rfl ?_
      obtain ⟨r14, h15, hx16⟩ := bnd_some hx13
      refine T_x (Wx_callL rfl (fun w1 hw1 => label_inRing_ok p0 p1 (Has.len' ha0') h15 w1 (okApp (K := K) (K2 := []) hK (by exact (SubE.cons2 (i := 1) rfl (SubE.nil))) (by exact (SubE.nil)) hw1)) rfl ?_)
      rintro _ _ hlo ⟨rfl, rfl, -⟩
      refine T_app0 ?_
      refine T_val (Ev_assign rfl) rfl ?_
      refine T_val (Ev_assign rfl) rfl ?_
      refine T_nil ?_
      refine T_next ?_
      refine T_retc ?_
      obtain rfl := Option.some.inj hx16
      exact T_retP (rs := [.tmp 4, .tmp 5]) Try.results9 (.tmp rfl (.tmp rfl (.nil))) (Ln := []) ⟨rfl, rfl, trivial⟩ (loNil) (by exact .drop 0 rfl (.refl))
end Go.Proofs.Ytdkjcoonmgjpfaa
