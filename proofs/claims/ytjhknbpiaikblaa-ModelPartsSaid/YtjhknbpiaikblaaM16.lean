/- Walks of the program, with their plain functions: the law ModelParts. -/
import Derived.Test.YtjhknbpiaikblaaM14
namespace Go.Proofs.Ytjhknbpiaikblaa
open Go Go.RowKit
theorem bld26_0ai64i64i64i64i64 (x0 : Int) (x1 : Int) (x2 : Int) (x3 : Int) (x4 : Int) : BuildOf Try.prog 26 [(0, .agg #[.int .i64 x0, .int .i64 x1, .int .i64 x2, .int .i64 x3, .int .i64 x4])] [.int .i64 x0, .int .i64 x1, .int .i64 x2, .int .i64 x3, .int .i64 x4, .slice (none) (0) (0)] := fun w => by kernel_rfl
theorem bls24_1_0abi64i64 (x0 : Bool) (x1 : Int) (x2 : Int) : BuildSliceOf Try.prog 24 1 [(0, .agg #[.bool x0, .int .i64 x1, .int .i64 x2])] 41 [.bool x0, .int .i64 x1, .int .i64 x2] := fun w => by kernel_rfl
theorem elm24 : ElemOf Try.prog 24 41 3 24 := ⟨Try.underlying24, ⟨Try.t41, .agg #[.bool (false), .int .i64 (0), .int .i64 (0)], by kernel_rfl, by kernel_rfl, by kernel_rfl, by kernel_rfl, rfl⟩, by decide⟩
theorem slc88 : SliceOf Try.prog 88 95 8 := .mk Try.underlying88 (show Try.prog.info? 95 = some Try.t95 from by kernel_rfl) (by kernel_rfl)
theorem fld95_1 : FieldOf Try.prog 95 1 1 := .mk Try.underlying95 rfl rfl (show Try.prog.info? 27 = some Try.t27 from by kernel_rfl) (show Try.t27.size = 1 from by kernel_rfl) rfl
theorem fld95_0 : FieldOf Try.prog 95 0 0 := .mk Try.underlying95 rfl rfl (show Try.prog.info? 3 = some Try.t3 from by kernel_rfl) (show Try.t3.size = 1 from by kernel_rfl) rfl
noncomputable def lidarlaw09_alike_l3 (p0 : S_api_Grid) (p1 : S_api_Grid) : ((List S_api_Cell) × Int) → Option (Sum ((List S_api_Cell) × Int) (List S_api_Cell)) := fun s46 =>
 if s46.2 < ((((p0.Cells).length : Nat) : Int)) then (bnd (idx p0.Cells s46.2) fun x51 =>
 jn (fun (s15 : Bool × Int × Int) =>
 gd (((s46.1).length + 1) * 24 ≤ 140737488355328) <|
 some (.inl (s46.1 ++ [(⟨s15.1, (⟨s15.2.1, s15.2.2⟩ : S_api_Span)⟩ : S_api_Cell)], w64 (s46.2 + 1))))
 (fun j15 => if 0 < ((((p1.Cells).length : Nat) : Int)) then (gd (((((p1.Cells).length : Nat) : Int)) ≠ 0) <|
 bnd (idx p1.Cells (Int.tmod s46.2 ((((p1.Cells).length : Nat) : Int)))) fun x67 =>
 j15 (x67.Void, x67.Z.Lo, x67.Z.Hi))
 else (j15 (x51.Void, x51.Z.Lo, x51.Z.Hi))))
 else (some (.inr s46.1))
noncomputable def lidarlaw09_alike (p0 : S_api_Grid) (p1 : S_api_Grid) : Option (S_api_Grid × S_api_Grid) :=
 jn (fun (s3 : List S_api_Cell) =>
 jn (fun (s17 : Unit) =>
 some (p0, (⟨p0.Raster, s3⟩ : S_api_Grid)))
 (fun j17 => j17 ()))
 (fun j3 => bnd (lfix (lidarlaw09_alike_l3 p0 p1) (([] : List S_api_Cell), 0)) fun t46 =>
 j3 t46)
noncomputable def lidarlaw09_ModelParts_l13 (r38 : (List S_api_Region) × Int) (s455 : (List Int) × Int) (r31 : (List Int) × Int) : ((List Int) × Int) → Option (Sum ((List Int) × Int) (Sum (List Int) Bool)) := fun s650 =>
 bnd (idx r38.1 s455.2) fun x651 =>
 if s650.2 < ((((x651.Nodes).length : Nat) : Int)) then (bnd (idx r38.1 s455.2) fun x682 =>
 bnd (idx x682.Nodes s650.2) fun x710 =>
 jn (fun (s48 : Bool) =>
 if s48 = true then (some (.inr (.inr (false))))
 else (bnd (idx s650.1 x710) fun x830 =>
 some (.inl (setI s650.1 x710 (w64 (s455.2 + 1)), w64 (s650.2 + 1)))))
 (fun j48 => if x710 < 0 then (j48 true)
 else (if ((((r31.1).length : Nat) : Int)) ≤ x710 then (j48 true)
 else (bnd (idx s650.1 x710) fun x727 =>
 if x727 = 0 then (bnd (idx r31.1 x710) fun x741 =>
 bnd (idx r38.1 s455.2) fun x752 =>
 if x741 = x752.State then (if 0 < s650.2 then (bnd (idx r38.1 s455.2) fun x785 =>
 bnd (idx x785.Nodes (w64 (s650.2 - 1))) fun x813 =>
 j48 (decide (x710 ≤ x813)))
 else (j48 false))
 else (j48 true))
 else (j48 true)))))
 else (some (.inr (.inl s650.1)))
noncomputable def lidarlaw09_ModelParts_l10 (r38 : (List S_api_Region) × Int) (r31 : (List Int) × Int) : ((List Int) × Int) → Option (Sum ((List Int) × Int) (Sum (List Int) Bool)) := fun s455 =>
 if s455.2 < ((((r38.1).length : Nat) : Int)) then (jn (fun (s34 : List Int) =>
 some (.inl (s34, w64 (s455.2 + 1))))
 (fun j34 => bnd (lfix (lidarlaw09_ModelParts_l13 r38 s455 r31) (s455.1, 0)) fun t650 =>
 (match t650 with
 | (.inl z650) => j34 z650
 | (.inr (z650)) => some (.inr (.inr (z650)))
 )))
 else (some (.inr (.inl s455.1)))
noncomputable def lidarlaw09_ModelParts_l20 (r31 : (List Int) × Int) (s12 : List Int) (r20 : S_api_Grid × S_api_Grid) : Int → Option (Sum Int (Sum Unit Bool)) := fun s1167 =>
 if s1167 < ((((r31.1).length : Nat) : Int)) then (jn (fun (s64 : Bool) =>
 bnd (idx s12 s1167) fun x1198 =>
 if ((s64) == (decide (0 < x1198))) = true then (jn (fun (s68 : Bool) =>
 if s68 = true then (some (.inr (.inr (false))))
 else (some (.inl (w64 (s1167 + 1)))))
 (fun j68 => gd (r20.1.Raster.NX ≠ 0) <|
 if 0 < (Int.tmod s1167 r20.1.Raster.NX) then (if s64 = true then (bnd (idx r31.1 (w64 (s1167 - 1))) fun x1218 =>
 bnd (idx r31.1 s1167) fun x1229 =>
 if x1218 = x1229 then (bnd (idx s12 (w64 (s1167 - 1))) fun x1242 =>
 bnd (idx s12 s1167) fun x1253 =>
 if x1242 = x1253 then (if r20.1.Raster.NX ≤ s1167 then (if s64 = true then (bnd (idx r31.1 (w64 (s1167 - r20.1.Raster.NX))) fun x1271 =>
 bnd (idx r31.1 s1167) fun x1282 =>
 if x1271 = x1282 then (bnd (idx s12 (w64 (s1167 - r20.1.Raster.NX))) fun x1295 =>
 bnd (idx s12 s1167) fun x1306 =>
 j68 (!(decide (x1295 = x1306))))
 else (j68 false))
 else (j68 false))
 else (j68 false))
 else (j68 true))
 else (if r20.1.Raster.NX ≤ s1167 then (if s64 = true then (bnd (idx r31.1 (w64 (s1167 - r20.1.Raster.NX))) fun x1325 =>
 bnd (idx r31.1 s1167) fun x1336 =>
 if x1325 = x1336 then (bnd (idx s12 (w64 (s1167 - r20.1.Raster.NX))) fun x1349 =>
 bnd (idx s12 s1167) fun x1360 =>
 j68 (!(decide (x1349 = x1360))))
 else (j68 false))
 else (j68 false))
 else (j68 false)))
 else (if r20.1.Raster.NX ≤ s1167 then (if s64 = true then (bnd (idx r31.1 (w64 (s1167 - r20.1.Raster.NX))) fun x1379 =>
 bnd (idx r31.1 s1167) fun x1390 =>
 if x1379 = x1390 then (bnd (idx s12 (w64 (s1167 - r20.1.Raster.NX))) fun x1403 =>
 bnd (idx s12 s1167) fun x1414 =>
 j68 (!(decide (x1403 = x1414))))
 else (j68 false))
 else (j68 false))
 else (j68 false)))
 else (if r20.1.Raster.NX ≤ s1167 then (if s64 = true then (bnd (idx r31.1 (w64 (s1167 - r20.1.Raster.NX))) fun x1433 =>
 bnd (idx r31.1 s1167) fun x1444 =>
 if x1433 = x1444 then (bnd (idx s12 (w64 (s1167 - r20.1.Raster.NX))) fun x1457 =>
 bnd (idx s12 s1167) fun x1468 =>
 j68 (!(decide (x1457 = x1468))))
 else (j68 false))
 else (j68 false))
 else (j68 false))))
 else (some (.inr (.inr (false)))))
 (fun j64 => bnd (idx r31.1 s1167) fun x1171 =>
 if x1171 = 1 then (j64 true)
 else (bnd (idx r31.1 s1167) fun x1185 =>
 j64 (decide (x1185 = (-1))))))
 else (some (.inr (.inl ())))
noncomputable def lidarlaw09_ModelParts_l33 (r38 : (List S_api_Region) × Int) (p2 : Int) (r1491 : (List S_api_Region) × Int) : (Int × Int) → Option (Sum (Int × Int) (Sum Int Bool)) := fun s1670 =>
 if s1670.2 < ((((r38.1).length : Nat) : Int)) then (jn (fun (s88 : Int) =>
 some (.inl (s88, w64 (s1670.2 + 1))))
 (fun j88 => bnd (idx r38.1 s1670.2) fun x1674 =>
 if ((((x1674.Nodes).length : Nat) : Int)) < (w64 (1 + (Int.tmod (w64 (p2)) 20))) then (j88 s1670.1)
 else (jn (fun (s92 : Bool) =>
 if s92 = true then (some (.inr (.inr (false))))
 else (j88 (w64 (s1670.1 + 1))))
 (fun j92 => if ((((r1491.1).length : Nat) : Int)) ≤ s1670.1 then (j92 true)
 else (bnd (idx r1491.1 s1670.1) fun x1708 =>
 bnd (idx r38.1 s1670.2) fun x1736 =>
 if x1708.State = x1736.State then (bnd (idx r1491.1 s1670.1) fun x1767 =>
 bnd (idx r38.1 s1670.2) fun x1795 =>
 bnd (lidarlaw09_sameInts x1767.Nodes x1795.Nodes) fun r1823 =>
 j92 (!(r1823)))
 else (j92 true))))))
 else (some (.inr (.inl s1670.1)))
noncomputable def lidarlaw09_ModelParts (p0 : S_api_Grid) (p1 : S_api_Grid) (p2 : Int) : Option Bool :=
 jn (fun (s3 : Bool) =>
 if s3 = true then (bnd (lidarlaw09_first) fun r16 =>
 some r16)
 else (bnd (lidarlaw09_alike p0 p1) fun r20 =>
 bnd (model_Compare r20.1 r20.2) fun r31 =>
 bnd (model_Regions r20.1 r20.2 1) fun r38 =>
 jn (fun (s9 : Bool) =>
 if s9 = true then (some false)
 else (gd ((0 : Int) ≤ ((((r31.1).length : Nat) : Int)) ∧ 8 * Int.toNat ((((r31.1).length : Nat) : Int)) ≤ 140737488355328) <|
 jn (fun (s12 : List Int) =>
 jn (fun (s50 : Unit) =>
 bnd (model_Regions r20.1 r20.2 (w64 (1 + (Int.tmod (w64 (p2)) 20)))) fun r1491 =>
 if r1491.2 = 0 then (jn (fun (s76 : Int) =>
 jn (fun (s94 : Bool) =>
 some s94)
 (fun j94 => if s76 = ((((r1491.1).length : Nat) : Int)) then (bnd (lidarlaw09_first) fun r1837 =>
 j94 r1837)
 else (j94 false)))
 (fun j76 => bnd (lfix (lidarlaw09_ModelParts_l33 r38 p2 r1491) (0, 0)) fun t1670 =>
 (match t1670 with
 | (.inl z1670) => j76 z1670
 | (.inr (z1670)) => some z1670
 )))
 else (some false))
 (fun j50 => bnd (lfix (lidarlaw09_ModelParts_l20 r31 s12 r20) 0) fun t1167 =>
 (match t1167 with
 | (.inl z1167) => j50 z1167
 | (.inr (z1167)) => some z1167
 )))
 (fun j12 => bnd (lfix (lidarlaw09_ModelParts_l10 r38 r31) (List.replicate (Int.toNat ((((r31.1).length : Nat) : Int))) (0 : Int), 0)) fun t455 =>
 (match t455 with
 | (.inl z455) => j12 z455
 | (.inr (z455)) => some z455
 ))))
 (fun j9 => if r31.2 = 0 then (if r38.2 = 0 then (j9 (!(decide (((((r31.1).length : Nat) : Int)) = ((((r20.1.Cells).length : Nat) : Int))))))
 else (j9 true))
 else (j9 true))))
 (fun j3 => bnd (lidarlaw09_good p0) fun r3 =>
 if r3 = true then (bnd (lidarlaw09_good p1) fun r9 =>
 j3 (!(r9)))
 else (j3 true))
set_option maxRecDepth 100000 in
theorem lidarlaw09_alike_ok (p0 : S_api_Grid) (p1 : S_api_Grid) {K : List Ent} {A0_0 : Option Addr} {c0_0 : Nat} {A0_1 : Option Addr} {c0_1 : Nat} (ha0 : Has K A0_0 (p0.Cells).length c0_0 3 e_api_Cell (p0.Cells)) (ha1 : Has K A0_1 (p1.Cells).length c0_1 3 e_api_Cell (p1.Cells)) {r : S_api_Grid × S_api_Grid} (hx : lidarlaw09_alike p0 p1 = some r) (w : World) (hK : ∀ e ∈ K, Ent.ok w e) : CtL Try.prog 37 [.agg #[.int .i64 (p0.Raster.X0), .int .i64 (p0.Raster.Y0), .int .i64 (p0.Raster.Step), .int .i64 (p0.Raster.NX), .int .i64 (p0.Raster.NY), .slice (A0_0) ((p0.Cells).length) (c0_0)], .agg #[.int .i64 (p1.Raster.X0), .int .i64 (p1.Raster.Y0), .int .i64 (p1.Raster.Step), .int .i64 (p1.Raster.NX), .int .i64 (p1.Raster.NY), .slice (A0_1) ((p1.Cells).length) (c0_1)]] w fun v Ln => ∃ (A0 : Option Addr) (c0 : Nat), v = .tuple #[.agg #[.int .i64 (r.1.Raster.X0), .int .i64 (r.1.Raster.Y0), .int .i64 (r.1.Raster.Step), .int .i64 (r.1.Raster.NX), .int .i64 (r.1.Raster.NY), .slice (A0_0) ((r.1.Cells).length) (c0_0)], .agg #[.int .i64 (r.2.Raster.X0), .int .i64 (r.2.Raster.Y0), .int .i64 (r.2.Raster.Step), .int .i64 (r.2.Raster.NX), .int .i64 (r.2.Raster.NY), .slice (A0) ((r.2.Cells).length) (c0)]] ∧ Ln = [.r A0 (r.2.Cells).length c0 41 3 ((r.2.Cells).flatMap e_api_Cell)] ∧ Has K A0_0 (r.1.Cells).length c0_0 3 e_api_Cell (r.1.Cells) ∧ True := by
  have ha0' := Has.up0 ha0
  have ha1' := Has.up0 ha1
  refine CtL.mk 45 Try.func37 rfl Try.ntmps37 (by kernel_rfl) rfl ?_
  show T 45 _ [(0, .agg #[.int .i64 (p0.Raster.X0), .int .i64 (p0.Raster.Y0), .int .i64 (p0.Raster.Step), .int .i64 (p0.Raster.NX), .int .i64 (p0.Raster.NY), .slice (A0_0) ((p0.Cells).length) (c0_0)]), (1, .agg #[.int .i64 (p1.Raster.X0), .int .i64 (p1.Raster.Y0), .int .i64 (p1.Raster.Step), .int .i64 (p1.Raster.NX), .int .i64 (p1.Raster.NY), .slice (A0_1) ((p1.Cells).length) (c0_1)])] _
  unfold lidarlaw09_alike at hx
  refine T_seq ?_
  refine T_reg ?_
  refine T_x (Wx_box rfl rfl rfl (fun g1 => ?_))
  refine T_x (Wx_box rfl rfl rfl (fun g2 => ?_))
  refine T_x (Wx_alloc zer26 rfl (fun g3 => ?_))
  refine T_x (Wx_alloc zer26 rfl (fun g4 => ?_))
  refine T_nil ?_
  refine T_next ?_
  refine T_seq ?_
  refine T_reg ?_
  refine T_val (Ev_field rfl fld26_0 rfl) rfl ?_
  refine T_val (Ev_loadK rfl (i := 3) rfl rfl agg23) rfl ?_
  refine T_val (Ev_build rfl (bld26_0ai64i64i64i64i64 _ _ _ _ _)) rfl ?_
  refine T_x (Wx_alloc zer26 rfl (fun g5 => ?_))
  refine T_h (Wh_store rfl rfl rfl (.here) (.put (.put (.put (.put (.put (.put (.done))))))) rfl (List.cons_ne_nil _ _) agg26.2 ?_)
  refine T_nil ?_
  refine T_next ?_
  obtain ⟨j3, hj3, hx⟩ := jn_some hx
  refine T_cutP (τ := List S_api_Cell) (γ := (Option Addr) × Nat) (J := j3) (out := r) (fun s3 y3 => [(2, .pointer (some ⟨g1, 0, none⟩)), (4, .pointer (some ⟨g3, 0, none⟩)), (5, .pointer (some ⟨g4, 0, none⟩)), (6, .pointer (some ⟨g5, 0, none⟩))]) (fun s3 y3 => [.r (y3.1) ((s3).length) (y3.2) 41 3 ((s3).flatMap e_api_Cell), .m g5 26 [.int .i64 (p0.Raster.X0), .int .i64 (p0.Raster.Y0), .int .i64 (p0.Raster.Step), .int .i64 (p0.Raster.NX), .int .i64 (p0.Raster.NY), .slice (y3.1) ((s3).length) (y3.2)], .m g4 26 [.int .i64 (0), .int .i64 (0), .int .i64 (0), .int .i64 (0), .int .i64 (0), .slice (none) (0) (0)], .m g3 26 [.int .i64 (0), .int .i64 (0), .int .i64 (0), .int .i64 (0), .int .i64 (0), .slice (none) (0) (0)], .m g1 26 [.int .i64 (p0.Raster.X0), .int .i64 (p0.Raster.Y0), .int .i64 (p0.Raster.Step), .int .i64 (p0.Raster.NX), .int .i64 (p0.Raster.NY), .slice (A0_0) ((p0.Cells).length) (c0_0)]] ++ [.old w]) (fun s3 y3 => True) ?_ ?_
  · intro s3 y3 hx86 hG87
    subst hj3
    obtain ⟨j17, hj17, hx86⟩ := jn_some hx86
    refine T_cutP (τ := Unit) (γ := Unit) (J := j17) (out := r) (fun s17 y17 => [(4, .pointer (some ⟨g3, 0, none⟩)), (5, .pointer (some ⟨g4, 0, none⟩))]) (fun s17 y17 => [.r (y3.1) ((s3).length) (y3.2) 41 3 ((s3).flatMap e_api_Cell), .m g4 26 [.int .i64 (p0.Raster.X0), .int .i64 (p0.Raster.Y0), .int .i64 (p0.Raster.Step), .int .i64 (p0.Raster.NX), .int .i64 (p0.Raster.NY), .slice (y3.1) ((s3).length) (y3.2)], .m g3 26 [.int .i64 (p0.Raster.X0), .int .i64 (p0.Raster.Y0), .int .i64 (p0.Raster.Step), .int .i64 (p0.Raster.NX), .int .i64 (p0.Raster.NY), .slice (A0_0) ((p0.Cells).length) (c0_0)]] ++ [.old w]) (fun s17 y17 => True) ?_ ?_
    · intro s17 y17 hx88 hG89
      subst hj17
      refine T_retc ?_
      obtain rfl := Option.some.inj hx88
      exact T_retP (rs := [.cell 4 26, .cell 5 26]) Try.results37 (.cell rfl (i := 2) rfl rfl agg26 (.cell rfl (i := 1) rfl rfl agg26 (.nil))) (Ln := [.r (y3.1) ((s3).length) (y3.2) 41 3 ((s3).flatMap e_api_Cell)]) ⟨y3.1, y3.2, rfl, rfl, Has.len' (Has.dn0 ha0'), trivial⟩ (loCons rfl (loNil)) (by exact .pick 0 rfl (.drop 0 rfl (.drop 0 rfl (.refl))))
    · skip
      refine T_draw [1, 2, 3, 3] [[], [], [0], [0, 1, 2]] (.q 0 (.e 1 (.e 2 (.e 3 (.done) (.stop)) (.stop)) (.e 2 (.e 1 (.e 3 (.done) (.stop)) (.stop)) (.stop)))) mixed (by kernel_rfl) (by kernel_rfl) ?_
      refine P_q rfl rfl (Ev_loadK rfl (i := 4) rfl rfl agg26) rfl ?_
      refine P_x rfl (Wx_val (Ev_loadK rfl (i := 1) rfl rfl agg26) rfl ?_) ?_
      · skip
        refine P_h rfl rfl (Wh_store rfl rfl rfl (.there (.there (.there (.here)))) (.put (.put (.put (.put (.put (.put (.done))))))) rfl (List.cons_ne_nil _ _) agg26.2 ?_) ?_
        rotate_left; exact P_stop
        refine P_h rfl rfl (Wh_store rfl rfl rfl (.there (.there (.here))) (.put (.put (.put (.put (.put (.put (.done))))))) rfl (List.cons_ne_nil _ _) agg26.2 ?_) ?_
        rotate_left; exact P_stop
        refine P_done ?_
        exact T_metP () () hx86 trivial (by exact .cons rfl (.cons rfl (.nil))) (by exact .pick 0 rfl (.pick 1 rfl (.pick 1 rfl (.drop 0 rfl (.drop 0 rfl (.refl))))))
      · skip
        refine P_h rfl rfl (Wh_store rfl rfl rfl (.there (.there (.there (.here)))) (.put (.put (.put (.put (.put (.put (.done))))))) rfl (List.cons_ne_nil _ _) agg26.2 ?_) ?_
        rotate_left; exact P_stop
        refine P_x rfl (Wx_val (Ev_loadK rfl (i := 1) rfl rfl agg26) rfl ?_) ?_
        rotate_left; exact P_stop
        refine P_h rfl rfl (Wh_store rfl rfl rfl (.there (.there (.here))) (.put (.put (.put (.put (.put (.put (.done))))))) rfl (List.cons_ne_nil _ _) agg26.2 ?_) ?_
        rotate_left; exact P_stop
        refine P_done ?_
        exact T_metP () () hx86 trivial (by exact .cons rfl (.cons rfl (.nil))) (by exact .pick 0 rfl (.pick 1 rfl (.pick 1 rfl (.drop 0 rfl (.drop 0 rfl (.refl))))))
  · skip
    refine T_seq ?_
    refine T_reg ?_
    refine T_val (Ev_assign rfl) rfl ?_
    refine T_nil ?_
    refine T_next ?_
    refine T_block ?_
    obtain ⟨t46, hl46, ho46⟩ := bnd_some hx
    refine T_none 41 3 ?_
    have hn47 : 0 = (([] : List S_api_Cell)).length := by simp [setI_len, cpy_len, List.length_append] <;> omega
    refine T_ent (.here) (e' := .r (none) ((([] : List S_api_Cell)).length) (0) 41 3 ((([] : List S_api_Cell)).flatMap e_api_Cell)) (by first | (rw [← hn47]; done) | rfl) ?_
    refine T_loopP (σ := (List S_api_Cell) × Int) (γ := (Option Addr) × Nat) hl46 (fun s46 y46 => [(2, .pointer (some ⟨g1, 0, none⟩)), (3, .pointer (some ⟨g2, 0, none⟩)), (4, .pointer (some ⟨g3, 0, none⟩)), (5, .pointer (some ⟨g4, 0, none⟩)), (6, .pointer (some ⟨g5, 0, none⟩)), (7, .int .i64 (s46.2))]) (fun s46 y46 => [.r (y46.1) ((s46.1).length) (y46.2) 41 3 ((s46.1).flatMap e_api_Cell), .m g5 26 [.int .i64 (p0.Raster.X0), .int .i64 (p0.Raster.Y0), .int .i64 (p0.Raster.Step), .int .i64 (p0.Raster.NX), .int .i64 (p0.Raster.NY), .slice (y46.1) ((s46.1).length) (y46.2)], .m g4 26 [.int .i64 (0), .int .i64 (0), .int .i64 (0), .int .i64 (0), .int .i64 (0), .slice (none) (0) (0)], .m g3 26 [.int .i64 (0), .int .i64 (0), .int .i64 (0), .int .i64 (0), .int .i64 (0), .slice (none) (0) (0)], .m g2 26 [.int .i64 (p1.Raster.X0), .int .i64 (p1.Raster.Y0), .int .i64 (p1.Raster.Step), .int .i64 (p1.Raster.NX), .int .i64 (p1.Raster.NY), .slice (A0_1) ((p1.Cells).length) (c0_1)], .m g1 26 [.int .i64 (p0.Raster.X0), .int .i64 (p0.Raster.Y0), .int .i64 (p0.Raster.Step), .int .i64 (p0.Raster.NX), .int .i64 (p0.Raster.NY), .slice (A0_0) ((p0.Cells).length) (c0_0)]] ++ [.old w]) (fun s46 y46 => True) (none, 0) trivial (by exact .cons rfl (.cons rfl (.cons rfl (.cons rfl (.cons rfl (.cons rfl (.nil))))))) (by exact .pick 0 rfl (.pick 0 rfl (.pick 0 rfl (.pick 0 rfl (.pick 0 rfl (.pick 0 rfl (.refl))))))) ?_
    intro s46 y46 hG46 x46 hx46 ht46
    unfold lidarlaw09_alike_l3 at hx46
    refine T_seq ?_
    refine T_seq ?_
    refine T_reg ?_
    refine T_val (Ev_move rfl) rfl ?_
    refine T_val (Ev_field rfl fld26_1 rfl) rfl ?_
    refine T_val (Ev_load1 rfl (i := 5) rfl rfl one24) rfl ?_
    refine T_val (Ev_len rfl 41 Try.underlying24) rfl ?_
    refine T_val (Ev_lss rfl rfl) rfl ?_
    refine T_nil ?_
    refine T_next ?_
    refine T_caseP (s := 16) rfl (fun h48 => ?_) (fun h48 => ?_)
    · have hx49 := ite_t h48 hx46
      refine T_condT rfl ?_
      refine T_skip ?_
      refine T_next ?_
      refine T_seq ?_
      refine T_block ?_
      refine T_seq ?_
      refine T_reg ?_
      refine T_val (Ev_field rfl fld26_1 rfl) rfl ?_
      refine T_val (Ev_load1 rfl (i := 5) rfl rfl one24) rfl ?_
      refine T_val (Ev_move rfl) rfl ?_
      obtain ⟨x51, h52, hx53⟩ := bnd_some hx49
      have hw61 := Has.low (E := []) ha0' hK
      obtain ⟨b54, o55, j56, hA57, hj58, hl59, hp60⟩ := Has.at_idx hw61 h52
      refine T_val (Ev_index rfl rfl hA57 (j := j56) hj58 hl59 slc24) rfl ?_
      refine T_val (Ev_loadPK0 rfl hp60 (SubE.cons2 (i := 6) rfl (SubE.nil)) rfl agg41) rfl ?_
      refine T_x (Wx_alloc zer41 rfl (fun g62 => ?_))
      refine T_h (Wh_store rfl rfl rfl (.here) (.put (.put (.put (.done)))) rfl (List.cons_ne_nil _ _) agg41.2 ?_)
      refine T_nil ?_
      refine T_next ?_
      obtain ⟨j15, hj15, hx53⟩ := jn_some hx53
      refine T_cutP (τ := Bool × Int × Int) (γ := Unit) (J := j15) (out := x46) (fun s15 y15 => [(2, .pointer (some ⟨g1, 0, none⟩)), (3, .pointer (some ⟨g2, 0, none⟩)), (4, .pointer (some ⟨g3, 0, none⟩)), (5, .pointer (some ⟨g4, 0, none⟩)), (6, .pointer (some ⟨g5, 0, none⟩)), (7, .int .i64 (s46.2)), (8, .pointer (some ⟨g62, 0, none⟩))]) (fun s15 y15 => [.m g62 41 [.bool (s15.1), .int .i64 (s15.2.1), .int .i64 (s15.2.2)], .r (y46.1) ((s46.1).length) (y46.2) 41 3 ((s46.1).flatMap e_api_Cell), .m g5 26 [.int .i64 (p0.Raster.X0), .int .i64 (p0.Raster.Y0), .int .i64 (p0.Raster.Step), .int .i64 (p0.Raster.NX), .int .i64 (p0.Raster.NY), .slice (y46.1) ((s46.1).length) (y46.2)], .m g4 26 [.int .i64 (0), .int .i64 (0), .int .i64 (0), .int .i64 (0), .int .i64 (0), .slice (none) (0) (0)], .m g3 26 [.int .i64 (0), .int .i64 (0), .int .i64 (0), .int .i64 (0), .int .i64 (0), .slice (none) (0) (0)], .m g2 26 [.int .i64 (p1.Raster.X0), .int .i64 (p1.Raster.Y0), .int .i64 (p1.Raster.Step), .int .i64 (p1.Raster.NX), .int .i64 (p1.Raster.NY), .slice (A0_1) ((p1.Cells).length) (c0_1)], .m g1 26 [.int .i64 (p0.Raster.X0), .int .i64 (p0.Raster.Y0), .int .i64 (p0.Raster.Step), .int .i64 (p0.Raster.NX), .int .i64 (p0.Raster.NY), .slice (A0_0) ((p0.Cells).length) (c0_0)]] ++ [.old w]) (fun s15 y15 => True) ?_ ?_
      · intro s15 y15 hx79 hG80
        subst hj15
        refine T_reg ?_
        refine T_val (Ev_field rfl fld26_1 rfl) rfl ?_
        refine T_val (Ev_load1 rfl (i := 2) rfl rfl one24) rfl ?_
        refine T_val (Ev_loadK rfl (i := 0) rfl rfl agg41) rfl ?_
        refine T_x (Wx_buildSlice rfl (bls24_1_0abi64i64 _ _ _) rfl (fun g81 => ?_))
        obtain ⟨h82, hx83⟩ := gd_some hx79
        refine T_h (Wh_appendP e_api_Cell (s46.1) [(⟨s15.1, (⟨s15.2.1, s15.2.2⟩ : S_api_Span)⟩ : S_api_Cell)] rfl rfl rfl elm24 (fun _ => rfl) (i' := 0) rfl rfl rfl rfl h82 rfl (fun _ _ => .there (.there (.here))) (fun _ _ => .drop .refl) (by decide) (fun A84 c85 => ?_))
        refine T_val (Ev_field rfl fld26_1 rfl) rfl ?_
        refine T_h (Wh_store rfl rfl rfl (.there (.there (.here))) (.skip (.skip (.skip (.skip (.skip (.put (.done))))))) rfl (List.cons_ne_nil _ _) one24.2 ?_)
        refine T_nil ?_
        refine T_inN ?_
        refine T_next ?_
        refine T_reg ?_
        refine T_val (Ev_move rfl) rfl ?_
        refine T_val (Ev_add_w64 rfl rfl) rfl ?_
        refine T_val (Ev_assign rfl) rfl ?_
        refine T_nil ?_
        exact T_roundP (s46.1 ++ [(⟨s15.1, (⟨s15.2.1, s15.2.2⟩ : S_api_Span)⟩ : S_api_Cell)], w64 (s46.2 + 1)) (A84, c85) hx83 trivial (by exact .cons rfl (.cons rfl (.cons rfl (.cons rfl (.cons rfl (.cons rfl (.nil))))))) (by exact .pick 1 rfl (.pick 1 rfl (.pick 1 rfl (.pick 1 rfl (.pick 1 rfl (.pick 1 rfl (.drop 0 rfl (.refl))))))))
      · skip
        refine T_seq ?_
        refine T_reg ?_
        refine T_val (Ev_field rfl fld26_1 rfl) rfl ?_
        refine T_val (Ev_load1 rfl (i := 5) rfl rfl one24) rfl ?_
        refine T_val (Ev_len rfl 41 Try.underlying24) rfl ?_
        refine T_val (Ev_gtr rfl rfl) rfl ?_
        refine T_nil ?_
        refine T_next ?_
        refine T_caseP (s := 27) rfl (fun h63 => ?_) (fun h63 => ?_)
        · have hx64 := ite_t h63 hx53
          refine T_condT rfl ?_
          refine T_draw [0, 1, 0, 0, 1, 0, 0, 0, 1, 3] [[], [0], [], [], [3], [3, 4], [2, 3, 4, 5], [0, 1, 2, 3, 4, 5, 6], [0, 1, 2, 3, 4, 5, 6, 7], [0, 1, 2, 3, 4, 5, 6, 7, 8]] (.q 0 (.q 1 (.q 2 (.q 3 (.q 4 (.q 5 (.q 6 (.q 7 (.q 8 (.e 9 (.done) (.stop))))))))))) mixed (by kernel_rfl) (by kernel_rfl) ?_
          refine P_p rfl rfl (Ev_field rfl fld26_1 rfl) rfl ?_
          refine P_q rfl rfl (Ev_load1 rfl (i := 5) rfl rfl one24) rfl ?_
          refine P_p rfl rfl (Ev_move rfl) rfl ?_
          refine P_p rfl rfl (Ev_field rfl fld26_1 rfl) rfl ?_
          refine P_q rfl rfl (Ev_load1 rfl (i := 5) rfl rfl one24) rfl ?_
          refine P_p rfl rfl (Ev_len rfl 41 Try.underlying24) rfl ?_
          obtain ⟨h65, hx66⟩ := gd_some hx64
          refine P_p rfl rfl (Ev_rem rfl rfl h65) rfl ?_
          obtain ⟨x67, h68, hx69⟩ := bnd_some hx66
          have hw77 := Has.low (E := []) ha1' hK
          obtain ⟨b70, o71, j72, hA73, hj74, hl75, hp76⟩ := Has.at_idx hw77 h68
          refine P_p rfl rfl (Ev_index rfl rfl hA73 (j := j72) hj74 hl75 slc24) rfl ?_
          refine P_q rfl rfl (Ev_loadPK0 rfl hp76 (SubE.cons2 (i := 7) rfl (SubE.nil)) rfl agg41) rfl ?_
          refine P_h rfl rfl (Wh_store rfl rfl rfl (.here) (.put (.put (.put (.done)))) rfl (List.cons_ne_nil _ _) agg41.2 ?_) ?_
          rotate_left; exact P_stop
          refine P_done ?_
          exact T_metP (x67.Void, x67.Z.Lo, x67.Z.Hi) () hx69 trivial (by exact .cons rfl (.cons rfl (.cons rfl (.cons rfl (.cons rfl (.cons rfl (.cons rfl (.nil)))))))) (by exact .pick 0 rfl (.pick 0 rfl (.pick 0 rfl (.pick 0 rfl (.pick 0 rfl (.pick 0 rfl (.pick 0 rfl (.refl))))))))
        · have hx78 := ite_f h63 hx53
          refine T_condF rfl ?_
          refine T_skip ?_
          exact T_metP (x51.Void, x51.Z.Lo, x51.Z.Hi) () hx78 trivial (by exact .cons rfl (.cons rfl (.cons rfl (.cons rfl (.cons rfl (.cons rfl (.cons rfl (.nil)))))))) (by exact .pick 0 rfl (.pick 0 rfl (.pick 0 rfl (.pick 0 rfl (.pick 0 rfl (.pick 0 rfl (.pick 0 rfl (.refl))))))))
    · have hx50 := ite_f h48 hx46
      refine T_condF rfl ?_
      refine T_exit ?_
      refine T_outX ?_
      obtain rfl := exit_eq ht46 hx50
      refine T_outX ?_
      refine T_here ?_
      exact T_metP s46.1 (y46.1, y46.2) ho46 trivial (by exact .cons rfl (.cons rfl (.cons rfl (.cons rfl (.nil))))) (by exact .pick 0 rfl (.pick 0 rfl (.pick 0 rfl (.pick 0 rfl (.pick 1 rfl (.drop 0 rfl (.refl)))))))
set_option maxHeartbeats 1000000 in
set_option maxRecDepth 100000 in
theorem lidarlaw09_ModelParts_ok (p0 : S_api_Grid) (p1 : S_api_Grid) (p2 : Int) {K : List Ent} {A0_0 : Option Addr} {c0_0 : Nat} {A0_1 : Option Addr} {c0_1 : Nat} (ha0 : Has K A0_0 (p0.Cells).length c0_0 3 e_api_Cell (p0.Cells)) (ha1 : Has K A0_1 (p1.Cells).length c0_1 3 e_api_Cell (p1.Cells)) {r : Bool} (hx : lidarlaw09_ModelParts p0 p1 p2 = some r) (w : World) (hK : ∀ e ∈ K, Ent.ok w e) : CtL Try.prog 15 [.agg #[.int .i64 (p0.Raster.X0), .int .i64 (p0.Raster.Y0), .int .i64 (p0.Raster.Step), .int .i64 (p0.Raster.NX), .int .i64 (p0.Raster.NY), .slice (A0_0) ((p0.Cells).length) (c0_0)], .agg #[.int .i64 (p1.Raster.X0), .int .i64 (p1.Raster.Y0), .int .i64 (p1.Raster.Step), .int .i64 (p1.Raster.NX), .int .i64 (p1.Raster.NY), .slice (A0_1) ((p1.Cells).length) (c0_1)], .int .u8 (p2)] w fun v Ln => v = .bool (r) ∧ Ln = [] ∧ True := by
  have ha0' := Has.up0 ha0
  have ha1' := Has.up0 ha1
  refine CtL.mk 305 Try.func15 rfl Try.ntmps15 (by kernel_rfl) rfl ?_
  show T 305 _ [(0, .agg #[.int .i64 (p0.Raster.X0), .int .i64 (p0.Raster.Y0), .int .i64 (p0.Raster.Step), .int .i64 (p0.Raster.NX), .int .i64 (p0.Raster.NY), .slice (A0_0) ((p0.Cells).length) (c0_0)]), (1, .agg #[.int .i64 (p1.Raster.X0), .int .i64 (p1.Raster.Y0), .int .i64 (p1.Raster.Step), .int .i64 (p1.Raster.NX), .int .i64 (p1.Raster.NY), .slice (A0_1) ((p1.Cells).length) (c0_1)]), (2, .int .u8 (p2))] _
  unfold lidarlaw09_ModelParts at hx
  refine T_seq ?_
  refine T_reg ?_
  refine T_x (Wx_box rfl rfl rfl (fun g1 => ?_))
  refine T_x (Wx_box rfl rfl rfl (fun g2 => ?_))
  refine T_val (Ev_assign rfl) rfl ?_
  refine T_nil ?_
  refine T_next ?_
  refine T_seq ?_
  obtain ⟨j3, hj3, hx⟩ := jn_some hx
  refine T_cutP (τ := Bool) (γ := Unit) (J := j3) (out := r) (fun s3 y3 => [(2, .int .u8 (p2)), (3, .pointer (some ⟨g1, 0, none⟩)), (4, .pointer (some ⟨g2, 0, none⟩)), (30, .bool (s3))]) (fun s3 y3 => [.m g2 26 [.int .i64 (p1.Raster.X0), .int .i64 (p1.Raster.Y0), .int .i64 (p1.Raster.Step), .int .i64 (p1.Raster.NX), .int .i64 (p1.Raster.NY), .slice (A0_1) ((p1.Cells).length) (c0_1)], .m g1 26 [.int .i64 (p0.Raster.X0), .int .i64 (p0.Raster.Y0), .int .i64 (p0.Raster.Step), .int .i64 (p0.Raster.NX), .int .i64 (p0.Raster.NY), .slice (A0_0) ((p0.Cells).length) (c0_0)]] ++ [.old w]) (fun s3 y3 => True) ?_ ?_
  · intro s3 y3 hx12 hG13
    subst hj3
    refine T_caseB (s := 30) rfl (fun h14 => ?_) (fun h14 => ?_)
    · have hx15 := ite_t h14 hx12
      refine T_condT rfl ?_
      refine T_seq ?_
      refine T_reg ?_
      obtain ⟨r16, h17, hx18⟩ := bnd_some hx15
      refine T_x (Wx_callL rfl (fun w1 hw1 => lidarlaw09_first_ok  h17 w1) rfl ?_)
      rintro _ _ hlo ⟨rfl, rfl, -⟩
      refine T_app0 ?_
      refine T_val (Ev_assign rfl) rfl ?_
      refine T_nil ?_
      refine T_next ?_
      refine T_retc ?_
      refine T_outR ?_
      obtain rfl := Option.some.inj hx18
      exact T_retP (rs := [.tmp 6]) Try.results15 (.tmp rfl (.nil)) (Ln := []) ⟨rfl, rfl, trivial⟩ (loNil) (by exact .drop 0 rfl (.drop 0 rfl (.refl)))
    · have hx19 := ite_bf h14 hx12
      refine T_condF rfl ?_
      refine T_skip ?_
      refine T_next ?_
      refine T_seq ?_
      refine T_reg ?_
      refine T_val (Ev_loadK rfl (i := 1) rfl rfl agg26) rfl ?_
      refine T_val (Ev_loadK rfl (i := 0) rfl rfl agg26) rfl ?_
      obtain ⟨r20, h21, hx22⟩ := bnd_some hx19
      refine T_x (Wx_callL rfl (fun w1 hw1 => lidarlaw09_alike_ok p0 p1 (Has.len' ha0') (Has.len' ha1') h21 w1 (okApp (K := K) (K2 := []) hK (by exact (SubE.cons2 (i := 2) rfl (SubE.nil))) (by exact (SubE.nil)) hw1)) rfl ?_)
      rintro _ _ hlo ⟨A23, c24, rfl, rfl, hs25, -⟩
      refine T_app1 ?_
      have hs26 := hs25
      refine T_val (Ev_move rfl) rfl ?_
      refine T_val (Ev_extract rfl rfl) rfl ?_
      refine T_val (Ev_extract rfl rfl) rfl ?_
      refine T_x (Wx_alloc zer26 rfl (fun g27 => ?_))
      refine T_x (Wx_alloc zer26 rfl (fun g28 => ?_))
      refine T_h (Wh_store rfl rfl rfl (.there (.here)) (.put (.put (.put (.put (.put (.put (.done))))))) rfl (List.cons_ne_nil _ _) agg26.2 ?_)
      refine T_h (Wh_store rfl rfl rfl (.here) (.put (.put (.put (.put (.put (.put (.done))))))) rfl (List.cons_ne_nil _ _) agg26.2 ?_)
      refine T_nil ?_
      refine T_next ?_
      refine T_seq ?_
      refine T_reg ?_
      refine T_val (Ev_loadK rfl (i := 1) rfl rfl agg26) rfl ?_
      refine T_val (Ev_loadK rfl (i := 0) rfl rfl agg26) rfl ?_
      refine T_rowP (k := 2) rfl (by decide) (fun _ => rfl) (fun hn29 hs30 => ?_)
      obtain ⟨r31, h32, hx33⟩ := bnd_some hx22
      refine T_x (Wx_callL rfl (fun w1 hw1 => model_Compare_ok r20.1 r20.2 (Has.len' (Has.up (L := (K ++ [.r (A23) ((r20.2.Cells).length) (c24) 41 3 ((r20.2.Cells).flatMap e_api_Cell)])) hs26 (SubE.app2 SubE.nil))) (Has.len' (Has.up (L := (K ++ [.r (A23) ((r20.2.Cells).length) (c24) 41 3 ((r20.2.Cells).flatMap e_api_Cell)])) hs30 (SubE.appR2 (SubE.cons2 (i := 0) rfl (SubE.nil))))) h32 w1 (okApp (K := K) (K2 := [.r (A23) ((r20.2.Cells).length) (c24) 41 3 ((r20.2.Cells).flatMap e_api_Cell)]) hK (by exact (SubE.cons2 (i := 5) rfl (SubE.nil))) (by exact (SubE.cons2 (i := 2) rfl (SubE.nil))) hw1)) rfl ?_)
      rintro _ _ hlo ⟨A34, c35, rfl, rfl, -⟩
      refine T_app1 ?_
      refine T_val (Ev_move rfl) rfl ?_
      refine T_val (Ev_extract rfl rfl) rfl ?_
      refine T_val (Ev_extract rfl rfl) rfl ?_
      refine T_val (Ev_assign rfl) rfl ?_
      refine T_val (Ev_assign rfl) rfl ?_
      refine T_nil ?_
      refine T_next ?_
      refine T_seq ?_
      refine T_reg ?_
      refine T_val (Ev_loadK rfl (i := 2) rfl rfl agg26) rfl ?_
      refine T_val (Ev_loadK rfl (i := 1) rfl rfl agg26) rfl ?_
      refine T_rowP (k := 3) rfl (by decide) (fun _ => rfl) (fun hn36 hs37 => ?_)
      obtain ⟨r38, h39, hx40⟩ := bnd_some hx33
      refine T_x (Wx_callL rfl (fun w1 hw1 => model_Regions_ok r20.1 r20.2 1 (Has.len' (Has.up (L := (K ++ [.r (A23) ((r20.2.Cells).length) (c24) 41 3 ((r20.2.Cells).flatMap e_api_Cell)])) hs26 (SubE.app2 SubE.nil))) (Has.len' (Has.up (L := (K ++ [.r (A23) ((r20.2.Cells).length) (c24) 41 3 ((r20.2.Cells).flatMap e_api_Cell)])) hs37 (SubE.appR2 (SubE.cons2 (i := 0) rfl (SubE.nil))))) h39 w1 (okApp (K := K) (K2 := [.r (A23) ((r20.2.Cells).length) (c24) 41 3 ((r20.2.Cells).flatMap e_api_Cell)]) hK (by exact (SubE.cons2 (i := 6) rfl (SubE.nil))) (by exact (SubE.cons2 (i := 3) rfl (SubE.nil))) hw1)) rfl ?_)
      rintro _ _ hlo ⟨A41, c42, e43, e44, e45, rfl, rfl, hs46, -⟩
      have lo47 := hlo e43 (by simp)
      have lo48 := hlo e44 (by simp)
      have lo49 := hlo e45 (by simp)
      refine T_app3 ?_
      have hs50 : HasN (K ++ [.r (A23) ((r20.2.Cells).length) (c24) 41 3 ((r20.2.Cells).flatMap e_api_Cell), e43, e44, e45]) _ _ _ _ _ _ := HasN.assoc hs46
      refine T_val (Ev_move rfl) rfl ?_
      refine T_val (Ev_extract rfl rfl) rfl ?_
      refine T_val (Ev_extract rfl rfl) rfl ?_
      refine T_val (Ev_assign rfl) rfl ?_
      refine T_val (Ev_assign rfl) rfl ?_
      refine T_nil ?_
      refine T_next ?_
      refine T_seq ?_
      obtain ⟨j9, hj9, hx40⟩ := jn_some hx40
      refine T_cutP (τ := Bool) (γ := Unit) (J := j9) (out := r) (fun s9 y9 => [(2, .int .u8 (p2)), (7, .pointer (some ⟨g27, 0, none⟩)), (8, .pointer (some ⟨g28, 0, none⟩)), (9, .slice (A34) ((r31.1).length) (c35)), (11, .slice (A41) ((r38.1).length) (c42)), (63, .bool (s9))]) (fun s9 y9 => [e43, e44, e45, .r (A34) ((r31.1).length) (c35) 3 1 ((r31.1).flatMap e_i64), .m g28 26 [.int .i64 (r20.2.Raster.X0), .int .i64 (r20.2.Raster.Y0), .int .i64 (r20.2.Raster.Step), .int .i64 (r20.2.Raster.NX), .int .i64 (r20.2.Raster.NY), .slice (A23) ((r20.2.Cells).length) (c24)], .m g27 26 [.int .i64 (r20.1.Raster.X0), .int .i64 (r20.1.Raster.Y0), .int .i64 (r20.1.Raster.Step), .int .i64 (r20.1.Raster.NX), .int .i64 (r20.1.Raster.NY), .slice (A0_0) ((r20.1.Cells).length) (c0_0)], .r (A23) ((r20.2.Cells).length) (c24) 41 3 ((r20.2.Cells).flatMap e_api_Cell)] ++ [.old w]) (fun s9 y9 => True) ?_ ?_
      · intro s9 y9 hx57 hG58
        subst hj9
        refine T_caseB (s := 63) rfl (fun h59 => ?_) (fun h59 => ?_)
        · have hx60 := ite_t h59 hx57
          refine T_condT rfl ?_
          refine T_seq ?_
          refine T_reg ?_
          refine T_val (Ev_assign rfl) rfl ?_
          refine T_nil ?_
          refine T_next ?_
          refine T_retc ?_
          refine T_outR ?_
          obtain rfl := Option.some.inj hx60
          exact T_retP (rs := [.tmp 6]) Try.results15 (.tmp rfl (.nil)) (Ln := []) ⟨rfl, rfl, trivial⟩ (loNil) (by exact .drop 0 rfl (.drop 0 rfl (.drop 0 rfl (.drop 0 rfl (.drop 0 rfl (.drop 0 rfl (.drop 0 rfl (.refl))))))))
        · have hx61 := ite_bf h59 hx57
          refine T_condF rfl ?_
          refine T_skip ?_
          refine T_next ?_
          refine T_seq ?_
          refine T_reg ?_
          refine T_val (Ev_move rfl) rfl ?_
          refine T_val (Ev_len rfl 3 Try.underlying27) rfl ?_
          obtain ⟨h63, hx64⟩ := gd_some hx61
          refine T_x (Wx_makeP e_i64 (0) (z := .int .i64 (0)) rfl rfl rfl h63.1 Try.underlying27 (show Try.prog.info? 3 = some Try.t3 from by kernel_rfl) (by kernel_rfl) rfl rfl (by kernel_rfl) (show 8 * _ ≤ _ from h63.2) (by decide) rfl (fun A62 => ?_))
          refine T_val (Ev_assign rfl) rfl ?_
          refine T_nil ?_
          refine T_next ?_
          obtain ⟨j12, hj12, hx64⟩ := jn_some hx64
          refine T_cutP (τ := List Int) (γ := (Option Addr) × Nat) (J := j12) (out := r) (fun s12 y12 => [(2, .int .u8 (p2)), (7, .pointer (some ⟨g27, 0, none⟩)), (8, .pointer (some ⟨g28, 0, none⟩)), (9, .slice (A34) ((r31.1).length) (c35)), (11, .slice (A41) ((r38.1).length) (c42)), (13, .slice (y12.1) ((s12).length) (y12.2))]) (fun s12 y12 => [.r (y12.1) ((s12).length) (y12.2) 3 1 ((s12).flatMap e_i64), e43, e44, e45, .r (A34) ((r31.1).length) (c35) 3 1 ((r31.1).flatMap e_i64), .m g28 26 [.int .i64 (r20.2.Raster.X0), .int .i64 (r20.2.Raster.Y0), .int .i64 (r20.2.Raster.Step), .int .i64 (r20.2.Raster.NX), .int .i64 (r20.2.Raster.NY), .slice (A23) ((r20.2.Cells).length) (c24)], .m g27 26 [.int .i64 (r20.1.Raster.X0), .int .i64 (r20.1.Raster.Y0), .int .i64 (r20.1.Raster.Step), .int .i64 (r20.1.Raster.NX), .int .i64 (r20.1.Raster.NY), .slice (A0_0) ((r20.1.Cells).length) (c0_0)], .r (A23) ((r20.2.Cells).length) (c24) 41 3 ((r20.2.Cells).flatMap e_api_Cell)] ++ [.old w]) (fun s12 y12 => True) ?_ ?_
          · intro s12 y12 hx845 hG846
            subst hj12
            obtain ⟨j50, hj50, hx845⟩ := jn_some hx845
            refine T_cutP (τ := Unit) (γ := Unit) (J := j50) (out := r) (fun s50 y50 => [(2, .int .u8 (p2)), (7, .pointer (some ⟨g27, 0, none⟩)), (8, .pointer (some ⟨g28, 0, none⟩)), (11, .slice (A41) ((r38.1).length) (c42))]) (fun s50 y50 => [e43, e44, e45, .m g28 26 [.int .i64 (r20.2.Raster.X0), .int .i64 (r20.2.Raster.Y0), .int .i64 (r20.2.Raster.Step), .int .i64 (r20.2.Raster.NX), .int .i64 (r20.2.Raster.NY), .slice (A23) ((r20.2.Cells).length) (c24)], .m g27 26 [.int .i64 (r20.1.Raster.X0), .int .i64 (r20.1.Raster.Y0), .int .i64 (r20.1.Raster.Step), .int .i64 (r20.1.Raster.NX), .int .i64 (r20.1.Raster.NY), .slice (A0_0) ((r20.1.Cells).length) (c0_0)], .r (A23) ((r20.2.Cells).length) (c24) 41 3 ((r20.2.Cells).flatMap e_api_Cell)] ++ [.old w]) (fun s50 y50 => True) ?_ ?_
            · intro s50 y50 hx1487 hG1488
              subst hj50
              refine T_seq ?_
              refine T_reg ?_
              refine T_val (Ev_move rfl) rfl ?_
              refine T_val (Ev_conv_w64 rfl (by kernel_rfl) Try.underlying3) rfl ?_
              refine T_val (Ev_rem rfl rfl (by decide)) rfl ?_
              refine T_val (Ev_add_w64 rfl rfl) rfl ?_
              refine T_val (Ev_assign rfl) rfl ?_
              refine T_nil ?_
              refine T_next ?_
              refine T_seq ?_
              refine T_reg ?_
              refine T_val (Ev_loadK rfl (i := 4) rfl rfl agg26) rfl ?_
              refine T_val (Ev_loadK rfl (i := 3) rfl rfl agg26) rfl ?_
              refine T_val (Ev_move rfl) rfl ?_
              refine T_rowP (k := 5) rfl (by decide) (fun _ => rfl) (fun hn1489 hs1490 => ?_)
              obtain ⟨r1491, h1492, hx1493⟩ := bnd_some hx1487
              refine T_x (Wx_callL rfl (fun w1 hw1 => model_Regions_ok r20.1 r20.2 (w64 (1 + (Int.tmod (w64 (p2)) 20))) (Has.len' (Has.up (L := (K ++ [.r (A23) ((r20.2.Cells).length) (c24) 41 3 ((r20.2.Cells).flatMap e_api_Cell)])) hs26 (SubE.app2 SubE.nil))) (Has.len' (Has.up (L := (K ++ [.r (A23) ((r20.2.Cells).length) (c24) 41 3 ((r20.2.Cells).flatMap e_api_Cell)])) hs1490 (SubE.appR2 (SubE.cons2 (i := 0) rfl (SubE.nil))))) h1492 w1 (okApp (K := K) (K2 := [.r (A23) ((r20.2.Cells).length) (c24) 41 3 ((r20.2.Cells).flatMap e_api_Cell)]) hK (by exact (SubE.cons2 (i := 6) rfl (SubE.nil))) (by exact (SubE.cons2 (i := 5) rfl (SubE.nil))) hw1)) rfl ?_)
              rintro _ _ hlo ⟨A1494, c1495, e1496, e1497, e1498, rfl, rfl, hs1499, -⟩
              have lo1500 := hlo e1496 (by simp)
              have lo1501 := hlo e1497 (by simp)
              have lo1502 := hlo e1498 (by simp)
              refine T_app3 ?_
              have hs1503 : HasN (K ++ [.r (A23) ((r20.2.Cells).length) (c24) 41 3 ((r20.2.Cells).flatMap e_api_Cell), e1496, e1497, e1498]) _ _ _ _ _ _ := HasN.assoc hs1499
              refine T_val (Ev_move rfl) rfl ?_
              refine T_val (Ev_extract rfl rfl) rfl ?_
              refine T_val (Ev_extract rfl rfl) rfl ?_
              refine T_val (Ev_assign rfl) rfl ?_
              refine T_val (Ev_assign rfl) rfl ?_
              refine T_nil ?_
              refine T_next ?_
              refine T_seq ?_
              refine T_seq ?_
              refine T_reg ?_
              refine T_val (Ev_move rfl) rfl ?_
              refine T_val (Ev_neq rfl rfl) rfl ?_
              refine T_nil ?_
              refine T_next ?_
              refine T_caseNP (s := 250) rfl (fun h1504 => ?_) (fun h1504 => ?_)
              · have hx1505 := ite_f h1504 hx1493
                refine T_condT rfl ?_
                refine T_seq ?_
                refine T_reg ?_
                refine T_val (Ev_assign rfl) rfl ?_
                refine T_nil ?_
                refine T_next ?_
                refine T_retc ?_
                refine T_outR ?_
                obtain rfl := Option.some.inj hx1505
                exact T_retP (rs := [.tmp 6]) Try.results15 (.tmp rfl (.nil)) (Ln := []) ⟨rfl, rfl, trivial⟩ (loNil) (by exact .drop 0 rfl (.drop 0 rfl (.drop 0 rfl (.drop 0 rfl (.drop 0 rfl (.drop 0 rfl (.drop 0 rfl (.drop 0 rfl (.drop 0 rfl (.refl))))))))))
              · have hx1506 := ite_t h1504 hx1493
                refine T_condF rfl ?_
                refine T_skip ?_
                refine T_next ?_
                refine T_seq ?_
                refine T_reg ?_
                refine T_val (Ev_assign rfl) rfl ?_
                refine T_nil ?_
                refine T_next ?_
                obtain ⟨j76, hj76, hx1506⟩ := jn_some hx1506
                refine T_cutP (τ := Int) (γ := Unit) (J := j76) (out := r) (fun s76 y76 => [(20, .slice (A1494) ((r1491.1).length) (c1495)), (21, .int .i64 (s76))]) (fun s76 y76 => [e1496, e1497, e1498, .r (A23) ((r20.2.Cells).length) (c24) 41 3 ((r20.2.Cells).flatMap e_api_Cell)] ++ [.old w]) (fun s76 y76 => True) ?_ ?_
                · intro s76 y76 hx1833 hG1834
                  subst hj76
                  obtain ⟨j94, hj94, hx1833⟩ := jn_some hx1833
                  refine T_cutP (τ := Bool) (γ := Unit) (J := j94) (out := r) (fun s94 y94 => [(6, .bool (s94))]) (fun s94 y94 => [] ++ [.old w]) (fun s94 y94 => True) ?_ ?_
                  · intro s94 y94 hx1841 hG1842
                    subst hj94
                    refine T_retc ?_
                    obtain rfl := Option.some.inj hx1841
                    exact T_retP (rs := [.tmp 6]) Try.results15 (.tmp rfl (.nil)) (Ln := []) ⟨rfl, rfl, trivial⟩ (loNil) (by exact .refl)
                  · skip
                    refine T_reg ?_
                    refine T_val (Ev_move rfl) rfl ?_
                    refine T_val (Ev_move rfl) rfl ?_
                    refine T_val (Ev_len rfl 95 Try.underlying88) rfl ?_
                    refine T_val (Ev_eql rfl rfl) rfl ?_
                    refine T_val (Ev_move rfl) rfl ?_
                    refine T_caseP (s := 302) rfl (fun h1835 => ?_) (fun h1835 => ?_)
                    · have hx1836 := ite_t h1835 hx1833
                      obtain ⟨r1837, h1838, hx1839⟩ := bnd_some hx1836
                      refine T_xG rfl rfl rfl (Wx_callL rfl (fun w1 hw1 => lidarlaw09_first_ok  h1838 w1) rfl ?_)
                      rintro _ _ hlo ⟨rfl, rfl, -⟩
                      refine T_app0 ?_
                      refine T_val (Ev_pickT rfl rfl) rfl ?_
                      refine T_val (Ev_assign rfl) rfl ?_
                      refine T_nil ?_
                      exact T_metP r1837 () hx1839 trivial (by exact .cons rfl (.nil)) (by exact .drop 0 rfl (.drop 0 rfl (.drop 0 rfl (.drop 0 rfl (.refl)))))
                    · have hx1840 := ite_f h1835 hx1833
                      refine T_skipG rfl rfl rfl rfl rfl ?_
                      refine T_val (Ev_pickF rfl rfl) rfl ?_
                      refine T_val (Ev_assign rfl) rfl ?_
                      refine T_nil ?_
                      exact T_metP false () hx1840 trivial (by exact .cons rfl (.nil)) (by exact .drop 0 rfl (.drop 0 rfl (.drop 0 rfl (.drop 0 rfl (.refl)))))
                · skip
                  refine T_seq ?_
                  refine T_reg ?_
                  refine T_val (Ev_assign rfl) rfl ?_
                  refine T_nil ?_
                  refine T_next ?_
                  refine T_block ?_
                  obtain ⟨t1670, hl1670, ho1670⟩ := bnd_some hx1506
                  refine T_loopP (σ := Int × Int) (γ := Unit) hl1670 (fun s1670 y1670 => [(11, .slice (A41) ((r38.1).length) (c42)), (19, .int .i64 (w64 (1 + (Int.tmod (w64 (p2)) 20)))), (20, .slice (A1494) ((r1491.1).length) (c1495)), (21, .int .i64 (s1670.1)), (22, .int .i64 (s1670.2))]) (fun s1670 y1670 => [e1496, e1497, e1498, e43, e44, e45, .r (A23) ((r20.2.Cells).length) (c24) 41 3 ((r20.2.Cells).flatMap e_api_Cell)] ++ [.old w]) (fun s1670 y1670 => True) () trivial (by exact .cons rfl (.cons rfl (.cons rfl (.cons rfl (.cons rfl (.nil)))))) (by exact .pick 0 rfl (.pick 0 rfl (.pick 0 rfl (.pick 0 rfl (.pick 0 rfl (.pick 0 rfl (.pick 2 rfl (.drop 0 rfl (.drop 0 rfl (.refl)))))))))) ?_
                  intro s1670 y1670 hG1670 x1670 hx1670 ht1670
                  unfold lidarlaw09_ModelParts_l33 at hx1670
                  refine T_seq ?_
                  refine T_seq ?_
                  refine T_reg ?_
                  refine T_val (Ev_move rfl) rfl ?_
                  refine T_val (Ev_move rfl) rfl ?_
                  refine T_val (Ev_len rfl 95 Try.underlying88) rfl ?_
                  refine T_val (Ev_lss rfl rfl) rfl ?_
                  refine T_nil ?_
                  refine T_next ?_
                  refine T_caseP (s := 254) rfl (fun h1671 => ?_) (fun h1671 => ?_)
                  · have hx1672 := ite_t h1671 hx1670
                    refine T_condT rfl ?_
                    refine T_skip ?_
                    refine T_next ?_
                    obtain ⟨j88, hj88, hx1672⟩ := jn_some hx1672
                    refine T_cutP (τ := Int) (γ := Unit) (J := j88) (out := x1670) (fun s88 y88 => [(11, .slice (A41) ((r38.1).length) (c42)), (19, .int .i64 (w64 (1 + (Int.tmod (w64 (p2)) 20)))), (20, .slice (A1494) ((r1491.1).length) (c1495)), (21, .int .i64 (s88)), (22, .int .i64 (s1670.2))]) (fun s88 y88 => [e1496, e1497, e1498, e43, e44, e45, .r (A23) ((r20.2.Cells).length) (c24) 41 3 ((r20.2.Cells).flatMap e_api_Cell)] ++ [.old w]) (fun s88 y88 => True) ?_ ?_
                    · intro s88 y88 hx1831 hG1832
                      subst hj88
                      refine T_reg ?_
                      refine T_val (Ev_move rfl) rfl ?_
                      refine T_val (Ev_add_w64 rfl rfl) rfl ?_
                      refine T_val (Ev_assign rfl) rfl ?_
                      refine T_nil ?_
                      exact T_roundP (s88, w64 (s1670.2 + 1)) () hx1831 trivial (by exact .cons rfl (.cons rfl (.cons rfl (.cons rfl (.cons rfl (.nil)))))) (by exact .pick 0 rfl (.pick 0 rfl (.pick 0 rfl (.pick 0 rfl (.pick 0 rfl (.pick 0 rfl (.pick 0 rfl (.refl))))))))
                    · skip
                      refine T_block ?_
                      refine T_seq ?_
                      refine T_seq ?_
                      refine T_reg ?_
                      refine T_val (Ev_move rfl) rfl ?_
                      refine T_val (Ev_move rfl) rfl ?_
                      obtain ⟨x1674, h1675, hx1676⟩ := bnd_some hx1672
                      obtain ⟨b1677, o1678, j1679, ys1699, hA1680, hj1681, hl1682, hp1683, hr1700⟩ := HasN.at_idx hs50 h1675
                      obtain ⟨A1684, c1685, A1687, c1688, A1690, c1691, A1693, c1694, A1696, c1697, rfl, hs1686, hs1689, hs1692, hs1695, hs1698⟩ := hr1700
                      have hp1701 := Pt.low (E := [.r (A23) ((r20.2.Cells).length) (c24) 41 3 ((r20.2.Cells).flatMap e_api_Cell), e43, e44, e45]) hp1683 hK
                      refine T_val (Ev_index rfl rfl hA1680 (j := j1679) hj1681 hl1682 slc88) rfl ?_
                      refine T_val (Ev_field rfl fld95_1 rfl) rfl ?_
                      refine T_val (Ev_loadP1 (d := 1) rfl hp1701 (SubE.cons2 (i := 7) rfl (SubE.cons2 (i := 6) rfl (SubE.cons2 (i := 3) rfl (SubE.cons2 (i := 4) rfl (SubE.cons2 (i := 5) rfl (SubE.nil)))))) rfl one27) rfl ?_
                      refine T_val (Ev_len rfl 3 Try.underlying27) rfl ?_
                      refine T_val (Ev_move rfl) rfl ?_
                      refine T_val (Ev_lss rfl rfl) rfl ?_
                      refine T_nil ?_
                      refine T_next ?_
                      refine T_caseP (s := 264) rfl (fun h1702 => ?_) (fun h1702 => ?_)
                      · have hx1703 := ite_t h1702 hx1676
                        refine T_condT rfl ?_
                        refine T_exit ?_
                        refine T_outX ?_
                        refine T_here ?_
                        exact T_metP s1670.1 () hx1703 trivial (by exact .cons rfl (.cons rfl (.cons rfl (.cons rfl (.cons rfl (.nil)))))) (by exact .pick 0 rfl (.pick 0 rfl (.pick 0 rfl (.pick 0 rfl (.pick 0 rfl (.pick 0 rfl (.pick 0 rfl (.refl))))))))
                      · have hx1704 := ite_f h1702 hx1676
                        refine T_condF rfl ?_
                        refine T_skip ?_
                        refine T_next ?_
                        refine T_seq ?_
                        obtain ⟨j92, hj92, hx1704⟩ := jn_some hx1704
                        refine T_cutP (τ := Bool) (γ := Unit) (J := j92) (out := x1670) (fun s92 y92 => [(11, .slice (A41) ((r38.1).length) (c42)), (19, .int .i64 (w64 (1 + (Int.tmod (w64 (p2)) 20)))), (20, .slice (A1494) ((r1491.1).length) (c1495)), (21, .int .i64 (s1670.1)), (22, .int .i64 (s1670.2)), (295, .bool (s92))]) (fun s92 y92 => [e1496, e1497, e1498, e43, e44, e45, .r (A23) ((r20.2.Cells).length) (c24) 41 3 ((r20.2.Cells).flatMap e_api_Cell)] ++ [.old w]) (fun s92 y92 => True) ?_ ?_
                        · intro s92 y92 hx1826 hG1827
                          subst hj92
                          refine T_caseB (s := 295) rfl (fun h1828 => ?_) (fun h1828 => ?_)
                          · have hx1829 := ite_t h1828 hx1826
                            refine T_condT rfl ?_
                            refine T_seq ?_
                            refine T_reg ?_
                            refine T_val (Ev_assign rfl) rfl ?_
                            refine T_nil ?_
                            refine T_next ?_
                            refine T_retc ?_
                            refine T_outR ?_
                            refine T_inR ?_
                            refine T_outR ?_
                            obtain rfl := exit_eq ht1670 hx1829
                            refine T_outR ?_
                            refine T_inR ?_
                            refine T_outR ?_
                            obtain rfl := Option.some.inj ho1670
                            exact T_retP (rs := [.tmp 6]) Try.results15 (.tmp rfl (.nil)) (Ln := []) ⟨rfl, rfl, trivial⟩ (loNil) (by exact .drop 0 rfl (.drop 0 rfl (.drop 0 rfl (.drop 0 rfl (.drop 0 rfl (.drop 0 rfl (.drop 0 rfl (.refl))))))))
                          · have hx1830 := ite_bf h1828 hx1826
                            refine T_condF rfl ?_
                            refine T_skip ?_
                            refine T_next ?_
                            refine T_reg ?_
                            refine T_val (Ev_move rfl) rfl ?_
                            refine T_val (Ev_add_w64 rfl rfl) rfl ?_
                            refine T_val (Ev_assign rfl) rfl ?_
                            refine T_nil ?_
                            refine T_inN ?_
                            exact T_metP (w64 (s1670.1 + 1)) () hx1830 trivial (by exact .cons rfl (.cons rfl (.cons rfl (.cons rfl (.cons rfl (.nil)))))) (by exact .pick 0 rfl (.pick 0 rfl (.pick 0 rfl (.pick 0 rfl (.pick 0 rfl (.pick 0 rfl (.pick 0 rfl (.refl))))))))
                        · skip
                          refine T_draw [0, 0, 0, 0, 0, 0, 0, 0, 0, 1, 0, 0, 0, 0, 1, 0, 0, 0, 0, 0, 0, 0, 1, 0, 0, 0, 0, 1, 2, 0, 0] [[], [], [1], [0, 1, 2], [0, 1, 2, 3], [0, 1, 2, 3, 4], [0, 1, 2, 3, 4], [0, 1, 2, 3, 4, 5, 6], [0, 1, 2, 3, 4, 5, 6, 7], [0, 1, 2, 3, 4, 5, 6, 7, 8], [0, 1, 2, 3, 4], [0, 1, 2, 3, 4], [0, 1, 2, 3, 4, 10, 11], [0, 1, 2, 3, 4, 10, 11, 12], [0, 1, 2, 3, 4, 10, 11, 12, 13], [0, 1, 2, 3, 4, 5, 6, 7, 8, 9, 10, 11, 12, 13, 14], [0, 1, 2, 3, 4, 5, 6, 7, 8, 9, 10, 11, 12, 13, 14, 15], [0, 1, 2, 3, 4, 5, 6, 7, 8, 9, 10, 11, 12, 13, 14, 15, 16], [0, 1, 2, 3, 4, 5, 6, 7, 8, 9, 10, 11, 12, 13, 14, 15, 16, 17], [0, 1, 2, 3, 4, 5, 6, 7, 8, 9, 10, 11, 12, 13, 14, 15, 16, 17], [0, 1, 2, 3, 4, 5, 6, 7, 8, 9, 10, 11, 12, 13, 14, 15, 16, 17, 18, 19], [0, 1, 2, 3, 4, 5, 6, 7, 8, 9, 10, 11, 12, 13, 14, 15, 16, 17, 18, 19, 20], [0, 1, 2, 3, 4, 5, 6, 7, 8, 9, 10, 11, 12, 13, 14, 15, 16, 17, 18, 19, 20, 21], [0, 1, 2, 3, 4, 5, 6, 7, 8, 9, 10, 11, 12, 13, 14, 15, 16, 17], [0, 1, 2, 3, 4, 5, 6, 7, 8, 9, 10, 11, 12, 13, 14, 15, 16, 17], [0, 1, 2, 3, 4, 5, 6, 7, 8, 9, 10, 11, 12, 13, 14, 15, 16, 17, 23, 24], [0, 1, 2, 3, 4, 5, 6, 7, 8, 9, 10, 11, 12, 13, 14, 15, 16, 17, 23, 24, 25], [0, 1, 2, 3, 4, 5, 6, 7, 8, 9, 10, 11, 12, 13, 14, 15, 16, 17, 23, 24, 25, 26], [0, 1, 2, 3, 4, 5, 6, 7, 8, 9, 10, 11, 12, 13, 14, 15, 16, 17, 18, 19, 20, 21, 22, 23, 24, 25, 26, 27], [0, 1, 2, 3, 4, 5, 6, 7, 8, 9, 10, 11, 12, 13, 14, 15, 16, 17, 18, 19, 20, 21, 22, 23, 24, 25, 26, 27, 28], [0, 1, 2, 3, 4, 5, 6, 7, 8, 9, 10, 11, 12, 13, 14, 15, 16, 17, 18, 19, 20, 21, 22, 23, 24, 25, 26, 27, 28, 29]] (.q 0 (.q 1 (.q 2 (.q 3 (.q 4 (.q 5 (.q 6 (.q 7 (.q 8 (.q 9 (.q 10 (.q 11 (.q 12 (.q 13 (.q 14 (.q 15 (.q 16 (.q 17 (.q 18 (.q 19 (.q 20 (.q 21 (.q 22 (.q 23 (.q 24 (.q 25 (.q 26 (.q 27 (.e 28 (.q 29 (.q 30 (.done))) (.stop)))))))))))))))))))))))))))))) mixed (by kernel_rfl) (by kernel_rfl) ?_
                          refine P_p rfl rfl (Ev_move rfl) rfl ?_
                          refine P_p rfl rfl (Ev_move rfl) rfl ?_
                          refine P_p rfl rfl (Ev_len rfl 95 Try.underlying88) rfl ?_
                          refine P_p rfl rfl (Ev_geq rfl rfl) rfl ?_
                          refine P_p rfl rfl (Ev_move rfl) rfl ?_
                          refine T_caseP (s := 269) rfl (fun h1705 => ?_) (fun h1705 => ?_)
                          · have hx1706 := ite_t h1705 hx1704
                            refine P_skip rfl rfl rfl rfl rfl rfl ?_
                            refine P_skip rfl rfl rfl rfl rfl rfl ?_
                            refine P_skip rfl rfl rfl rfl rfl rfl ?_
                            refine P_skip rfl rfl rfl rfl rfl rfl ?_
                            refine P_skip rfl rfl rfl rfl rfl rfl ?_
                            refine P_skip rfl rfl rfl rfl rfl rfl ?_
                            refine P_skip rfl rfl rfl rfl rfl rfl ?_
                            refine P_skip rfl rfl rfl rfl rfl rfl ?_
                            refine P_skip rfl rfl rfl rfl rfl rfl ?_
                            refine P_skip rfl rfl rfl rfl rfl rfl ?_
                            refine P_skip rfl rfl rfl rfl rfl rfl ?_
                            refine P_p rfl rfl (Ev_pickT rfl rfl) rfl ?_
                            refine P_p rfl rfl (Ev_move rfl) rfl ?_
                            refine P_skip rfl rfl rfl rfl rfl rfl ?_
                            refine P_skip rfl rfl rfl rfl rfl rfl ?_
                            refine P_skip rfl rfl rfl rfl rfl rfl ?_
                            refine P_skip rfl rfl rfl rfl rfl rfl ?_
                            refine P_skip rfl rfl rfl rfl rfl rfl ?_
                            refine P_skip rfl rfl rfl rfl rfl rfl ?_
                            refine P_skip rfl rfl rfl rfl rfl rfl ?_
                            refine P_skip rfl rfl rfl rfl rfl rfl ?_
                            refine P_skip rfl rfl rfl rfl rfl rfl ?_
                            refine P_skip rfl rfl rfl rfl rfl rfl ?_
                            refine P_skipE rfl rfl rfl rfl rfl rfl ?_ ?_
                            rotate_left; exact P_stop
                            refine P_skip rfl rfl rfl rfl rfl rfl ?_
                            refine P_p rfl rfl (Ev_pickT rfl rfl) rfl ?_
                            refine P_done ?_
                            exact T_metP true () hx1706 trivial (by exact .cons rfl (.cons rfl (.cons rfl (.cons rfl (.cons rfl (.cons rfl (.nil))))))) (by exact .pick 0 rfl (.pick 0 rfl (.pick 0 rfl (.pick 0 rfl (.pick 0 rfl (.pick 0 rfl (.pick 0 rfl (.refl))))))))
                          · have hx1707 := ite_f h1705 hx1704
                            refine P_pG rfl rfl rfl rfl rfl (Ev_move rfl) rfl ?_
                            refine P_pG rfl rfl rfl rfl rfl (Ev_move rfl) rfl ?_
                            obtain ⟨x1708, h1709, hx1710⟩ := bnd_some hx1707
                            obtain ⟨b1711, o1712, j1713, ys1733, hA1714, hj1715, hl1716, hp1717, hr1734⟩ := HasN.at_idx hs1503 h1709
                            obtain ⟨A1718, c1719, A1721, c1722, A1724, c1725, A1727, c1728, A1730, c1731, rfl, hs1720, hs1723, hs1726, hs1729, hs1732⟩ := hr1734
                            have hp1735 := Pt.low (E := [.r (A23) ((r20.2.Cells).length) (c24) 41 3 ((r20.2.Cells).flatMap e_api_Cell), e1496, e1497, e1498]) hp1717 hK
                            refine P_pG rfl rfl rfl rfl rfl (Ev_index rfl rfl hA1714 (j := j1713) hj1715 hl1716 slc88) rfl ?_
                            refine P_pG rfl rfl rfl rfl rfl (Ev_field rfl fld95_0 rfl) rfl ?_
                            refine P_qG rfl rfl rfl rfl rfl (Ev_loadP1 (d := 0) rfl hp1735 (SubE.cons2 (i := 7) rfl (SubE.cons2 (i := 6) rfl (SubE.cons2 (i := 0) rfl (SubE.cons2 (i := 1) rfl (SubE.cons2 (i := 2) rfl (SubE.nil)))))) rfl one3) rfl ?_
                            refine P_pG rfl rfl rfl rfl rfl (Ev_move rfl) rfl ?_
                            refine P_pG rfl rfl rfl rfl rfl (Ev_move rfl) rfl ?_
                            obtain ⟨x1736, h1737, hx1738⟩ := bnd_some hx1710
                            obtain ⟨b1739, o1740, j1741, ys1761, hA1742, hj1743, hl1744, hp1745, hr1762⟩ := HasN.at_idx hs50 h1737
                            obtain ⟨A1746, c1747, A1749, c1750, A1752, c1753, A1755, c1756, A1758, c1759, rfl, hs1748, hs1751, hs1754, hs1757, hs1760⟩ := hr1762
                            have hp1763 := Pt.low (E := [.r (A23) ((r20.2.Cells).length) (c24) 41 3 ((r20.2.Cells).flatMap e_api_Cell), e43, e44, e45]) hp1745 hK
                            refine P_pG rfl rfl rfl rfl rfl (Ev_index rfl rfl hA1742 (j := j1741) hj1743 hl1744 slc88) rfl ?_
                            refine P_pG rfl rfl rfl rfl rfl (Ev_field rfl fld95_0 rfl) rfl ?_
                            refine P_qG rfl rfl rfl rfl rfl (Ev_loadP1 (d := 0) rfl hp1763 (SubE.cons2 (i := 7) rfl (SubE.cons2 (i := 6) rfl (SubE.cons2 (i := 3) rfl (SubE.cons2 (i := 4) rfl (SubE.cons2 (i := 5) rfl (SubE.nil)))))) rfl one3) rfl ?_
                            refine P_pG rfl rfl rfl rfl rfl (Ev_neq rfl rfl) rfl ?_
                            refine P_p rfl rfl (Ev_pickF rfl rfl) rfl ?_
                            refine P_p rfl rfl (Ev_move rfl) rfl ?_
                            refine T_caseNP (s := 282) rfl (fun h1764 => ?_) (fun h1764 => ?_)
                            · have hx1765 := ite_f h1764 hx1738
                              refine P_skip rfl rfl rfl rfl rfl rfl ?_
                              refine P_skip rfl rfl rfl rfl rfl rfl ?_
                              refine P_skip rfl rfl rfl rfl rfl rfl ?_
                              refine P_skip rfl rfl rfl rfl rfl rfl ?_
                              refine P_skip rfl rfl rfl rfl rfl rfl ?_
                              refine P_skip rfl rfl rfl rfl rfl rfl ?_
                              refine P_skip rfl rfl rfl rfl rfl rfl ?_
                              refine P_skip rfl rfl rfl rfl rfl rfl ?_
                              refine P_skip rfl rfl rfl rfl rfl rfl ?_
                              refine P_skip rfl rfl rfl rfl rfl rfl ?_
                              refine P_skipE rfl rfl rfl rfl rfl rfl ?_ ?_
                              rotate_left; exact P_stop
                              refine P_skip rfl rfl rfl rfl rfl rfl ?_
                              refine P_p rfl rfl (Ev_pickT rfl rfl) rfl ?_
                              refine P_done ?_
                              exact T_metP true () hx1765 trivial (by exact .cons rfl (.cons rfl (.cons rfl (.cons rfl (.cons rfl (.cons rfl (.nil))))))) (by exact .pick 0 rfl (.pick 0 rfl (.pick 0 rfl (.pick 0 rfl (.pick 0 rfl (.pick 0 rfl (.pick 0 rfl (.refl))))))))
                            · have hx1766 := ite_t h1764 hx1738
                              refine P_pG rfl rfl rfl rfl rfl (Ev_move rfl) rfl ?_
                              refine P_pG rfl rfl rfl rfl rfl (Ev_move rfl) rfl ?_
                              obtain ⟨x1767, h1768, hx1769⟩ := bnd_some hx1766
                              obtain ⟨b1770, o1771, j1772, ys1792, hA1773, hj1774, hl1775, hp1776, hr1793⟩ := HasN.at_idx hs1503 h1768
                              obtain ⟨A1777, c1778, A1780, c1781, A1783, c1784, A1786, c1787, A1789, c1790, rfl, hs1779, hs1782, hs1785, hs1788, hs1791⟩ := hr1793
                              have hp1794 := Pt.low (E := [.r (A23) ((r20.2.Cells).length) (c24) 41 3 ((r20.2.Cells).flatMap e_api_Cell), e1496, e1497, e1498]) hp1776 hK
                              refine P_pG rfl rfl rfl rfl rfl (Ev_index rfl rfl hA1773 (j := j1772) hj1774 hl1775 slc88) rfl ?_
                              refine P_pG rfl rfl rfl rfl rfl (Ev_field rfl fld95_1 rfl) rfl ?_
                              refine P_qG rfl rfl rfl rfl rfl (Ev_loadP1 (d := 1) rfl hp1794 (SubE.cons2 (i := 7) rfl (SubE.cons2 (i := 6) rfl (SubE.cons2 (i := 0) rfl (SubE.cons2 (i := 1) rfl (SubE.cons2 (i := 2) rfl (SubE.nil)))))) rfl one27) rfl ?_
                              refine P_pG rfl rfl rfl rfl rfl (Ev_move rfl) rfl ?_
                              refine P_pG rfl rfl rfl rfl rfl (Ev_move rfl) rfl ?_
                              obtain ⟨x1795, h1796, hx1797⟩ := bnd_some hx1769
                              obtain ⟨b1798, o1799, j1800, ys1820, hA1801, hj1802, hl1803, hp1804, hr1821⟩ := HasN.at_idx hs50 h1796
                              obtain ⟨A1805, c1806, A1808, c1809, A1811, c1812, A1814, c1815, A1817, c1818, rfl, hs1807, hs1810, hs1813, hs1816, hs1819⟩ := hr1821
                              have hp1822 := Pt.low (E := [.r (A23) ((r20.2.Cells).length) (c24) 41 3 ((r20.2.Cells).flatMap e_api_Cell), e43, e44, e45]) hp1804 hK
                              refine P_pG rfl rfl rfl rfl rfl (Ev_index rfl rfl hA1801 (j := j1800) hj1802 hl1803 slc88) rfl ?_
                              refine P_pG rfl rfl rfl rfl rfl (Ev_field rfl fld95_1 rfl) rfl ?_
                              refine P_qG rfl rfl rfl rfl rfl (Ev_loadP1 (d := 1) rfl hp1822 (SubE.cons2 (i := 7) rfl (SubE.cons2 (i := 6) rfl (SubE.cons2 (i := 3) rfl (SubE.cons2 (i := 4) rfl (SubE.cons2 (i := 5) rfl (SubE.nil)))))) rfl one27) rfl ?_
                              obtain ⟨r1823, h1824, hx1825⟩ := bnd_some hx1797
                              refine P_xG rfl rfl rfl rfl (Wx_callL rfl (fun w1 hw1 => lidarlaw09_sameInts_ok x1767.Nodes x1795.Nodes (Has.len' (Has.up (L := (K ++ [.r (A23) ((r20.2.Cells).length) (c24) 41 3 ((r20.2.Cells).flatMap e_api_Cell), e1496, e1497, e1498, e43, e44, e45])) hs1779 (SubE.app2 (SubE.cons2 (i := 0) rfl (SubE.cons2 (i := 1) rfl (SubE.cons2 (i := 2) rfl (SubE.cons2 (i := 3) rfl (SubE.nil)))))))) (Has.len' (Has.up (L := (K ++ [.r (A23) ((r20.2.Cells).length) (c24) 41 3 ((r20.2.Cells).flatMap e_api_Cell), e1496, e1497, e1498, e43, e44, e45])) hs1807 (SubE.app2 (SubE.cons2 (i := 0) rfl (SubE.cons2 (i := 4) rfl (SubE.cons2 (i := 5) rfl (SubE.cons2 (i := 6) rfl (SubE.nil)))))))) h1824 w1 (okApp (K := K) (K2 := [.r (A23) ((r20.2.Cells).length) (c24) 41 3 ((r20.2.Cells).flatMap e_api_Cell), e1496, e1497, e1498, e43, e44, e45]) hK (by exact (SubE.cons2 (i := 7) rfl (SubE.nil))) (by exact (SubE.cons2 (i := 6) rfl (SubE.cons2 (i := 0) rfl (SubE.cons2 (i := 1) rfl (SubE.cons2 (i := 2) rfl (SubE.cons2 (i := 3) rfl (SubE.cons2 (i := 4) rfl (SubE.cons2 (i := 5) rfl (SubE.nil))))))))) hw1)) rfl ?_) ?_
                              rotate_left; exact P_stop
                              rintro _ _ hlo ⟨rfl, rfl, -⟩
                              refine T_app0 ?_
                              refine P_pG rfl rfl rfl rfl rfl (Ev_not rfl) rfl ?_
                              refine P_p rfl rfl (Ev_pickF rfl rfl) rfl ?_
                              refine P_done ?_
                              exact T_metP (!(r1823)) () hx1825 trivial (by exact .cons rfl (.cons rfl (.cons rfl (.cons rfl (.cons rfl (.cons rfl (.nil))))))) (by exact .pick 0 rfl (.pick 0 rfl (.pick 0 rfl (.pick 0 rfl (.pick 0 rfl (.pick 0 rfl (.pick 0 rfl (.refl))))))))
                  · have hx1673 := ite_f h1671 hx1670
                    refine T_condF rfl ?_
                    refine T_exit ?_
                    refine T_outX ?_
                    obtain rfl := exit_eq ht1670 hx1673
                    refine T_outX ?_
                    refine T_here ?_
                    exact T_metP s1670.1 () ho1670 trivial (by exact .cons rfl (.cons rfl (.nil))) (by exact .pick 0 rfl (.pick 0 rfl (.pick 0 rfl (.pick 3 rfl (.drop 0 rfl (.drop 0 rfl (.drop 0 rfl (.refl))))))))
            · skip
              refine T_seq ?_
              refine T_reg ?_
              refine T_val (Ev_assign rfl) rfl ?_
              refine T_nil ?_
              refine T_next ?_
              refine T_block ?_
              obtain ⟨t1167, hl1167, ho1167⟩ := bnd_some hx845
              refine T_loopP (σ := Int) (γ := Unit) hl1167 (fun s1167 y1167 => [(2, .int .u8 (p2)), (7, .pointer (some ⟨g27, 0, none⟩)), (8, .pointer (some ⟨g28, 0, none⟩)), (9, .slice (A34) ((r31.1).length) (c35)), (11, .slice (A41) ((r38.1).length) (c42)), (13, .slice (y12.1) ((s12).length) (y12.2)), (17, .int .i64 (s1167))]) (fun s1167 y1167 => [.r (y12.1) ((s12).length) (y12.2) 3 1 ((s12).flatMap e_i64), e43, e44, e45, .r (A34) ((r31.1).length) (c35) 3 1 ((r31.1).flatMap e_i64), .m g28 26 [.int .i64 (r20.2.Raster.X0), .int .i64 (r20.2.Raster.Y0), .int .i64 (r20.2.Raster.Step), .int .i64 (r20.2.Raster.NX), .int .i64 (r20.2.Raster.NY), .slice (A23) ((r20.2.Cells).length) (c24)], .m g27 26 [.int .i64 (r20.1.Raster.X0), .int .i64 (r20.1.Raster.Y0), .int .i64 (r20.1.Raster.Step), .int .i64 (r20.1.Raster.NX), .int .i64 (r20.1.Raster.NY), .slice (A0_0) ((r20.1.Cells).length) (c0_0)], .r (A23) ((r20.2.Cells).length) (c24) 41 3 ((r20.2.Cells).flatMap e_api_Cell)] ++ [.old w]) (fun s1167 y1167 => True) () trivial (by exact .cons rfl (.cons rfl (.cons rfl (.cons rfl (.cons rfl (.cons rfl (.cons rfl (.nil)))))))) (by exact .pick 0 rfl (.pick 0 rfl (.pick 0 rfl (.pick 0 rfl (.pick 0 rfl (.pick 0 rfl (.pick 0 rfl (.pick 0 rfl (.refl))))))))) ?_
              intro s1167 y1167 hG1167 x1167 hx1167 ht1167
              unfold lidarlaw09_ModelParts_l20 at hx1167
              refine T_seq ?_
              refine T_seq ?_
              refine T_reg ?_
              refine T_val (Ev_move rfl) rfl ?_
              refine T_val (Ev_move rfl) rfl ?_
              refine T_val (Ev_len rfl 3 Try.underlying27) rfl ?_
              refine T_val (Ev_lss rfl rfl) rfl ?_
              refine T_nil ?_
              refine T_next ?_
              refine T_caseP (s := 143) rfl (fun h1168 => ?_) (fun h1168 => ?_)
              · have hx1169 := ite_t h1168 hx1167
                refine T_condT rfl ?_
                refine T_skip ?_
                refine T_next ?_
                refine T_seq ?_
                refine T_block ?_
                obtain ⟨j64, hj64, hx1169⟩ := jn_some hx1169
                refine T_cutP (τ := Bool) (γ := Unit) (J := j64) (out := x1167) (fun s64 y64 => [(2, .int .u8 (p2)), (7, .pointer (some ⟨g27, 0, none⟩)), (8, .pointer (some ⟨g28, 0, none⟩)), (9, .slice (A34) ((r31.1).length) (c35)), (11, .slice (A41) ((r38.1).length) (c42)), (13, .slice (y12.1) ((s12).length) (y12.2)), (17, .int .i64 (s1167)), (18, .bool (s64))]) (fun s64 y64 => [.r (y12.1) ((s12).length) (y12.2) 3 1 ((s12).flatMap e_i64), e43, e44, e45, .r (A34) ((r31.1).length) (c35) 3 1 ((r31.1).flatMap e_i64), .m g28 26 [.int .i64 (r20.2.Raster.X0), .int .i64 (r20.2.Raster.Y0), .int .i64 (r20.2.Raster.Step), .int .i64 (r20.2.Raster.NX), .int .i64 (r20.2.Raster.NY), .slice (A23) ((r20.2.Cells).length) (c24)], .m g27 26 [.int .i64 (r20.1.Raster.X0), .int .i64 (r20.1.Raster.Y0), .int .i64 (r20.1.Raster.Step), .int .i64 (r20.1.Raster.NX), .int .i64 (r20.1.Raster.NY), .slice (A0_0) ((r20.1.Cells).length) (c0_0)], .r (A23) ((r20.2.Cells).length) (c24) 41 3 ((r20.2.Cells).flatMap e_api_Cell)] ++ [.old w]) (fun s64 y64 => True) ?_ ?_
                · intro s64 y64 hx1196 hG1197
                  subst hj64
                  refine T_seq ?_
                  refine T_seq ?_
                  refine T_reg ?_
                  refine T_val (Ev_move rfl) rfl ?_
                  refine T_val (Ev_move rfl) rfl ?_
                  refine T_val (Ev_move rfl) rfl ?_
                  obtain ⟨x1198, h1199, hx1200⟩ := bnd_some hx1196
                  refine T_idxR (k := 0) rfl (by decide) (fun _ => rfl) h1199 (fun b1201 j1203 hA1204 hj1205 hl1206 hm1208 hp1207 => ?_)
                  refine T_val (Ev_index rfl rfl hA1204 (j := j1203) hj1205 hl1206 slc27) rfl ?_
                  refine T_val (Ev_loadP0 rfl hp1207 (SubE.cons2 (i := 0) rfl (SubE.nil)) rfl one3) rfl ?_
                  refine T_val (Ev_gtr rfl rfl) rfl ?_
                  refine T_val (Ev_neqB rfl rfl (by kernel_rfl)) rfl ?_
                  refine T_nil ?_
                  refine T_next ?_
                  refine T_caseNB (s := 164) rfl (fun h1209 => ?_) (fun h1209 => ?_)
                  · have hx1210 := ite_bf h1209 hx1200
                    refine T_condT rfl ?_
                    refine T_seq ?_
                    refine T_reg ?_
                    refine T_val (Ev_assign rfl) rfl ?_
                    refine T_nil ?_
                    refine T_next ?_
                    refine T_retc ?_
                    refine T_outR ?_
                    refine T_inR ?_
                    refine T_outR ?_
                    obtain rfl := exit_eq ht1167 hx1210
                    refine T_outR ?_
                    refine T_inR ?_
                    refine T_outR ?_
                    obtain rfl := Option.some.inj ho1167
                    exact T_retP (rs := [.tmp 6]) Try.results15 (.tmp rfl (.nil)) (Ln := []) ⟨rfl, rfl, trivial⟩ (loNil) (by exact .drop 0 rfl (.drop 0 rfl (.drop 0 rfl (.drop 0 rfl (.drop 0 rfl (.drop 0 rfl (.drop 0 rfl (.drop 0 rfl (.refl)))))))))
                  · have hx1211 := ite_t h1209 hx1200
                    refine T_condF rfl ?_
                    refine T_skip ?_
                    refine T_next ?_
                    obtain ⟨j68, hj68, hx1211⟩ := jn_some hx1211
                    refine T_cutP (τ := Bool) (γ := Unit) (J := j68) (out := x1167) (fun s68 y68 => [(2, .int .u8 (p2)), (7, .pointer (some ⟨g27, 0, none⟩)), (8, .pointer (some ⟨g28, 0, none⟩)), (9, .slice (A34) ((r31.1).length) (c35)), (11, .slice (A41) ((r38.1).length) (c42)), (13, .slice (y12.1) ((s12).length) (y12.2)), (17, .int .i64 (s1167)), (237, .bool (s68))]) (fun s68 y68 => [.r (y12.1) ((s12).length) (y12.2) 3 1 ((s12).flatMap e_i64), e43, e44, e45, .r (A34) ((r31.1).length) (c35) 3 1 ((r31.1).flatMap e_i64), .m g28 26 [.int .i64 (r20.2.Raster.X0), .int .i64 (r20.2.Raster.Y0), .int .i64 (r20.2.Raster.Step), .int .i64 (r20.2.Raster.NX), .int .i64 (r20.2.Raster.NY), .slice (A23) ((r20.2.Cells).length) (c24)], .m g27 26 [.int .i64 (r20.1.Raster.X0), .int .i64 (r20.1.Raster.Y0), .int .i64 (r20.1.Raster.Step), .int .i64 (r20.1.Raster.NX), .int .i64 (r20.1.Raster.NY), .slice (A0_0) ((r20.1.Cells).length) (c0_0)], .r (A23) ((r20.2.Cells).length) (c24) 41 3 ((r20.2.Cells).flatMap e_api_Cell)] ++ [.old w]) (fun s68 y68 => True) ?_ ?_
                    · intro s68 y68 hx1482 hG1483
                      subst hj68
                      refine T_caseB (s := 237) rfl (fun h1484 => ?_) (fun h1484 => ?_)
                      · have hx1485 := ite_t h1484 hx1482
                        refine T_condT rfl ?_
                        refine T_seq ?_
                        refine T_reg ?_
                        refine T_val (Ev_assign rfl) rfl ?_
                        refine T_nil ?_
                        refine T_next ?_
                        refine T_retc ?_
                        refine T_inR ?_
                        refine T_outR ?_
                        obtain rfl := exit_eq ht1167 hx1485
                        refine T_outR ?_
                        refine T_inR ?_
                        refine T_outR ?_
                        obtain rfl := Option.some.inj ho1167
                        exact T_retP (rs := [.tmp 6]) Try.results15 (.tmp rfl (.nil)) (Ln := []) ⟨rfl, rfl, trivial⟩ (loNil) (by exact .drop 0 rfl (.drop 0 rfl (.drop 0 rfl (.drop 0 rfl (.drop 0 rfl (.drop 0 rfl (.drop 0 rfl (.drop 0 rfl (.refl)))))))))
                      · have hx1486 := ite_bf h1484 hx1482
                        refine T_condF rfl ?_
                        refine T_skip ?_
                        refine T_inN ?_
                        refine T_next ?_
                        refine T_reg ?_
                        refine T_val (Ev_move rfl) rfl ?_
                        refine T_val (Ev_add_w64 rfl rfl) rfl ?_
                        refine T_val (Ev_assign rfl) rfl ?_
                        refine T_nil ?_
                        exact T_roundP (w64 (s1167 + 1)) () hx1486 trivial (by exact .cons rfl (.cons rfl (.cons rfl (.cons rfl (.cons rfl (.cons rfl (.cons rfl (.nil)))))))) (by exact .pick 0 rfl (.pick 0 rfl (.pick 0 rfl (.pick 0 rfl (.pick 0 rfl (.pick 0 rfl (.pick 0 rfl (.pick 0 rfl (.refl)))))))))
                    · skip
                      refine T_draw [0, 0, 0, 1, 0, 0, 0, 0, 0, 0, 0, 0, 0, 0, 1, 0, 0, 0, 1, 0, 0, 0, 0, 0, 0, 0, 1, 0, 0, 0, 1, 0, 0, 0, 0, 0, 0, 1, 0, 0, 0, 0, 0, 0, 0, 0, 0, 1, 0, 0, 1, 0, 0, 0, 1, 0, 0, 0, 0, 0, 0, 0, 1, 0, 0, 1, 0, 0, 0, 1, 0, 0, 0] [[], [], [1], [1, 2], [0, 1, 2, 3], [0, 1, 2, 3, 4], [0, 1, 2, 3, 4, 5], [0, 1, 2, 3, 4, 5, 6], [0, 1, 2, 3, 4, 5, 6, 7], [0, 1, 2, 3, 4, 5, 6, 7, 8], [0, 1, 2, 3, 4, 5, 6, 7, 8, 9], [0, 1, 2, 3, 4, 5, 6, 7, 8, 9], [0, 1, 2, 3, 4, 5, 6, 7, 8, 9, 11], [0, 1, 2, 3, 4, 5, 6, 7, 8, 9, 10, 11, 12], [0, 1, 2, 3, 4, 5, 6, 7, 8, 9, 10, 11, 12, 13], [0, 1, 2, 3, 4, 5, 6, 7, 8, 9], [0, 1, 2, 3, 4, 5, 6, 7, 8, 9], [0, 1, 2, 3, 4, 5, 6, 7, 8, 9, 15, 16], [0, 1, 2, 3, 4, 5, 6, 7, 8, 9, 15, 16, 17], [0, 1, 2, 3, 4, 5, 6, 7, 8, 9, 10, 11, 12, 13, 14, 15, 16, 17, 18], [0, 1, 2, 3, 4, 5, 6, 7, 8, 9, 10, 11, 12, 13, 14, 15, 16, 17, 18, 19], [0, 1, 2, 3, 4, 5, 6, 7, 8, 9, 10, 11, 12, 13, 14, 15, 16, 17, 18, 19, 20], [0, 1, 2, 3, 4, 5, 6, 7, 8, 9, 10, 11, 12, 13, 14, 15, 16, 17, 18, 19, 20, 21], [0, 1, 2, 3, 4, 5, 6, 7, 8, 9, 10, 11, 12, 13, 14, 15, 16, 17, 18, 19, 20, 21], [0, 1, 2, 3, 4, 5, 6, 7, 8, 9, 10, 11, 12, 13, 14, 15, 16, 17, 18, 19, 20, 21, 23], [0, 1, 2, 3, 4, 5, 6, 7, 8, 9, 10, 11, 12, 13, 14, 15, 16, 17, 18, 19, 20, 21, 22, 23, 24], [0, 1, 2, 3, 4, 5, 6, 7, 8, 9, 10, 11, 12, 13, 14, 15, 16, 17, 18, 19, 20, 21, 22, 23, 24, 25], [0, 1, 2, 3, 4, 5, 6, 7, 8, 9, 10, 11, 12, 13, 14, 15, 16, 17, 18, 19, 20, 21], [0, 1, 2, 3, 4, 5, 6, 7, 8, 9, 10, 11, 12, 13, 14, 15, 16, 17, 18, 19, 20, 21], [0, 1, 2, 3, 4, 5, 6, 7, 8, 9, 10, 11, 12, 13, 14, 15, 16, 17, 18, 19, 20, 21, 27, 28], [0, 1, 2, 3, 4, 5, 6, 7, 8, 9, 10, 11, 12, 13, 14, 15, 16, 17, 18, 19, 20, 21, 27, 28, 29], [0, 1, 2, 3, 4, 5, 6, 7, 8, 9, 10, 11, 12, 13, 14, 15, 16, 17, 18, 19, 20, 21, 22, 23, 24, 25, 26, 27, 28, 29, 30], [0, 1, 2, 3, 4, 5, 6, 7, 8, 9, 10, 11, 12, 13, 14, 15, 16, 17, 18, 19, 20, 21, 22, 23, 24, 25, 26, 27, 28, 29, 30, 31], [0, 1, 2, 3, 4, 5, 6, 7, 8, 9, 10, 11, 12, 13, 14, 15, 16, 17, 18, 19, 20, 21, 22, 23, 24, 25, 26, 27, 28, 29, 30, 31, 32], [0, 1, 2, 3, 4, 5, 6, 7, 8, 9, 10, 11, 12, 13, 14, 15, 16, 17, 18, 19, 20, 21, 22, 23, 24, 25, 26, 27, 28, 29, 30, 31, 32, 33], [0, 1, 2, 3, 4, 5, 6, 7, 8, 9, 10, 11, 12, 13, 14, 15, 16, 17, 18, 19, 20, 21, 22, 23, 24, 25, 26, 27, 28, 29, 30, 31, 32, 33], [0, 1, 2, 3, 4, 5, 6, 7, 8, 9, 10, 11, 12, 13, 14, 15, 16, 17, 18, 19, 20, 21, 22, 23, 24, 25, 26, 27, 28, 29, 30, 31, 32, 33, 35], [0, 1, 2, 3, 4, 5, 6, 7, 8, 9, 10, 11, 12, 13, 14, 15, 16, 17, 18, 19, 20, 21, 22, 23, 24, 25, 26, 27, 28, 29, 30, 31, 32, 33, 35, 36], [0, 1, 2, 3, 4, 5, 6, 7, 8, 9, 10, 11, 12, 13, 14, 15, 16, 17, 18, 19, 20, 21, 22, 23, 24, 25, 26, 27, 28, 29, 30, 31, 32, 33, 34, 35, 36, 37], [0, 1, 2, 3, 4, 5, 6, 7, 8, 9, 10, 11, 12, 13, 14, 15, 16, 17, 18, 19, 20, 21, 22, 23, 24, 25, 26, 27, 28, 29, 30, 31, 32, 33, 34, 35, 36, 37, 38], [0, 1, 2, 3, 4, 5, 6, 7, 8, 9, 10, 11, 12, 13, 14, 15, 16, 17, 18, 19, 20, 21, 22, 23, 24, 25, 26, 27, 28, 29, 30, 31, 32, 33, 34, 35, 36, 37, 38, 39], [0, 1, 2, 3, 4, 5, 6, 7, 8, 9, 10, 11, 12, 13, 14, 15, 16, 17, 18, 19, 20, 21, 22, 23, 24, 25, 26, 27, 28, 29, 30, 31, 32, 33, 34, 35, 36, 37, 38, 39, 40], [0, 1, 2, 3, 4, 5, 6, 7, 8, 9, 10, 11, 12, 13, 14, 15, 16, 17, 18, 19, 20, 21, 22, 23, 24, 25, 26, 27, 28, 29, 30, 31, 32, 33, 34, 35, 36, 37, 38, 39, 40, 41], [0, 1, 2, 3, 4, 5, 6, 7, 8, 9, 10, 11, 12, 13, 14, 15, 16, 17, 18, 19, 20, 21, 22, 23, 24, 25, 26, 27, 28, 29, 30, 31, 32, 33, 34, 35, 36, 37, 38, 39, 40, 41, 42], [0, 1, 2, 3, 4, 5, 6, 7, 8, 9, 10, 11, 12, 13, 14, 15, 16, 17, 18, 19, 20, 21, 22, 23, 24, 25, 26, 27, 28, 29, 30, 31, 32, 33, 34, 35, 36, 37, 38, 39, 40, 41, 42], [0, 1, 2, 3, 4, 5, 6, 7, 8, 9, 10, 11, 12, 13, 14, 15, 16, 17, 18, 19, 20, 21, 22, 23, 24, 25, 26, 27, 28, 29, 30, 31, 32, 33, 34, 35, 36, 37, 38, 39, 40, 41, 42], [0, 1, 2, 3, 4, 5, 6, 7, 8, 9, 10, 11, 12, 13, 14, 15, 16, 17, 18, 19, 20, 21, 22, 23, 24, 25, 26, 27, 28, 29, 30, 31, 32, 33, 34, 35, 36, 37, 38, 39, 40, 41, 42, 45], [0, 1, 2, 3, 4, 5, 6, 7, 8, 9, 10, 11, 12, 13, 14, 15, 16, 17, 18, 19, 20, 21, 22, 23, 24, 25, 26, 27, 28, 29, 30, 31, 32, 33, 34, 35, 36, 37, 38, 39, 40, 41, 42, 45, 46], [0, 1, 2, 3, 4, 5, 6, 7, 8, 9, 10, 11, 12, 13, 14, 15, 16, 17, 18, 19, 20, 21, 22, 23, 24, 25, 26, 27, 28, 29, 30, 31, 32, 33, 34, 35, 36, 37, 38, 39, 40, 41, 42, 44, 45, 46, 47], [0, 1, 2, 3, 4, 5, 6, 7, 8, 9, 10, 11, 12, 13, 14, 15, 16, 17, 18, 19, 20, 21, 22, 23, 24, 25, 26, 27, 28, 29, 30, 31, 32, 33, 34, 35, 36, 37, 38, 39, 40, 41, 42, 43, 44, 45, 46, 47, 48], [0, 1, 2, 3, 4, 5, 6, 7, 8, 9, 10, 11, 12, 13, 14, 15, 16, 17, 18, 19, 20, 21, 22, 23, 24, 25, 26, 27, 28, 29, 30, 31, 32, 33, 34, 35, 36, 37, 38, 39, 40, 41, 42, 43, 44, 45, 46, 47, 48, 49], [0, 1, 2, 3, 4, 5, 6, 7, 8, 9, 10, 11, 12, 13, 14, 15, 16, 17, 18, 19, 20, 21, 22, 23, 24, 25, 26, 27, 28, 29, 30, 31, 32, 33, 34, 35, 36, 37, 38, 39, 40, 41, 42], [0, 1, 2, 3, 4, 5, 6, 7, 8, 9, 10, 11, 12, 13, 14, 15, 16, 17, 18, 19, 20, 21, 22, 23, 24, 25, 26, 27, 28, 29, 30, 31, 32, 33, 34, 35, 36, 37, 38, 39, 40, 41, 42], [0, 1, 2, 3, 4, 5, 6, 7, 8, 9, 10, 11, 12, 13, 14, 15, 16, 17, 18, 19, 20, 21, 22, 23, 24, 25, 26, 27, 28, 29, 30, 31, 32, 33, 34, 35, 36, 37, 38, 39, 40, 41, 42, 51, 52], [0, 1, 2, 3, 4, 5, 6, 7, 8, 9, 10, 11, 12, 13, 14, 15, 16, 17, 18, 19, 20, 21, 22, 23, 24, 25, 26, 27, 28, 29, 30, 31, 32, 33, 34, 35, 36, 37, 38, 39, 40, 41, 42, 51, 52, 53], [0, 1, 2, 3, 4, 5, 6, 7, 8, 9, 10, 11, 12, 13, 14, 15, 16, 17, 18, 19, 20, 21, 22, 23, 24, 25, 26, 27, 28, 29, 30, 31, 32, 33, 34, 35, 36, 37, 38, 39, 40, 41, 42, 43, 44, 45, 46, 47, 48, 49, 50, 51, 52, 53, 54], [0, 1, 2, 3, 4, 5, 6, 7, 8, 9, 10, 11, 12, 13, 14, 15, 16, 17, 18, 19, 20, 21, 22, 23, 24, 25, 26, 27, 28, 29, 30, 31, 32, 33, 34, 35, 36, 37, 38, 39, 40, 41, 42, 43, 44, 45, 46, 47, 48, 49, 50, 51, 52, 53, 54, 55], [0, 1, 2, 3, 4, 5, 6, 7, 8, 9, 10, 11, 12, 13, 14, 15, 16, 17, 18, 19, 20, 21, 22, 23, 24, 25, 26, 27, 28, 29, 30, 31, 32, 33, 34, 35, 36, 37, 38, 39, 40, 41, 42, 43, 44, 45, 46, 47, 48, 49, 50, 51, 52, 53, 54, 55, 56], [0, 1, 2, 3, 4, 5, 6, 7, 8, 9, 10, 11, 12, 13, 14, 15, 16, 17, 18, 19, 20, 21, 22, 23, 24, 25, 26, 27, 28, 29, 30, 31, 32, 33, 34, 35, 36, 37, 38, 39, 40, 41, 42, 43, 44, 45, 46, 47, 48, 49, 50, 51, 52, 53, 54, 55, 56, 57], [0, 1, 2, 3, 4, 5, 6, 7, 8, 9, 10, 11, 12, 13, 14, 15, 16, 17, 18, 19, 20, 21, 22, 23, 24, 25, 26, 27, 28, 29, 30, 31, 32, 33, 34, 35, 36, 37, 38, 39, 40, 41, 42, 43, 44, 45, 46, 47, 48, 49, 50, 51, 52, 53, 54, 55, 56, 57], [0, 1, 2, 3, 4, 5, 6, 7, 8, 9, 10, 11, 12, 13, 14, 15, 16, 17, 18, 19, 20, 21, 22, 23, 24, 25, 26, 27, 28, 29, 30, 31, 32, 33, 34, 35, 36, 37, 38, 39, 40, 41, 42, 43, 44, 45, 46, 47, 48, 49, 50, 51, 52, 53, 54, 55, 56, 57], [0, 1, 2, 3, 4, 5, 6, 7, 8, 9, 10, 11, 12, 13, 14, 15, 16, 17, 18, 19, 20, 21, 22, 23, 24, 25, 26, 27, 28, 29, 30, 31, 32, 33, 34, 35, 36, 37, 38, 39, 40, 41, 42, 43, 44, 45, 46, 47, 48, 49, 50, 51, 52, 53, 54, 55, 56, 57, 60], [0, 1, 2, 3, 4, 5, 6, 7, 8, 9, 10, 11, 12, 13, 14, 15, 16, 17, 18, 19, 20, 21, 22, 23, 24, 25, 26, 27, 28, 29, 30, 31, 32, 33, 34, 35, 36, 37, 38, 39, 40, 41, 42, 43, 44, 45, 46, 47, 48, 49, 50, 51, 52, 53, 54, 55, 56, 57, 60, 61], [0, 1, 2, 3, 4, 5, 6, 7, 8, 9, 10, 11, 12, 13, 14, 15, 16, 17, 18, 19, 20, 21, 22, 23, 24, 25, 26, 27, 28, 29, 30, 31, 32, 33, 34, 35, 36, 37, 38, 39, 40, 41, 42, 43, 44, 45, 46, 47, 48, 49, 50, 51, 52, 53, 54, 55, 56, 57, 59, 60, 61, 62], [0, 1, 2, 3, 4, 5, 6, 7, 8, 9, 10, 11, 12, 13, 14, 15, 16, 17, 18, 19, 20, 21, 22, 23, 24, 25, 26, 27, 28, 29, 30, 31, 32, 33, 34, 35, 36, 37, 38, 39, 40, 41, 42, 43, 44, 45, 46, 47, 48, 49, 50, 51, 52, 53, 54, 55, 56, 57, 58, 59, 60, 61, 62, 63], [0, 1, 2, 3, 4, 5, 6, 7, 8, 9, 10, 11, 12, 13, 14, 15, 16, 17, 18, 19, 20, 21, 22, 23, 24, 25, 26, 27, 28, 29, 30, 31, 32, 33, 34, 35, 36, 37, 38, 39, 40, 41, 42, 43, 44, 45, 46, 47, 48, 49, 50, 51, 52, 53, 54, 55, 56, 57, 58, 59, 60, 61, 62, 63, 64], [0, 1, 2, 3, 4, 5, 6, 7, 8, 9, 10, 11, 12, 13, 14, 15, 16, 17, 18, 19, 20, 21, 22, 23, 24, 25, 26, 27, 28, 29, 30, 31, 32, 33, 34, 35, 36, 37, 38, 39, 40, 41, 42, 43, 44, 45, 46, 47, 48, 49, 50, 51, 52, 53, 54, 55, 56, 57], [0, 1, 2, 3, 4, 5, 6, 7, 8, 9, 10, 11, 12, 13, 14, 15, 16, 17, 18, 19, 20, 21, 22, 23, 24, 25, 26, 27, 28, 29, 30, 31, 32, 33, 34, 35, 36, 37, 38, 39, 40, 41, 42, 43, 44, 45, 46, 47, 48, 49, 50, 51, 52, 53, 54, 55, 56, 57], [0, 1, 2, 3, 4, 5, 6, 7, 8, 9, 10, 11, 12, 13, 14, 15, 16, 17, 18, 19, 20, 21, 22, 23, 24, 25, 26, 27, 28, 29, 30, 31, 32, 33, 34, 35, 36, 37, 38, 39, 40, 41, 42, 43, 44, 45, 46, 47, 48, 49, 50, 51, 52, 53, 54, 55, 56, 57, 66, 67], [0, 1, 2, 3, 4, 5, 6, 7, 8, 9, 10, 11, 12, 13, 14, 15, 16, 17, 18, 19, 20, 21, 22, 23, 24, 25, 26, 27, 28, 29, 30, 31, 32, 33, 34, 35, 36, 37, 38, 39, 40, 41, 42, 43, 44, 45, 46, 47, 48, 49, 50, 51, 52, 53, 54, 55, 56, 57, 66, 67, 68], [0, 1, 2, 3, 4, 5, 6, 7, 8, 9, 10, 11, 12, 13, 14, 15, 16, 17, 18, 19, 20, 21, 22, 23, 24, 25, 26, 27, 28, 29, 30, 31, 32, 33, 34, 35, 36, 37, 38, 39, 40, 41, 42, 43, 44, 45, 46, 47, 48, 49, 50, 51, 52, 53, 54, 55, 56, 57, 58, 59, 60, 61, 62, 63, 64, 65, 66, 67, 68, 69], [0, 1, 2, 3, 4, 5, 6, 7, 8, 9, 10, 11, 12, 13, 14, 15, 16, 17, 18, 19, 20, 21, 22, 23, 24, 25, 26, 27, 28, 29, 30, 31, 32, 33, 34, 35, 36, 37, 38, 39, 40, 41, 42, 43, 44, 45, 46, 47, 48, 49, 50, 51, 52, 53, 54, 55, 56, 57, 58, 59, 60, 61, 62, 63, 64, 65, 66, 67, 68, 69, 70], [0, 1, 2, 3, 4, 5, 6, 7, 8, 9, 10, 11, 12, 13, 14, 15, 16, 17, 18, 19, 20, 21, 22, 23, 24, 25, 26, 27, 28, 29, 30, 31, 32, 33, 34, 35, 36, 37, 38, 39, 40, 41, 42, 43, 44, 45, 46, 47, 48, 49, 50, 51, 52, 53, 54, 55, 56, 57, 58, 59, 60, 61, 62, 63, 64, 65, 66, 67, 68, 69, 70, 71]] (.q 0 (.q 1 (.q 2 (.q 3 (.q 4 (.q 5 (.q 6 (.q 7 (.q 8 (.q 9 (.q 10 (.q 11 (.q 12 (.q 13 (.q 14 (.q 15 (.q 16 (.q 17 (.q 18 (.q 19 (.q 20 (.q 21 (.q 22 (.q 23 (.q 24 (.q 25 (.q 26 (.q 27 (.q 28 (.q 29 (.q 30 (.q 31 (.q 32 (.q 33 (.q 34 (.q 35 (.q 36 (.q 37 (.q 38 (.q 39 (.q 40 (.q 41 (.q 42 (.q 43 (.q 44 (.q 45 (.q 46 (.q 47 (.q 48 (.q 49 (.q 50 (.q 51 (.q 52 (.q 53 (.q 54 (.q 55 (.q 56 (.q 57 (.q 58 (.q 59 (.q 60 (.q 61 (.q 62 (.q 63 (.q 64 (.q 65 (.q 66 (.q 67 (.q 68 (.q 69 (.q 70 (.q 71 (.q 72 (.done)))))))))))))))))))))))))))))))))))))))))))))))))))))))))))))))))))))))))) mixed (by kernel_rfl) (by kernel_rfl) ?_
                      refine P_p rfl rfl (Ev_move rfl) rfl ?_
                      refine P_p rfl rfl (Ev_field rfl fld26_0 rfl) rfl ?_
                      refine P_p rfl rfl (Ev_field rfl fld23_3 rfl) rfl ?_
                      refine P_q rfl rfl (Ev_load1 rfl (i := 6) rfl rfl one3) rfl ?_
                      obtain ⟨h1212, hx1213⟩ := gd_some hx1211
                      refine P_p rfl rfl (Ev_rem rfl rfl h1212) rfl ?_
                      refine P_p rfl rfl (Ev_gtr rfl rfl) rfl ?_
                      refine P_p rfl rfl (Ev_move rfl) rfl ?_
                      refine T_caseP (s := 171) rfl (fun h1214 => ?_) (fun h1214 => ?_)
                      · have hx1215 := ite_t h1214 hx1213
                        refine P_pG rfl rfl rfl rfl rfl (Ev_move rfl) rfl ?_
                        refine P_p rfl rfl (Ev_pickT rfl rfl) rfl ?_
                        refine P_p rfl rfl (Ev_move rfl) rfl ?_
                        refine T_caseB (s := 174) rfl (fun h1216 => ?_) (fun h1216 => ?_)
                        · have hx1217 := ite_t h1216 hx1215
                          refine P_pG rfl rfl rfl rfl rfl (Ev_move rfl) rfl ?_
                          refine P_pG rfl rfl rfl rfl rfl (Ev_move rfl) rfl ?_
                          refine P_pG rfl rfl rfl rfl rfl (Ev_sub_w64 rfl rfl) rfl ?_
                          obtain ⟨x1218, h1219, hx1220⟩ := bnd_some hx1217
                          refine T_idxR (k := 4) rfl (by decide) (fun _ => rfl) h1219 (fun b1221 j1223 hA1224 hj1225 hl1226 hm1228 hp1227 => ?_)
                          refine P_pG rfl rfl rfl rfl rfl (Ev_index rfl rfl hA1224 (j := j1223) hj1225 hl1226 slc27) rfl ?_
                          refine P_qG rfl rfl rfl rfl rfl (Ev_loadP0 rfl hp1227 (SubE.cons2 (i := 4) rfl (SubE.nil)) rfl one3) rfl ?_
                          refine P_pG rfl rfl rfl rfl rfl (Ev_move rfl) rfl ?_
                          refine P_pG rfl rfl rfl rfl rfl (Ev_move rfl) rfl ?_
                          obtain ⟨x1229, h1230, hx1231⟩ := bnd_some hx1220
                          refine T_idxR (k := 4) rfl (by decide) (fun _ => rfl) h1230 (fun b1232 j1234 hA1235 hj1236 hl1237 hm1239 hp1238 => ?_)
                          refine P_pG rfl rfl rfl rfl rfl (Ev_index rfl rfl hA1235 (j := j1234) hj1236 hl1237 slc27) rfl ?_
                          refine P_qG rfl rfl rfl rfl rfl (Ev_loadP0 rfl hp1238 (SubE.cons2 (i := 4) rfl (SubE.nil)) rfl one3) rfl ?_
                          refine P_pG rfl rfl rfl rfl rfl (Ev_eql rfl rfl) rfl ?_
                          refine P_p rfl rfl (Ev_pickT rfl rfl) rfl ?_
                          refine P_p rfl rfl (Ev_move rfl) rfl ?_
                          refine T_caseP (s := 186) rfl (fun h1240 => ?_) (fun h1240 => ?_)
                          · have hx1241 := ite_t h1240 hx1231
                            refine P_pG rfl rfl rfl rfl rfl (Ev_move rfl) rfl ?_
                            refine P_pG rfl rfl rfl rfl rfl (Ev_move rfl) rfl ?_
                            refine P_pG rfl rfl rfl rfl rfl (Ev_sub_w64 rfl rfl) rfl ?_
                            obtain ⟨x1242, h1243, hx1244⟩ := bnd_some hx1241
                            refine T_idxR (k := 0) rfl (by decide) (fun _ => rfl) h1243 (fun b1245 j1247 hA1248 hj1249 hl1250 hm1252 hp1251 => ?_)
                            refine P_pG rfl rfl rfl rfl rfl (Ev_index rfl rfl hA1248 (j := j1247) hj1249 hl1250 slc27) rfl ?_
                            refine P_qG rfl rfl rfl rfl rfl (Ev_loadP0 rfl hp1251 (SubE.cons2 (i := 0) rfl (SubE.nil)) rfl one3) rfl ?_
                            refine P_pG rfl rfl rfl rfl rfl (Ev_move rfl) rfl ?_
                            refine P_pG rfl rfl rfl rfl rfl (Ev_move rfl) rfl ?_
                            obtain ⟨x1253, h1254, hx1255⟩ := bnd_some hx1244
                            refine T_idxR (k := 0) rfl (by decide) (fun _ => rfl) h1254 (fun b1256 j1258 hA1259 hj1260 hl1261 hm1263 hp1262 => ?_)
                            refine P_pG rfl rfl rfl rfl rfl (Ev_index rfl rfl hA1259 (j := j1258) hj1260 hl1261 slc27) rfl ?_
                            refine P_qG rfl rfl rfl rfl rfl (Ev_loadP0 rfl hp1262 (SubE.cons2 (i := 0) rfl (SubE.nil)) rfl one3) rfl ?_
                            refine P_pG rfl rfl rfl rfl rfl (Ev_neq rfl rfl) rfl ?_
                            refine P_p rfl rfl (Ev_pickT rfl rfl) rfl ?_
                            refine P_p rfl rfl (Ev_move rfl) rfl ?_
                            refine T_caseNP (s := 198) rfl (fun h1264 => ?_) (fun h1264 => ?_)
                            · have hx1265 := ite_f h1264 hx1255
                              refine P_skip rfl rfl rfl rfl rfl rfl ?_
                              refine P_skip rfl rfl rfl rfl rfl rfl ?_
                              refine P_skip rfl rfl rfl rfl rfl rfl ?_
                              refine P_skip rfl rfl rfl rfl rfl rfl ?_
                              refine P_skip rfl rfl rfl rfl rfl rfl ?_
                              refine P_skip rfl rfl rfl rfl rfl rfl ?_
                              refine P_skipU rfl rfl rfl rfl rfl ?_
                              refine P_skip rfl rfl rfl rfl rfl rfl ?_
                              refine P_skip rfl rfl rfl rfl rfl rfl ?_
                              refine P_skipU rfl rfl rfl rfl rfl ?_
                              refine P_skipU rfl rfl rfl rfl rfl ?_
                              refine P_skipU rfl rfl rfl rfl rfl ?_
                              refine P_skipU rfl rfl rfl rfl rfl ?_
                              refine P_skipU rfl rfl rfl rfl rfl ?_
                              refine P_skipU rfl rfl rfl rfl rfl ?_
                              refine P_skipU rfl rfl rfl rfl rfl ?_
                              refine P_skipU rfl rfl rfl rfl rfl ?_
                              refine P_skipU rfl rfl rfl rfl rfl ?_
                              refine P_skipU rfl rfl rfl rfl rfl ?_
                              refine P_skipU rfl rfl rfl rfl rfl ?_
                              refine P_skipU rfl rfl rfl rfl rfl ?_
                              refine P_skipU rfl rfl rfl rfl rfl ?_
                              refine P_skip rfl rfl rfl rfl rfl rfl ?_
                              refine P_skip rfl rfl rfl rfl rfl rfl ?_
                              refine P_skipU rfl rfl rfl rfl rfl ?_
                              refine P_skipU rfl rfl rfl rfl rfl ?_
                              refine P_skipU rfl rfl rfl rfl rfl ?_
                              refine P_skipU rfl rfl rfl rfl rfl ?_
                              refine P_skipU rfl rfl rfl rfl rfl ?_
                              refine P_skipU rfl rfl rfl rfl rfl ?_
                              refine P_skipU rfl rfl rfl rfl rfl ?_
                              refine P_skipU rfl rfl rfl rfl rfl ?_
                              refine P_skipU rfl rfl rfl rfl rfl ?_
                              refine P_skipU rfl rfl rfl rfl rfl ?_
                              refine P_skipU rfl rfl rfl rfl rfl ?_
                              refine P_skipU rfl rfl rfl rfl rfl ?_
                              refine P_skipU rfl rfl rfl rfl rfl ?_
                              refine P_skip rfl rfl rfl rfl rfl rfl ?_
                              refine P_p rfl rfl (Ev_pickT rfl rfl) rfl ?_
                              refine P_done ?_
                              exact T_metP true () hx1265 trivial (by exact .cons rfl (.cons rfl (.cons rfl (.cons rfl (.cons rfl (.cons rfl (.cons rfl (.cons rfl (.nil))))))))) (by exact .pick 0 rfl (.pick 0 rfl (.pick 0 rfl (.pick 0 rfl (.pick 0 rfl (.pick 0 rfl (.pick 0 rfl (.pick 0 rfl (.refl)))))))))
                            · have hx1266 := ite_t h1264 hx1255
                              refine P_pG rfl rfl rfl rfl rfl (Ev_move rfl) rfl ?_
                              refine P_pG rfl rfl rfl rfl rfl (Ev_field rfl fld26_0 rfl) rfl ?_
                              refine P_pG rfl rfl rfl rfl rfl (Ev_field rfl fld23_3 rfl) rfl ?_
                              refine P_qG rfl rfl rfl rfl rfl (Ev_load1 rfl (i := 6) rfl rfl one3) rfl ?_
                              refine P_pG rfl rfl rfl rfl rfl (Ev_geq rfl rfl) rfl ?_
                              refine P_pG rfl rfl rfl rfl rfl (Ev_move rfl) rfl ?_
                              refine T_caseP (s := 204) rfl (fun h1267 => ?_) (fun h1267 => ?_)
                              · have hx1268 := ite_t h1267 hx1266
                                refine P_pG rfl rfl rfl rfl rfl (Ev_move rfl) rfl ?_
                                refine P_pG rfl rfl rfl rfl rfl (Ev_pickT rfl rfl) rfl ?_
                                refine P_pG rfl rfl rfl rfl rfl (Ev_move rfl) rfl ?_
                                refine T_caseB (s := 207) rfl (fun h1269 => ?_) (fun h1269 => ?_)
                                · have hx1270 := ite_t h1269 hx1268
                                  refine P_pG rfl rfl rfl rfl rfl (Ev_move rfl) rfl ?_
                                  refine P_pG rfl rfl rfl rfl rfl (Ev_move rfl) rfl ?_
                                  refine P_pG rfl rfl rfl rfl rfl (Ev_field rfl fld26_0 rfl) rfl ?_
                                  refine P_pG rfl rfl rfl rfl rfl (Ev_field rfl fld23_3 rfl) rfl ?_
                                  refine P_qG rfl rfl rfl rfl rfl (Ev_load1 rfl (i := 6) rfl rfl one3) rfl ?_
                                  refine P_pG rfl rfl rfl rfl rfl (Ev_sub_w64 rfl rfl) rfl ?_
                                  obtain ⟨x1271, h1272, hx1273⟩ := bnd_some hx1270
                                  refine T_idxR (k := 4) rfl (by decide) (fun _ => rfl) h1272 (fun b1274 j1276 hA1277 hj1278 hl1279 hm1281 hp1280 => ?_)
                                  refine P_pG rfl rfl rfl rfl rfl (Ev_index rfl rfl hA1277 (j := j1276) hj1278 hl1279 slc27) rfl ?_
                                  refine P_qG rfl rfl rfl rfl rfl (Ev_loadP0 rfl hp1280 (SubE.cons2 (i := 4) rfl (SubE.nil)) rfl one3) rfl ?_
                                  refine P_pG rfl rfl rfl rfl rfl (Ev_move rfl) rfl ?_
                                  refine P_pG rfl rfl rfl rfl rfl (Ev_move rfl) rfl ?_
                                  obtain ⟨x1282, h1283, hx1284⟩ := bnd_some hx1273
                                  refine T_idxR (k := 4) rfl (by decide) (fun _ => rfl) h1283 (fun b1285 j1287 hA1288 hj1289 hl1290 hm1292 hp1291 => ?_)
                                  refine P_pG rfl rfl rfl rfl rfl (Ev_index rfl rfl hA1288 (j := j1287) hj1289 hl1290 slc27) rfl ?_
                                  refine P_qG rfl rfl rfl rfl rfl (Ev_loadP0 rfl hp1291 (SubE.cons2 (i := 4) rfl (SubE.nil)) rfl one3) rfl ?_
                                  refine P_pG rfl rfl rfl rfl rfl (Ev_eql rfl rfl) rfl ?_
                                  refine P_pG rfl rfl rfl rfl rfl (Ev_pickT rfl rfl) rfl ?_
                                  refine P_pG rfl rfl rfl rfl rfl (Ev_move rfl) rfl ?_
                                  refine T_caseP (s := 222) rfl (fun h1293 => ?_) (fun h1293 => ?_)
                                  · have hx1294 := ite_t h1293 hx1284
                                    refine P_pG rfl rfl rfl rfl rfl (Ev_move rfl) rfl ?_
                                    refine P_pG rfl rfl rfl rfl rfl (Ev_move rfl) rfl ?_
                                    refine P_pG rfl rfl rfl rfl rfl (Ev_field rfl fld26_0 rfl) rfl ?_
                                    refine P_pG rfl rfl rfl rfl rfl (Ev_field rfl fld23_3 rfl) rfl ?_
                                    refine P_qG rfl rfl rfl rfl rfl (Ev_load1 rfl (i := 6) rfl rfl one3) rfl ?_
                                    refine P_pG rfl rfl rfl rfl rfl (Ev_sub_w64 rfl rfl) rfl ?_
                                    obtain ⟨x1295, h1296, hx1297⟩ := bnd_some hx1294
                                    refine T_idxR (k := 0) rfl (by decide) (fun _ => rfl) h1296 (fun b1298 j1300 hA1301 hj1302 hl1303 hm1305 hp1304 => ?_)
                                    refine P_pG rfl rfl rfl rfl rfl (Ev_index rfl rfl hA1301 (j := j1300) hj1302 hl1303 slc27) rfl ?_
                                    refine P_qG rfl rfl rfl rfl rfl (Ev_loadP0 rfl hp1304 (SubE.cons2 (i := 0) rfl (SubE.nil)) rfl one3) rfl ?_
                                    refine P_pG rfl rfl rfl rfl rfl (Ev_move rfl) rfl ?_
                                    refine P_pG rfl rfl rfl rfl rfl (Ev_move rfl) rfl ?_
                                    obtain ⟨x1306, h1307, hx1308⟩ := bnd_some hx1297
                                    refine T_idxR (k := 0) rfl (by decide) (fun _ => rfl) h1307 (fun b1309 j1311 hA1312 hj1313 hl1314 hm1316 hp1315 => ?_)
                                    refine P_pG rfl rfl rfl rfl rfl (Ev_index rfl rfl hA1312 (j := j1311) hj1313 hl1314 slc27) rfl ?_
                                    refine P_qG rfl rfl rfl rfl rfl (Ev_loadP0 rfl hp1315 (SubE.cons2 (i := 0) rfl (SubE.nil)) rfl one3) rfl ?_
                                    refine P_pG rfl rfl rfl rfl rfl (Ev_neq rfl rfl) rfl ?_
                                    refine P_pG rfl rfl rfl rfl rfl (Ev_pickT rfl rfl) rfl ?_
                                    refine P_p rfl rfl (Ev_pickF rfl rfl) rfl ?_
                                    refine P_done ?_
                                    exact T_metP (!(decide (x1295 = x1306))) () hx1308 trivial (by exact .cons rfl (.cons rfl (.cons rfl (.cons rfl (.cons rfl (.cons rfl (.cons rfl (.cons rfl (.nil))))))))) (by exact .pick 0 rfl (.pick 0 rfl (.pick 0 rfl (.pick 0 rfl (.pick 0 rfl (.pick 0 rfl (.pick 0 rfl (.pick 0 rfl (.refl)))))))))
                                  · have hx1317 := ite_f h1293 hx1284
                                    refine P_skip rfl rfl rfl rfl rfl rfl ?_
                                    refine P_skip rfl rfl rfl rfl rfl rfl ?_
                                    refine P_skip rfl rfl rfl rfl rfl rfl ?_
                                    refine P_skip rfl rfl rfl rfl rfl rfl ?_
                                    refine P_skip rfl rfl rfl rfl rfl rfl ?_
                                    refine P_skip rfl rfl rfl rfl rfl rfl ?_
                                    refine P_skip rfl rfl rfl rfl rfl rfl ?_
                                    refine P_skip rfl rfl rfl rfl rfl rfl ?_
                                    refine P_skip rfl rfl rfl rfl rfl rfl ?_
                                    refine P_skip rfl rfl rfl rfl rfl rfl ?_
                                    refine P_skip rfl rfl rfl rfl rfl rfl ?_
                                    refine P_skip rfl rfl rfl rfl rfl rfl ?_
                                    refine P_skip rfl rfl rfl rfl rfl rfl ?_
                                    refine P_pG rfl rfl rfl rfl rfl (Ev_pickF rfl rfl) rfl ?_
                                    refine P_p rfl rfl (Ev_pickF rfl rfl) rfl ?_
                                    refine P_done ?_
                                    exact T_metP false () hx1317 trivial (by exact .cons rfl (.cons rfl (.cons rfl (.cons rfl (.cons rfl (.cons rfl (.cons rfl (.cons rfl (.nil))))))))) (by exact .pick 0 rfl (.pick 0 rfl (.pick 0 rfl (.pick 0 rfl (.pick 0 rfl (.pick 0 rfl (.pick 0 rfl (.pick 0 rfl (.refl)))))))))
                                · have hx1318 := ite_bf h1269 hx1268
                                  refine P_skip rfl rfl rfl rfl rfl rfl ?_
                                  refine P_skip rfl rfl rfl rfl rfl rfl ?_
                                  refine P_skip rfl rfl rfl rfl rfl rfl ?_
                                  refine P_skip rfl rfl rfl rfl rfl rfl ?_
                                  refine P_skip rfl rfl rfl rfl rfl rfl ?_
                                  refine P_skip rfl rfl rfl rfl rfl rfl ?_
                                  refine P_skip rfl rfl rfl rfl rfl rfl ?_
                                  refine P_skip rfl rfl rfl rfl rfl rfl ?_
                                  refine P_skip rfl rfl rfl rfl rfl rfl ?_
                                  refine P_skip rfl rfl rfl rfl rfl rfl ?_
                                  refine P_skip rfl rfl rfl rfl rfl rfl ?_
                                  refine P_skip rfl rfl rfl rfl rfl rfl ?_
                                  refine P_skip rfl rfl rfl rfl rfl rfl ?_
                                  refine P_pG rfl rfl rfl rfl rfl (Ev_pickF rfl rfl) rfl ?_
                                  refine P_pG rfl rfl rfl rfl rfl (Ev_move rfl) rfl ?_
                                  refine P_skip rfl rfl rfl rfl rfl rfl ?_
                                  refine P_skip rfl rfl rfl rfl rfl rfl ?_
                                  refine P_skip rfl rfl rfl rfl rfl rfl ?_
                                  refine P_skip rfl rfl rfl rfl rfl rfl ?_
                                  refine P_skip rfl rfl rfl rfl rfl rfl ?_
                                  refine P_skip rfl rfl rfl rfl rfl rfl ?_
                                  refine P_skip rfl rfl rfl rfl rfl rfl ?_
                                  refine P_skip rfl rfl rfl rfl rfl rfl ?_
                                  refine P_skip rfl rfl rfl rfl rfl rfl ?_
                                  refine P_skip rfl rfl rfl rfl rfl rfl ?_
                                  refine P_skip rfl rfl rfl rfl rfl rfl ?_
                                  refine P_skip rfl rfl rfl rfl rfl rfl ?_
                                  refine P_skip rfl rfl rfl rfl rfl rfl ?_
                                  refine P_pG rfl rfl rfl rfl rfl (Ev_pickF rfl rfl) rfl ?_
                                  refine P_p rfl rfl (Ev_pickF rfl rfl) rfl ?_
                                  refine P_done ?_
                                  exact T_metP false () hx1318 trivial (by exact .cons rfl (.cons rfl (.cons rfl (.cons rfl (.cons rfl (.cons rfl (.cons rfl (.cons rfl (.nil))))))))) (by exact .pick 0 rfl (.pick 0 rfl (.pick 0 rfl (.pick 0 rfl (.pick 0 rfl (.pick 0 rfl (.pick 0 rfl (.pick 0 rfl (.refl)))))))))
                              · have hx1319 := ite_f h1267 hx1266
                                refine P_skip rfl rfl rfl rfl rfl rfl ?_
                                refine P_pG rfl rfl rfl rfl rfl (Ev_pickF rfl rfl) rfl ?_
                                refine P_pG rfl rfl rfl rfl rfl (Ev_move rfl) rfl ?_
                                refine P_skip rfl rfl rfl rfl rfl rfl ?_
                                refine P_skip rfl rfl rfl rfl rfl rfl ?_
                                refine P_skip rfl rfl rfl rfl rfl rfl ?_
                                refine P_skip rfl rfl rfl rfl rfl rfl ?_
                                refine P_skip rfl rfl rfl rfl rfl rfl ?_
                                refine P_skip rfl rfl rfl rfl rfl rfl ?_
                                refine P_skip rfl rfl rfl rfl rfl rfl ?_
                                refine P_skip rfl rfl rfl rfl rfl rfl ?_
                                refine P_skip rfl rfl rfl rfl rfl rfl ?_
                                refine P_skip rfl rfl rfl rfl rfl rfl ?_
                                refine P_skip rfl rfl rfl rfl rfl rfl ?_
                                refine P_skip rfl rfl rfl rfl rfl rfl ?_
                                refine P_skip rfl rfl rfl rfl rfl rfl ?_
                                refine P_pG rfl rfl rfl rfl rfl (Ev_pickF rfl rfl) rfl ?_
                                refine P_pG rfl rfl rfl rfl rfl (Ev_move rfl) rfl ?_
                                refine P_skip rfl rfl rfl rfl rfl rfl ?_
                                refine P_skip rfl rfl rfl rfl rfl rfl ?_
                                refine P_skip rfl rfl rfl rfl rfl rfl ?_
                                refine P_skip rfl rfl rfl rfl rfl rfl ?_
                                refine P_skip rfl rfl rfl rfl rfl rfl ?_
                                refine P_skip rfl rfl rfl rfl rfl rfl ?_
                                refine P_skip rfl rfl rfl rfl rfl rfl ?_
                                refine P_skip rfl rfl rfl rfl rfl rfl ?_
                                refine P_skip rfl rfl rfl rfl rfl rfl ?_
                                refine P_skip rfl rfl rfl rfl rfl rfl ?_
                                refine P_skip rfl rfl rfl rfl rfl rfl ?_
                                refine P_skip rfl rfl rfl rfl rfl rfl ?_
                                refine P_skip rfl rfl rfl rfl rfl rfl ?_
                                refine P_pG rfl rfl rfl rfl rfl (Ev_pickF rfl rfl) rfl ?_
                                refine P_p rfl rfl (Ev_pickF rfl rfl) rfl ?_
                                refine P_done ?_
                                exact T_metP false () hx1319 trivial (by exact .cons rfl (.cons rfl (.cons rfl (.cons rfl (.cons rfl (.cons rfl (.cons rfl (.cons rfl (.nil))))))))) (by exact .pick 0 rfl (.pick 0 rfl (.pick 0 rfl (.pick 0 rfl (.pick 0 rfl (.pick 0 rfl (.pick 0 rfl (.pick 0 rfl (.refl)))))))))
                          · have hx1320 := ite_f h1240 hx1231
                            refine P_skip rfl rfl rfl rfl rfl rfl ?_
                            refine P_skip rfl rfl rfl rfl rfl rfl ?_
                            refine P_skip rfl rfl rfl rfl rfl rfl ?_
                            refine P_skip rfl rfl rfl rfl rfl rfl ?_
                            refine P_skip rfl rfl rfl rfl rfl rfl ?_
                            refine P_skip rfl rfl rfl rfl rfl rfl ?_
                            refine P_skip rfl rfl rfl rfl rfl rfl ?_
                            refine P_skip rfl rfl rfl rfl rfl rfl ?_
                            refine P_skip rfl rfl rfl rfl rfl rfl ?_
                            refine P_skip rfl rfl rfl rfl rfl rfl ?_
                            refine P_p rfl rfl (Ev_pickF rfl rfl) rfl ?_
                            refine P_p rfl rfl (Ev_move rfl) rfl ?_
                            refine P_pG rfl rfl rfl rfl rfl (Ev_move rfl) rfl ?_
                            refine P_pG rfl rfl rfl rfl rfl (Ev_field rfl fld26_0 rfl) rfl ?_
                            refine P_pG rfl rfl rfl rfl rfl (Ev_field rfl fld23_3 rfl) rfl ?_
                            refine P_qG rfl rfl rfl rfl rfl (Ev_load1 rfl (i := 6) rfl rfl one3) rfl ?_
                            refine P_pG rfl rfl rfl rfl rfl (Ev_geq rfl rfl) rfl ?_
                            refine P_pG rfl rfl rfl rfl rfl (Ev_move rfl) rfl ?_
                            refine T_caseP (s := 204) rfl (fun h1321 => ?_) (fun h1321 => ?_)
                            · have hx1322 := ite_t h1321 hx1320
                              refine P_pG rfl rfl rfl rfl rfl (Ev_move rfl) rfl ?_
                              refine P_pG rfl rfl rfl rfl rfl (Ev_pickT rfl rfl) rfl ?_
                              refine P_pG rfl rfl rfl rfl rfl (Ev_move rfl) rfl ?_
                              refine T_caseB (s := 207) rfl (fun h1323 => ?_) (fun h1323 => ?_)
                              · have hx1324 := ite_t h1323 hx1322
                                refine P_pG rfl rfl rfl rfl rfl (Ev_move rfl) rfl ?_
                                refine P_pG rfl rfl rfl rfl rfl (Ev_move rfl) rfl ?_
                                refine P_pG rfl rfl rfl rfl rfl (Ev_field rfl fld26_0 rfl) rfl ?_
                                refine P_pG rfl rfl rfl rfl rfl (Ev_field rfl fld23_3 rfl) rfl ?_
                                refine P_qG rfl rfl rfl rfl rfl (Ev_load1 rfl (i := 6) rfl rfl one3) rfl ?_
                                refine P_pG rfl rfl rfl rfl rfl (Ev_sub_w64 rfl rfl) rfl ?_
                                obtain ⟨x1325, h1326, hx1327⟩ := bnd_some hx1324
                                refine T_idxR (k := 4) rfl (by decide) (fun _ => rfl) h1326 (fun b1328 j1330 hA1331 hj1332 hl1333 hm1335 hp1334 => ?_)
                                refine P_pG rfl rfl rfl rfl rfl (Ev_index rfl rfl hA1331 (j := j1330) hj1332 hl1333 slc27) rfl ?_
                                refine P_qG rfl rfl rfl rfl rfl (Ev_loadP0 rfl hp1334 (SubE.cons2 (i := 4) rfl (SubE.nil)) rfl one3) rfl ?_
                                refine P_pG rfl rfl rfl rfl rfl (Ev_move rfl) rfl ?_
                                refine P_pG rfl rfl rfl rfl rfl (Ev_move rfl) rfl ?_
                                obtain ⟨x1336, h1337, hx1338⟩ := bnd_some hx1327
                                refine T_idxR (k := 4) rfl (by decide) (fun _ => rfl) h1337 (fun b1339 j1341 hA1342 hj1343 hl1344 hm1346 hp1345 => ?_)
                                refine P_pG rfl rfl rfl rfl rfl (Ev_index rfl rfl hA1342 (j := j1341) hj1343 hl1344 slc27) rfl ?_
                                refine P_qG rfl rfl rfl rfl rfl (Ev_loadP0 rfl hp1345 (SubE.cons2 (i := 4) rfl (SubE.nil)) rfl one3) rfl ?_
                                refine P_pG rfl rfl rfl rfl rfl (Ev_eql rfl rfl) rfl ?_
                                refine P_pG rfl rfl rfl rfl rfl (Ev_pickT rfl rfl) rfl ?_
                                refine P_pG rfl rfl rfl rfl rfl (Ev_move rfl) rfl ?_
                                refine T_caseP (s := 222) rfl (fun h1347 => ?_) (fun h1347 => ?_)
                                · have hx1348 := ite_t h1347 hx1338
                                  refine P_pG rfl rfl rfl rfl rfl (Ev_move rfl) rfl ?_
                                  refine P_pG rfl rfl rfl rfl rfl (Ev_move rfl) rfl ?_
                                  refine P_pG rfl rfl rfl rfl rfl (Ev_field rfl fld26_0 rfl) rfl ?_
                                  refine P_pG rfl rfl rfl rfl rfl (Ev_field rfl fld23_3 rfl) rfl ?_
                                  refine P_qG rfl rfl rfl rfl rfl (Ev_load1 rfl (i := 6) rfl rfl one3) rfl ?_
                                  refine P_pG rfl rfl rfl rfl rfl (Ev_sub_w64 rfl rfl) rfl ?_
                                  obtain ⟨x1349, h1350, hx1351⟩ := bnd_some hx1348
                                  refine T_idxR (k := 0) rfl (by decide) (fun _ => rfl) h1350 (fun b1352 j1354 hA1355 hj1356 hl1357 hm1359 hp1358 => ?_)
                                  refine P_pG rfl rfl rfl rfl rfl (Ev_index rfl rfl hA1355 (j := j1354) hj1356 hl1357 slc27) rfl ?_
                                  refine P_qG rfl rfl rfl rfl rfl (Ev_loadP0 rfl hp1358 (SubE.cons2 (i := 0) rfl (SubE.nil)) rfl one3) rfl ?_
                                  refine P_pG rfl rfl rfl rfl rfl (Ev_move rfl) rfl ?_
                                  refine P_pG rfl rfl rfl rfl rfl (Ev_move rfl) rfl ?_
                                  obtain ⟨x1360, h1361, hx1362⟩ := bnd_some hx1351
                                  refine T_idxR (k := 0) rfl (by decide) (fun _ => rfl) h1361 (fun b1363 j1365 hA1366 hj1367 hl1368 hm1370 hp1369 => ?_)
                                  refine P_pG rfl rfl rfl rfl rfl (Ev_index rfl rfl hA1366 (j := j1365) hj1367 hl1368 slc27) rfl ?_
                                  refine P_qG rfl rfl rfl rfl rfl (Ev_loadP0 rfl hp1369 (SubE.cons2 (i := 0) rfl (SubE.nil)) rfl one3) rfl ?_
                                  refine P_pG rfl rfl rfl rfl rfl (Ev_neq rfl rfl) rfl ?_
                                  refine P_pG rfl rfl rfl rfl rfl (Ev_pickT rfl rfl) rfl ?_
                                  refine P_p rfl rfl (Ev_pickF rfl rfl) rfl ?_
                                  refine P_done ?_
                                  exact T_metP (!(decide (x1349 = x1360))) () hx1362 trivial (by exact .cons rfl (.cons rfl (.cons rfl (.cons rfl (.cons rfl (.cons rfl (.cons rfl (.cons rfl (.nil))))))))) (by exact .pick 0 rfl (.pick 0 rfl (.pick 0 rfl (.pick 0 rfl (.pick 0 rfl (.pick 0 rfl (.pick 0 rfl (.pick 0 rfl (.refl)))))))))
                                · have hx1371 := ite_f h1347 hx1338
                                  refine P_skip rfl rfl rfl rfl rfl rfl ?_
                                  refine P_skip rfl rfl rfl rfl rfl rfl ?_
                                  refine P_skip rfl rfl rfl rfl rfl rfl ?_
                                  refine P_skip rfl rfl rfl rfl rfl rfl ?_
                                  refine P_skip rfl rfl rfl rfl rfl rfl ?_
                                  refine P_skip rfl rfl rfl rfl rfl rfl ?_
                                  refine P_skip rfl rfl rfl rfl rfl rfl ?_
                                  refine P_skip rfl rfl rfl rfl rfl rfl ?_
                                  refine P_skip rfl rfl rfl rfl rfl rfl ?_
                                  refine P_skip rfl rfl rfl rfl rfl rfl ?_
                                  refine P_skip rfl rfl rfl rfl rfl rfl ?_
                                  refine P_skip rfl rfl rfl rfl rfl rfl ?_
                                  refine P_skip rfl rfl rfl rfl rfl rfl ?_
                                  refine P_pG rfl rfl rfl rfl rfl (Ev_pickF rfl rfl) rfl ?_
                                  refine P_p rfl rfl (Ev_pickF rfl rfl) rfl ?_
                                  refine P_done ?_
                                  exact T_metP false () hx1371 trivial (by exact .cons rfl (.cons rfl (.cons rfl (.cons rfl (.cons rfl (.cons rfl (.cons rfl (.cons rfl (.nil))))))))) (by exact .pick 0 rfl (.pick 0 rfl (.pick 0 rfl (.pick 0 rfl (.pick 0 rfl (.pick 0 rfl (.pick 0 rfl (.pick 0 rfl (.refl)))))))))
                              · have hx1372 := ite_bf h1323 hx1322
                                refine P_skip rfl rfl rfl rfl rfl rfl ?_
                                refine P_skip rfl rfl rfl rfl rfl rfl ?_
                                refine P_skip rfl rfl rfl rfl rfl rfl ?_
                                refine P_skip rfl rfl rfl rfl rfl rfl ?_
                                refine P_skip rfl rfl rfl rfl rfl rfl ?_
                                refine P_skip rfl rfl rfl rfl rfl rfl ?_
                                refine P_skip rfl rfl rfl rfl rfl rfl ?_
                                refine P_skip rfl rfl rfl rfl rfl rfl ?_
                                refine P_skip rfl rfl rfl rfl rfl rfl ?_
                                refine P_skip rfl rfl rfl rfl rfl rfl ?_
                                refine P_skip rfl rfl rfl rfl rfl rfl ?_
                                refine P_skip rfl rfl rfl rfl rfl rfl ?_
                                refine P_skip rfl rfl rfl rfl rfl rfl ?_
                                refine P_pG rfl rfl rfl rfl rfl (Ev_pickF rfl rfl) rfl ?_
                                refine P_pG rfl rfl rfl rfl rfl (Ev_move rfl) rfl ?_
                                refine P_skip rfl rfl rfl rfl rfl rfl ?_
                                refine P_skip rfl rfl rfl rfl rfl rfl ?_
                                refine P_skip rfl rfl rfl rfl rfl rfl ?_
                                refine P_skip rfl rfl rfl rfl rfl rfl ?_
                                refine P_skip rfl rfl rfl rfl rfl rfl ?_
                                refine P_skip rfl rfl rfl rfl rfl rfl ?_
                                refine P_skip rfl rfl rfl rfl rfl rfl ?_
                                refine P_skip rfl rfl rfl rfl rfl rfl ?_
                                refine P_skip rfl rfl rfl rfl rfl rfl ?_
                                refine P_skip rfl rfl rfl rfl rfl rfl ?_
                                refine P_skip rfl rfl rfl rfl rfl rfl ?_
                                refine P_skip rfl rfl rfl rfl rfl rfl ?_
                                refine P_skip rfl rfl rfl rfl rfl rfl ?_
                                refine P_pG rfl rfl rfl rfl rfl (Ev_pickF rfl rfl) rfl ?_
                                refine P_p rfl rfl (Ev_pickF rfl rfl) rfl ?_
                                refine P_done ?_
                                exact T_metP false () hx1372 trivial (by exact .cons rfl (.cons rfl (.cons rfl (.cons rfl (.cons rfl (.cons rfl (.cons rfl (.cons rfl (.nil))))))))) (by exact .pick 0 rfl (.pick 0 rfl (.pick 0 rfl (.pick 0 rfl (.pick 0 rfl (.pick 0 rfl (.pick 0 rfl (.pick 0 rfl (.refl)))))))))
                            · have hx1373 := ite_f h1321 hx1320
                              refine P_skip rfl rfl rfl rfl rfl rfl ?_
                              refine P_pG rfl rfl rfl rfl rfl (Ev_pickF rfl rfl) rfl ?_
                              refine P_pG rfl rfl rfl rfl rfl (Ev_move rfl) rfl ?_
                              refine P_skip rfl rfl rfl rfl rfl rfl ?_
                              refine P_skip rfl rfl rfl rfl rfl rfl ?_
                              refine P_skip rfl rfl rfl rfl rfl rfl ?_
                              refine P_skip rfl rfl rfl rfl rfl rfl ?_
                              refine P_skip rfl rfl rfl rfl rfl rfl ?_
                              refine P_skip rfl rfl rfl rfl rfl rfl ?_
                              refine P_skip rfl rfl rfl rfl rfl rfl ?_
                              refine P_skip rfl rfl rfl rfl rfl rfl ?_
                              refine P_skip rfl rfl rfl rfl rfl rfl ?_
                              refine P_skip rfl rfl rfl rfl rfl rfl ?_
                              refine P_skip rfl rfl rfl rfl rfl rfl ?_
                              refine P_skip rfl rfl rfl rfl rfl rfl ?_
                              refine P_skip rfl rfl rfl rfl rfl rfl ?_
                              refine P_pG rfl rfl rfl rfl rfl (Ev_pickF rfl rfl) rfl ?_
                              refine P_pG rfl rfl rfl rfl rfl (Ev_move rfl) rfl ?_
                              refine P_skip rfl rfl rfl rfl rfl rfl ?_
                              refine P_skip rfl rfl rfl rfl rfl rfl ?_
                              refine P_skip rfl rfl rfl rfl rfl rfl ?_
                              refine P_skip rfl rfl rfl rfl rfl rfl ?_
                              refine P_skip rfl rfl rfl rfl rfl rfl ?_
                              refine P_skip rfl rfl rfl rfl rfl rfl ?_
                              refine P_skip rfl rfl rfl rfl rfl rfl ?_
                              refine P_skip rfl rfl rfl rfl rfl rfl ?_
                              refine P_skip rfl rfl rfl rfl rfl rfl ?_
                              refine P_skip rfl rfl rfl rfl rfl rfl ?_
                              refine P_skip rfl rfl rfl rfl rfl rfl ?_
                              refine P_skip rfl rfl rfl rfl rfl rfl ?_
                              refine P_skip rfl rfl rfl rfl rfl rfl ?_
                              refine P_pG rfl rfl rfl rfl rfl (Ev_pickF rfl rfl) rfl ?_
                              refine P_p rfl rfl (Ev_pickF rfl rfl) rfl ?_
                              refine P_done ?_
                              exact T_metP false () hx1373 trivial (by exact .cons rfl (.cons rfl (.cons rfl (.cons rfl (.cons rfl (.cons rfl (.cons rfl (.cons rfl (.nil))))))))) (by exact .pick 0 rfl (.pick 0 rfl (.pick 0 rfl (.pick 0 rfl (.pick 0 rfl (.pick 0 rfl (.pick 0 rfl (.pick 0 rfl (.refl)))))))))
                        · have hx1374 := ite_bf h1216 hx1215
                          refine P_skip rfl rfl rfl rfl rfl rfl ?_
                          refine P_skip rfl rfl rfl rfl rfl rfl ?_
                          refine P_skip rfl rfl rfl rfl rfl rfl ?_
                          refine P_skip rfl rfl rfl rfl rfl rfl ?_
                          refine P_skip rfl rfl rfl rfl rfl rfl ?_
                          refine P_skip rfl rfl rfl rfl rfl rfl ?_
                          refine P_skip rfl rfl rfl rfl rfl rfl ?_
                          refine P_skip rfl rfl rfl rfl rfl rfl ?_
                          refine P_skip rfl rfl rfl rfl rfl rfl ?_
                          refine P_skip rfl rfl rfl rfl rfl rfl ?_
                          refine P_p rfl rfl (Ev_pickF rfl rfl) rfl ?_
                          refine P_p rfl rfl (Ev_move rfl) rfl ?_
                          refine P_skip rfl rfl rfl rfl rfl rfl ?_
                          refine P_skip rfl rfl rfl rfl rfl rfl ?_
                          refine P_skip rfl rfl rfl rfl rfl rfl ?_
                          refine P_skip rfl rfl rfl rfl rfl rfl ?_
                          refine P_skip rfl rfl rfl rfl rfl rfl ?_
                          refine P_skip rfl rfl rfl rfl rfl rfl ?_
                          refine P_skip rfl rfl rfl rfl rfl rfl ?_
                          refine P_skip rfl rfl rfl rfl rfl rfl ?_
                          refine P_skip rfl rfl rfl rfl rfl rfl ?_
                          refine P_skip rfl rfl rfl rfl rfl rfl ?_
                          refine P_p rfl rfl (Ev_pickF rfl rfl) rfl ?_
                          refine P_p rfl rfl (Ev_move rfl) rfl ?_
                          refine P_pG rfl rfl rfl rfl rfl (Ev_move rfl) rfl ?_
                          refine P_pG rfl rfl rfl rfl rfl (Ev_field rfl fld26_0 rfl) rfl ?_
                          refine P_pG rfl rfl rfl rfl rfl (Ev_field rfl fld23_3 rfl) rfl ?_
                          refine P_qG rfl rfl rfl rfl rfl (Ev_load1 rfl (i := 6) rfl rfl one3) rfl ?_
                          refine P_pG rfl rfl rfl rfl rfl (Ev_geq rfl rfl) rfl ?_
                          refine P_pG rfl rfl rfl rfl rfl (Ev_move rfl) rfl ?_
                          refine T_caseP (s := 204) rfl (fun h1375 => ?_) (fun h1375 => ?_)
                          · have hx1376 := ite_t h1375 hx1374
                            refine P_pG rfl rfl rfl rfl rfl (Ev_move rfl) rfl ?_
                            refine P_pG rfl rfl rfl rfl rfl (Ev_pickT rfl rfl) rfl ?_
                            refine P_pG rfl rfl rfl rfl rfl (Ev_move rfl) rfl ?_
                            refine T_caseB (s := 207) rfl (fun h1377 => ?_) (fun h1377 => ?_)
                            · have hx1378 := ite_t h1377 hx1376
                              refine P_pG rfl rfl rfl rfl rfl (Ev_move rfl) rfl ?_
                              refine P_pG rfl rfl rfl rfl rfl (Ev_move rfl) rfl ?_
                              refine P_pG rfl rfl rfl rfl rfl (Ev_field rfl fld26_0 rfl) rfl ?_
                              refine P_pG rfl rfl rfl rfl rfl (Ev_field rfl fld23_3 rfl) rfl ?_
                              refine P_qG rfl rfl rfl rfl rfl (Ev_load1 rfl (i := 6) rfl rfl one3) rfl ?_
                              refine P_pG rfl rfl rfl rfl rfl (Ev_sub_w64 rfl rfl) rfl ?_
                              obtain ⟨x1379, h1380, hx1381⟩ := bnd_some hx1378
                              refine T_idxR (k := 4) rfl (by decide) (fun _ => rfl) h1380 (fun b1382 j1384 hA1385 hj1386 hl1387 hm1389 hp1388 => ?_)
                              refine P_pG rfl rfl rfl rfl rfl (Ev_index rfl rfl hA1385 (j := j1384) hj1386 hl1387 slc27) rfl ?_
                              refine P_qG rfl rfl rfl rfl rfl (Ev_loadP0 rfl hp1388 (SubE.cons2 (i := 4) rfl (SubE.nil)) rfl one3) rfl ?_
                              refine P_pG rfl rfl rfl rfl rfl (Ev_move rfl) rfl ?_
                              refine P_pG rfl rfl rfl rfl rfl (Ev_move rfl) rfl ?_
                              obtain ⟨x1390, h1391, hx1392⟩ := bnd_some hx1381
                              refine T_idxR (k := 4) rfl (by decide) (fun _ => rfl) h1391 (fun b1393 j1395 hA1396 hj1397 hl1398 hm1400 hp1399 => ?_)
                              refine P_pG rfl rfl rfl rfl rfl (Ev_index rfl rfl hA1396 (j := j1395) hj1397 hl1398 slc27) rfl ?_
                              refine P_qG rfl rfl rfl rfl rfl (Ev_loadP0 rfl hp1399 (SubE.cons2 (i := 4) rfl (SubE.nil)) rfl one3) rfl ?_
                              refine P_pG rfl rfl rfl rfl rfl (Ev_eql rfl rfl) rfl ?_
                              refine P_pG rfl rfl rfl rfl rfl (Ev_pickT rfl rfl) rfl ?_
                              refine P_pG rfl rfl rfl rfl rfl (Ev_move rfl) rfl ?_
                              refine T_caseP (s := 222) rfl (fun h1401 => ?_) (fun h1401 => ?_)
                              · have hx1402 := ite_t h1401 hx1392
                                refine P_pG rfl rfl rfl rfl rfl (Ev_move rfl) rfl ?_
                                refine P_pG rfl rfl rfl rfl rfl (Ev_move rfl) rfl ?_
                                refine P_pG rfl rfl rfl rfl rfl (Ev_field rfl fld26_0 rfl) rfl ?_
                                refine P_pG rfl rfl rfl rfl rfl (Ev_field rfl fld23_3 rfl) rfl ?_
                                refine P_qG rfl rfl rfl rfl rfl (Ev_load1 rfl (i := 6) rfl rfl one3) rfl ?_
                                refine P_pG rfl rfl rfl rfl rfl (Ev_sub_w64 rfl rfl) rfl ?_
                                obtain ⟨x1403, h1404, hx1405⟩ := bnd_some hx1402
                                refine T_idxR (k := 0) rfl (by decide) (fun _ => rfl) h1404 (fun b1406 j1408 hA1409 hj1410 hl1411 hm1413 hp1412 => ?_)
                                refine P_pG rfl rfl rfl rfl rfl (Ev_index rfl rfl hA1409 (j := j1408) hj1410 hl1411 slc27) rfl ?_
                                refine P_qG rfl rfl rfl rfl rfl (Ev_loadP0 rfl hp1412 (SubE.cons2 (i := 0) rfl (SubE.nil)) rfl one3) rfl ?_
                                refine P_pG rfl rfl rfl rfl rfl (Ev_move rfl) rfl ?_
                                refine P_pG rfl rfl rfl rfl rfl (Ev_move rfl) rfl ?_
                                obtain ⟨x1414, h1415, hx1416⟩ := bnd_some hx1405
                                refine T_idxR (k := 0) rfl (by decide) (fun _ => rfl) h1415 (fun b1417 j1419 hA1420 hj1421 hl1422 hm1424 hp1423 => ?_)
                                refine P_pG rfl rfl rfl rfl rfl (Ev_index rfl rfl hA1420 (j := j1419) hj1421 hl1422 slc27) rfl ?_
                                refine P_qG rfl rfl rfl rfl rfl (Ev_loadP0 rfl hp1423 (SubE.cons2 (i := 0) rfl (SubE.nil)) rfl one3) rfl ?_
                                refine P_pG rfl rfl rfl rfl rfl (Ev_neq rfl rfl) rfl ?_
                                refine P_pG rfl rfl rfl rfl rfl (Ev_pickT rfl rfl) rfl ?_
                                refine P_p rfl rfl (Ev_pickF rfl rfl) rfl ?_
                                refine P_done ?_
                                exact T_metP (!(decide (x1403 = x1414))) () hx1416 trivial (by exact .cons rfl (.cons rfl (.cons rfl (.cons rfl (.cons rfl (.cons rfl (.cons rfl (.cons rfl (.nil))))))))) (by exact .pick 0 rfl (.pick 0 rfl (.pick 0 rfl (.pick 0 rfl (.pick 0 rfl (.pick 0 rfl (.pick 0 rfl (.pick 0 rfl (.refl)))))))))
                              · have hx1425 := ite_f h1401 hx1392
                                refine P_skip rfl rfl rfl rfl rfl rfl ?_
                                refine P_skip rfl rfl rfl rfl rfl rfl ?_
                                refine P_skip rfl rfl rfl rfl rfl rfl ?_
                                refine P_skip rfl rfl rfl rfl rfl rfl ?_
                                refine P_skip rfl rfl rfl rfl rfl rfl ?_
                                refine P_skip rfl rfl rfl rfl rfl rfl ?_
                                refine P_skip rfl rfl rfl rfl rfl rfl ?_
                                refine P_skip rfl rfl rfl rfl rfl rfl ?_
                                refine P_skip rfl rfl rfl rfl rfl rfl ?_
                                refine P_skip rfl rfl rfl rfl rfl rfl ?_
                                refine P_skip rfl rfl rfl rfl rfl rfl ?_
                                refine P_skip rfl rfl rfl rfl rfl rfl ?_
                                refine P_skip rfl rfl rfl rfl rfl rfl ?_
                                refine P_pG rfl rfl rfl rfl rfl (Ev_pickF rfl rfl) rfl ?_
                                refine P_p rfl rfl (Ev_pickF rfl rfl) rfl ?_
                                refine P_done ?_
                                exact T_metP false () hx1425 trivial (by exact .cons rfl (.cons rfl (.cons rfl (.cons rfl (.cons rfl (.cons rfl (.cons rfl (.cons rfl (.nil))))))))) (by exact .pick 0 rfl (.pick 0 rfl (.pick 0 rfl (.pick 0 rfl (.pick 0 rfl (.pick 0 rfl (.pick 0 rfl (.pick 0 rfl (.refl)))))))))
                            · have hx1426 := ite_bf h1377 hx1376
                              refine P_skip rfl rfl rfl rfl rfl rfl ?_
                              refine P_skip rfl rfl rfl rfl rfl rfl ?_
                              refine P_skip rfl rfl rfl rfl rfl rfl ?_
                              refine P_skip rfl rfl rfl rfl rfl rfl ?_
                              refine P_skip rfl rfl rfl rfl rfl rfl ?_
                              refine P_skip rfl rfl rfl rfl rfl rfl ?_
                              refine P_skip rfl rfl rfl rfl rfl rfl ?_
                              refine P_skip rfl rfl rfl rfl rfl rfl ?_
                              refine P_skip rfl rfl rfl rfl rfl rfl ?_
                              refine P_skip rfl rfl rfl rfl rfl rfl ?_
                              refine P_skip rfl rfl rfl rfl rfl rfl ?_
                              refine P_skip rfl rfl rfl rfl rfl rfl ?_
                              refine P_skip rfl rfl rfl rfl rfl rfl ?_
                              refine P_pG rfl rfl rfl rfl rfl (Ev_pickF rfl rfl) rfl ?_
                              refine P_pG rfl rfl rfl rfl rfl (Ev_move rfl) rfl ?_
                              refine P_skip rfl rfl rfl rfl rfl rfl ?_
                              refine P_skip rfl rfl rfl rfl rfl rfl ?_
                              refine P_skip rfl rfl rfl rfl rfl rfl ?_
                              refine P_skip rfl rfl rfl rfl rfl rfl ?_
                              refine P_skip rfl rfl rfl rfl rfl rfl ?_
                              refine P_skip rfl rfl rfl rfl rfl rfl ?_
                              refine P_skip rfl rfl rfl rfl rfl rfl ?_
                              refine P_skip rfl rfl rfl rfl rfl rfl ?_
                              refine P_skip rfl rfl rfl rfl rfl rfl ?_
                              refine P_skip rfl rfl rfl rfl rfl rfl ?_
                              refine P_skip rfl rfl rfl rfl rfl rfl ?_
                              refine P_skip rfl rfl rfl rfl rfl rfl ?_
                              refine P_skip rfl rfl rfl rfl rfl rfl ?_
                              refine P_pG rfl rfl rfl rfl rfl (Ev_pickF rfl rfl) rfl ?_
                              refine P_p rfl rfl (Ev_pickF rfl rfl) rfl ?_
                              refine P_done ?_
                              exact T_metP false () hx1426 trivial (by exact .cons rfl (.cons rfl (.cons rfl (.cons rfl (.cons rfl (.cons rfl (.cons rfl (.cons rfl (.nil))))))))) (by exact .pick 0 rfl (.pick 0 rfl (.pick 0 rfl (.pick 0 rfl (.pick 0 rfl (.pick 0 rfl (.pick 0 rfl (.pick 0 rfl (.refl)))))))))
                          · have hx1427 := ite_f h1375 hx1374
                            refine P_skip rfl rfl rfl rfl rfl rfl ?_
                            refine P_pG rfl rfl rfl rfl rfl (Ev_pickF rfl rfl) rfl ?_
                            refine P_pG rfl rfl rfl rfl rfl (Ev_move rfl) rfl ?_
                            refine P_skip rfl rfl rfl rfl rfl rfl ?_
                            refine P_skip rfl rfl rfl rfl rfl rfl ?_
                            refine P_skip rfl rfl rfl rfl rfl rfl ?_
                            refine P_skip rfl rfl rfl rfl rfl rfl ?_
                            refine P_skip rfl rfl rfl rfl rfl rfl ?_
                            refine P_skip rfl rfl rfl rfl rfl rfl ?_
                            refine P_skip rfl rfl rfl rfl rfl rfl ?_
                            refine P_skip rfl rfl rfl rfl rfl rfl ?_
                            refine P_skip rfl rfl rfl rfl rfl rfl ?_
                            refine P_skip rfl rfl rfl rfl rfl rfl ?_
                            refine P_skip rfl rfl rfl rfl rfl rfl ?_
                            refine P_skip rfl rfl rfl rfl rfl rfl ?_
                            refine P_skip rfl rfl rfl rfl rfl rfl ?_
                            refine P_pG rfl rfl rfl rfl rfl (Ev_pickF rfl rfl) rfl ?_
                            refine P_pG rfl rfl rfl rfl rfl (Ev_move rfl) rfl ?_
                            refine P_skip rfl rfl rfl rfl rfl rfl ?_
                            refine P_skip rfl rfl rfl rfl rfl rfl ?_
                            refine P_skip rfl rfl rfl rfl rfl rfl ?_
                            refine P_skip rfl rfl rfl rfl rfl rfl ?_
                            refine P_skip rfl rfl rfl rfl rfl rfl ?_
                            refine P_skip rfl rfl rfl rfl rfl rfl ?_
                            refine P_skip rfl rfl rfl rfl rfl rfl ?_
                            refine P_skip rfl rfl rfl rfl rfl rfl ?_
                            refine P_skip rfl rfl rfl rfl rfl rfl ?_
                            refine P_skip rfl rfl rfl rfl rfl rfl ?_
                            refine P_skip rfl rfl rfl rfl rfl rfl ?_
                            refine P_skip rfl rfl rfl rfl rfl rfl ?_
                            refine P_skip rfl rfl rfl rfl rfl rfl ?_
                            refine P_pG rfl rfl rfl rfl rfl (Ev_pickF rfl rfl) rfl ?_
                            refine P_p rfl rfl (Ev_pickF rfl rfl) rfl ?_
                            refine P_done ?_
                            exact T_metP false () hx1427 trivial (by exact .cons rfl (.cons rfl (.cons rfl (.cons rfl (.cons rfl (.cons rfl (.cons rfl (.cons rfl (.nil))))))))) (by exact .pick 0 rfl (.pick 0 rfl (.pick 0 rfl (.pick 0 rfl (.pick 0 rfl (.pick 0 rfl (.pick 0 rfl (.pick 0 rfl (.refl)))))))))
                      · have hx1428 := ite_f h1214 hx1213
                        refine P_skip rfl rfl rfl rfl rfl rfl ?_
                        refine P_p rfl rfl (Ev_pickF rfl rfl) rfl ?_
                        refine P_p rfl rfl (Ev_move rfl) rfl ?_
                        refine P_skip rfl rfl rfl rfl rfl rfl ?_
                        refine P_skip rfl rfl rfl rfl rfl rfl ?_
                        refine P_skip rfl rfl rfl rfl rfl rfl ?_
                        refine P_skip rfl rfl rfl rfl rfl rfl ?_
                        refine P_skip rfl rfl rfl rfl rfl rfl ?_
                        refine P_skip rfl rfl rfl rfl rfl rfl ?_
                        refine P_skip rfl rfl rfl rfl rfl rfl ?_
                        refine P_skip rfl rfl rfl rfl rfl rfl ?_
                        refine P_skip rfl rfl rfl rfl rfl rfl ?_
                        refine P_skip rfl rfl rfl rfl rfl rfl ?_
                        refine P_p rfl rfl (Ev_pickF rfl rfl) rfl ?_
                        refine P_p rfl rfl (Ev_move rfl) rfl ?_
                        refine P_skip rfl rfl rfl rfl rfl rfl ?_
                        refine P_skip rfl rfl rfl rfl rfl rfl ?_
                        refine P_skip rfl rfl rfl rfl rfl rfl ?_
                        refine P_skip rfl rfl rfl rfl rfl rfl ?_
                        refine P_skip rfl rfl rfl rfl rfl rfl ?_
                        refine P_skip rfl rfl rfl rfl rfl rfl ?_
                        refine P_skip rfl rfl rfl rfl rfl rfl ?_
                        refine P_skip rfl rfl rfl rfl rfl rfl ?_
                        refine P_skip rfl rfl rfl rfl rfl rfl ?_
                        refine P_skip rfl rfl rfl rfl rfl rfl ?_
                        refine P_p rfl rfl (Ev_pickF rfl rfl) rfl ?_
                        refine P_p rfl rfl (Ev_move rfl) rfl ?_
                        refine P_pG rfl rfl rfl rfl rfl (Ev_move rfl) rfl ?_
                        refine P_pG rfl rfl rfl rfl rfl (Ev_field rfl fld26_0 rfl) rfl ?_
                        refine P_pG rfl rfl rfl rfl rfl (Ev_field rfl fld23_3 rfl) rfl ?_
                        refine P_qG rfl rfl rfl rfl rfl (Ev_load1 rfl (i := 6) rfl rfl one3) rfl ?_
                        refine P_pG rfl rfl rfl rfl rfl (Ev_geq rfl rfl) rfl ?_
                        refine P_pG rfl rfl rfl rfl rfl (Ev_move rfl) rfl ?_
                        refine T_caseP (s := 204) rfl (fun h1429 => ?_) (fun h1429 => ?_)
                        · have hx1430 := ite_t h1429 hx1428
                          refine P_pG rfl rfl rfl rfl rfl (Ev_move rfl) rfl ?_
                          refine P_pG rfl rfl rfl rfl rfl (Ev_pickT rfl rfl) rfl ?_
                          refine P_pG rfl rfl rfl rfl rfl (Ev_move rfl) rfl ?_
                          refine T_caseB (s := 207) rfl (fun h1431 => ?_) (fun h1431 => ?_)
                          · have hx1432 := ite_t h1431 hx1430
                            refine P_pG rfl rfl rfl rfl rfl (Ev_move rfl) rfl ?_
                            refine P_pG rfl rfl rfl rfl rfl (Ev_move rfl) rfl ?_
                            refine P_pG rfl rfl rfl rfl rfl (Ev_field rfl fld26_0 rfl) rfl ?_
                            refine P_pG rfl rfl rfl rfl rfl (Ev_field rfl fld23_3 rfl) rfl ?_
                            refine P_qG rfl rfl rfl rfl rfl (Ev_load1 rfl (i := 6) rfl rfl one3) rfl ?_
                            refine P_pG rfl rfl rfl rfl rfl (Ev_sub_w64 rfl rfl) rfl ?_
                            obtain ⟨x1433, h1434, hx1435⟩ := bnd_some hx1432
                            refine T_idxR (k := 4) rfl (by decide) (fun _ => rfl) h1434 (fun b1436 j1438 hA1439 hj1440 hl1441 hm1443 hp1442 => ?_)
                            refine P_pG rfl rfl rfl rfl rfl (Ev_index rfl rfl hA1439 (j := j1438) hj1440 hl1441 slc27) rfl ?_
                            refine P_qG rfl rfl rfl rfl rfl (Ev_loadP0 rfl hp1442 (SubE.cons2 (i := 4) rfl (SubE.nil)) rfl one3) rfl ?_
                            refine P_pG rfl rfl rfl rfl rfl (Ev_move rfl) rfl ?_
                            refine P_pG rfl rfl rfl rfl rfl (Ev_move rfl) rfl ?_
                            obtain ⟨x1444, h1445, hx1446⟩ := bnd_some hx1435
                            refine T_idxR (k := 4) rfl (by decide) (fun _ => rfl) h1445 (fun b1447 j1449 hA1450 hj1451 hl1452 hm1454 hp1453 => ?_)
                            refine P_pG rfl rfl rfl rfl rfl (Ev_index rfl rfl hA1450 (j := j1449) hj1451 hl1452 slc27) rfl ?_
                            refine P_qG rfl rfl rfl rfl rfl (Ev_loadP0 rfl hp1453 (SubE.cons2 (i := 4) rfl (SubE.nil)) rfl one3) rfl ?_
                            refine P_pG rfl rfl rfl rfl rfl (Ev_eql rfl rfl) rfl ?_
                            refine P_pG rfl rfl rfl rfl rfl (Ev_pickT rfl rfl) rfl ?_
                            refine P_pG rfl rfl rfl rfl rfl (Ev_move rfl) rfl ?_
                            refine T_caseP (s := 222) rfl (fun h1455 => ?_) (fun h1455 => ?_)
                            · have hx1456 := ite_t h1455 hx1446
                              refine P_pG rfl rfl rfl rfl rfl (Ev_move rfl) rfl ?_
                              refine P_pG rfl rfl rfl rfl rfl (Ev_move rfl) rfl ?_
                              refine P_pG rfl rfl rfl rfl rfl (Ev_field rfl fld26_0 rfl) rfl ?_
                              refine P_pG rfl rfl rfl rfl rfl (Ev_field rfl fld23_3 rfl) rfl ?_
                              refine P_qG rfl rfl rfl rfl rfl (Ev_load1 rfl (i := 6) rfl rfl one3) rfl ?_
                              refine P_pG rfl rfl rfl rfl rfl (Ev_sub_w64 rfl rfl) rfl ?_
                              obtain ⟨x1457, h1458, hx1459⟩ := bnd_some hx1456
                              refine T_idxR (k := 0) rfl (by decide) (fun _ => rfl) h1458 (fun b1460 j1462 hA1463 hj1464 hl1465 hm1467 hp1466 => ?_)
                              refine P_pG rfl rfl rfl rfl rfl (Ev_index rfl rfl hA1463 (j := j1462) hj1464 hl1465 slc27) rfl ?_
                              refine P_qG rfl rfl rfl rfl rfl (Ev_loadP0 rfl hp1466 (SubE.cons2 (i := 0) rfl (SubE.nil)) rfl one3) rfl ?_
                              refine P_pG rfl rfl rfl rfl rfl (Ev_move rfl) rfl ?_
                              refine P_pG rfl rfl rfl rfl rfl (Ev_move rfl) rfl ?_
                              obtain ⟨x1468, h1469, hx1470⟩ := bnd_some hx1459
                              refine T_idxR (k := 0) rfl (by decide) (fun _ => rfl) h1469 (fun b1471 j1473 hA1474 hj1475 hl1476 hm1478 hp1477 => ?_)
                              refine P_pG rfl rfl rfl rfl rfl (Ev_index rfl rfl hA1474 (j := j1473) hj1475 hl1476 slc27) rfl ?_
                              refine P_qG rfl rfl rfl rfl rfl (Ev_loadP0 rfl hp1477 (SubE.cons2 (i := 0) rfl (SubE.nil)) rfl one3) rfl ?_
                              refine P_pG rfl rfl rfl rfl rfl (Ev_neq rfl rfl) rfl ?_
                              refine P_pG rfl rfl rfl rfl rfl (Ev_pickT rfl rfl) rfl ?_
                              refine P_p rfl rfl (Ev_pickF rfl rfl) rfl ?_
                              refine P_done ?_
                              exact T_metP (!(decide (x1457 = x1468))) () hx1470 trivial (by exact .cons rfl (.cons rfl (.cons rfl (.cons rfl (.cons rfl (.cons rfl (.cons rfl (.cons rfl (.nil))))))))) (by exact .pick 0 rfl (.pick 0 rfl (.pick 0 rfl (.pick 0 rfl (.pick 0 rfl (.pick 0 rfl (.pick 0 rfl (.pick 0 rfl (.refl)))))))))
                            · have hx1479 := ite_f h1455 hx1446
                              refine P_skip rfl rfl rfl rfl rfl rfl ?_
                              refine P_skip rfl rfl rfl rfl rfl rfl ?_
                              refine P_skip rfl rfl rfl rfl rfl rfl ?_
                              refine P_skip rfl rfl rfl rfl rfl rfl ?_
                              refine P_skip rfl rfl rfl rfl rfl rfl ?_
                              refine P_skip rfl rfl rfl rfl rfl rfl ?_
                              refine P_skip rfl rfl rfl rfl rfl rfl ?_
                              refine P_skip rfl rfl rfl rfl rfl rfl ?_
                              refine P_skip rfl rfl rfl rfl rfl rfl ?_
                              refine P_skip rfl rfl rfl rfl rfl rfl ?_
                              refine P_skip rfl rfl rfl rfl rfl rfl ?_
                              refine P_skip rfl rfl rfl rfl rfl rfl ?_
                              refine P_skip rfl rfl rfl rfl rfl rfl ?_
                              refine P_pG rfl rfl rfl rfl rfl (Ev_pickF rfl rfl) rfl ?_
                              refine P_p rfl rfl (Ev_pickF rfl rfl) rfl ?_
                              refine P_done ?_
                              exact T_metP false () hx1479 trivial (by exact .cons rfl (.cons rfl (.cons rfl (.cons rfl (.cons rfl (.cons rfl (.cons rfl (.cons rfl (.nil))))))))) (by exact .pick 0 rfl (.pick 0 rfl (.pick 0 rfl (.pick 0 rfl (.pick 0 rfl (.pick 0 rfl (.pick 0 rfl (.pick 0 rfl (.refl)))))))))
                          · have hx1480 := ite_bf h1431 hx1430
                            refine P_skip rfl rfl rfl rfl rfl rfl ?_
                            refine P_skip rfl rfl rfl rfl rfl rfl ?_
                            refine P_skip rfl rfl rfl rfl rfl rfl ?_
                            refine P_skip rfl rfl rfl rfl rfl rfl ?_
                            refine P_skip rfl rfl rfl rfl rfl rfl ?_
                            refine P_skip rfl rfl rfl rfl rfl rfl ?_
                            refine P_skip rfl rfl rfl rfl rfl rfl ?_
                            refine P_skip rfl rfl rfl rfl rfl rfl ?_
                            refine P_skip rfl rfl rfl rfl rfl rfl ?_
                            refine P_skip rfl rfl rfl rfl rfl rfl ?_
                            refine P_skip rfl rfl rfl rfl rfl rfl ?_
                            refine P_skip rfl rfl rfl rfl rfl rfl ?_
                            refine P_skip rfl rfl rfl rfl rfl rfl ?_
                            refine P_pG rfl rfl rfl rfl rfl (Ev_pickF rfl rfl) rfl ?_
                            refine P_pG rfl rfl rfl rfl rfl (Ev_move rfl) rfl ?_
                            refine P_skip rfl rfl rfl rfl rfl rfl ?_
                            refine P_skip rfl rfl rfl rfl rfl rfl ?_
                            refine P_skip rfl rfl rfl rfl rfl rfl ?_
                            refine P_skip rfl rfl rfl rfl rfl rfl ?_
                            refine P_skip rfl rfl rfl rfl rfl rfl ?_
                            refine P_skip rfl rfl rfl rfl rfl rfl ?_
                            refine P_skip rfl rfl rfl rfl rfl rfl ?_
                            refine P_skip rfl rfl rfl rfl rfl rfl ?_
                            refine P_skip rfl rfl rfl rfl rfl rfl ?_
                            refine P_skip rfl rfl rfl rfl rfl rfl ?_
                            refine P_skip rfl rfl rfl rfl rfl rfl ?_
                            refine P_skip rfl rfl rfl rfl rfl rfl ?_
                            refine P_skip rfl rfl rfl rfl rfl rfl ?_
                            refine P_pG rfl rfl rfl rfl rfl (Ev_pickF rfl rfl) rfl ?_
                            refine P_p rfl rfl (Ev_pickF rfl rfl) rfl ?_
                            refine P_done ?_
                            exact T_metP false () hx1480 trivial (by exact .cons rfl (.cons rfl (.cons rfl (.cons rfl (.cons rfl (.cons rfl (.cons rfl (.cons rfl (.nil))))))))) (by exact .pick 0 rfl (.pick 0 rfl (.pick 0 rfl (.pick 0 rfl (.pick 0 rfl (.pick 0 rfl (.pick 0 rfl (.pick 0 rfl (.refl)))))))))
                        · have hx1481 := ite_f h1429 hx1428
                          refine P_skip rfl rfl rfl rfl rfl rfl ?_
                          refine P_pG rfl rfl rfl rfl rfl (Ev_pickF rfl rfl) rfl ?_
                          refine P_pG rfl rfl rfl rfl rfl (Ev_move rfl) rfl ?_
                          refine P_skip rfl rfl rfl rfl rfl rfl ?_
                          refine P_skip rfl rfl rfl rfl rfl rfl ?_
                          refine P_skip rfl rfl rfl rfl rfl rfl ?_
                          refine P_skip rfl rfl rfl rfl rfl rfl ?_
                          refine P_skip rfl rfl rfl rfl rfl rfl ?_
                          refine P_skip rfl rfl rfl rfl rfl rfl ?_
                          refine P_skip rfl rfl rfl rfl rfl rfl ?_
                          refine P_skip rfl rfl rfl rfl rfl rfl ?_
                          refine P_skip rfl rfl rfl rfl rfl rfl ?_
                          refine P_skip rfl rfl rfl rfl rfl rfl ?_
                          refine P_skip rfl rfl rfl rfl rfl rfl ?_
                          refine P_skip rfl rfl rfl rfl rfl rfl ?_
                          refine P_skip rfl rfl rfl rfl rfl rfl ?_
                          refine P_pG rfl rfl rfl rfl rfl (Ev_pickF rfl rfl) rfl ?_
                          refine P_pG rfl rfl rfl rfl rfl (Ev_move rfl) rfl ?_
                          refine P_skip rfl rfl rfl rfl rfl rfl ?_
                          refine P_skip rfl rfl rfl rfl rfl rfl ?_
                          refine P_skip rfl rfl rfl rfl rfl rfl ?_
                          refine P_skip rfl rfl rfl rfl rfl rfl ?_
                          refine P_skip rfl rfl rfl rfl rfl rfl ?_
                          refine P_skip rfl rfl rfl rfl rfl rfl ?_
                          refine P_skip rfl rfl rfl rfl rfl rfl ?_
                          refine P_skip rfl rfl rfl rfl rfl rfl ?_
                          refine P_skip rfl rfl rfl rfl rfl rfl ?_
                          refine P_skip rfl rfl rfl rfl rfl rfl ?_
                          refine P_skip rfl rfl rfl rfl rfl rfl ?_
                          refine P_skip rfl rfl rfl rfl rfl rfl ?_
                          refine P_skip rfl rfl rfl rfl rfl rfl ?_
                          refine P_pG rfl rfl rfl rfl rfl (Ev_pickF rfl rfl) rfl ?_
                          refine P_p rfl rfl (Ev_pickF rfl rfl) rfl ?_
                          refine P_done ?_
                          exact T_metP false () hx1481 trivial (by exact .cons rfl (.cons rfl (.cons rfl (.cons rfl (.cons rfl (.cons rfl (.cons rfl (.cons rfl (.nil))))))))) (by exact .pick 0 rfl (.pick 0 rfl (.pick 0 rfl (.pick 0 rfl (.pick 0 rfl (.pick 0 rfl (.pick 0 rfl (.pick 0 rfl (.refl)))))))))
                · skip
                  refine T_reg ?_
                  refine T_val (Ev_move rfl) rfl ?_
                  refine T_val (Ev_move rfl) rfl ?_
                  obtain ⟨x1171, h1172, hx1173⟩ := bnd_some hx1169
                  refine T_idxR (k := 4) rfl (by decide) (fun _ => rfl) h1172 (fun b1174 j1176 hA1177 hj1178 hl1179 hm1181 hp1180 => ?_)
                  refine T_val (Ev_index rfl rfl hA1177 (j := j1176) hj1178 hl1179 slc27) rfl ?_
                  refine T_val (Ev_loadP0 rfl hp1180 (SubE.cons2 (i := 4) rfl (SubE.nil)) rfl one3) rfl ?_
                  refine T_val (Ev_eql rfl rfl) rfl ?_
                  refine T_val (Ev_move rfl) rfl ?_
                  refine T_caseP (s := 151) rfl (fun h1182 => ?_) (fun h1182 => ?_)
                  · have hx1183 := ite_t h1182 hx1173
                    refine T_skipG rfl rfl rfl rfl rfl ?_
                    refine T_skipG rfl rfl rfl rfl rfl ?_
                    refine T_skipG rfl rfl rfl rfl rfl ?_
                    refine T_skipG rfl rfl rfl rfl rfl ?_
                    refine T_skipG rfl rfl rfl rfl rfl ?_
                    refine T_val (Ev_pickT rfl rfl) rfl ?_
                    refine T_val (Ev_assign rfl) rfl ?_
                    refine T_nil ?_
                    exact T_metP true () hx1183 trivial (by exact .cons rfl (.cons rfl (.cons rfl (.cons rfl (.cons rfl (.cons rfl (.cons rfl (.cons rfl (.nil))))))))) (by exact .pick 0 rfl (.pick 0 rfl (.pick 0 rfl (.pick 0 rfl (.pick 0 rfl (.pick 0 rfl (.pick 0 rfl (.pick 0 rfl (.refl)))))))))
                  · have hx1184 := ite_f h1182 hx1173
                    refine T_valG rfl rfl rfl (Ev_move rfl) rfl ?_
                    refine T_valG rfl rfl rfl (Ev_move rfl) rfl ?_
                    obtain ⟨x1185, h1186, hx1187⟩ := bnd_some hx1184
                    refine T_idxR (k := 4) rfl (by decide) (fun _ => rfl) h1186 (fun b1188 j1190 hA1191 hj1192 hl1193 hm1195 hp1194 => ?_)
                    refine T_valG rfl rfl rfl (Ev_index rfl rfl hA1191 (j := j1190) hj1192 hl1193 slc27) rfl ?_
                    refine T_valG rfl rfl rfl (Ev_loadP0 rfl hp1194 (SubE.cons2 (i := 4) rfl (SubE.nil)) rfl one3) rfl ?_
                    refine T_valG rfl rfl rfl (Ev_eql rfl rfl) rfl ?_
                    refine T_val (Ev_pickF rfl rfl) rfl ?_
                    refine T_val (Ev_assign rfl) rfl ?_
                    refine T_nil ?_
                    exact T_metP (decide (x1185 = (-1))) () hx1187 trivial (by exact .cons rfl (.cons rfl (.cons rfl (.cons rfl (.cons rfl (.cons rfl (.cons rfl (.cons rfl (.nil))))))))) (by exact .pick 0 rfl (.pick 0 rfl (.pick 0 rfl (.pick 0 rfl (.pick 0 rfl (.pick 0 rfl (.pick 0 rfl (.pick 0 rfl (.refl)))))))))
              · have hx1170 := ite_f h1168 hx1167
                refine T_condF rfl ?_
                refine T_exit ?_
                refine T_outX ?_
                obtain rfl := exit_eq ht1167 hx1170
                refine T_outX ?_
                refine T_here ?_
                exact T_metP () () ho1167 trivial (by exact .cons rfl (.cons rfl (.cons rfl (.cons rfl (.nil))))) (by exact .pick 1 rfl (.pick 1 rfl (.pick 1 rfl (.pick 2 rfl (.pick 2 rfl (.pick 2 rfl (.drop 0 rfl (.drop 0 rfl (.refl)))))))))
          · skip
            refine T_seq ?_
            refine T_reg ?_
            refine T_val (Ev_assign rfl) rfl ?_
            refine T_nil ?_
            refine T_next ?_
            refine T_block ?_
            obtain ⟨t455, hl455, ho455⟩ := bnd_some hx64
            refine T_loopP (σ := (List Int) × Int) (γ := (Option Addr) × Nat) hl455 (fun s455 y455 => [(2, .int .u8 (p2)), (7, .pointer (some ⟨g27, 0, none⟩)), (8, .pointer (some ⟨g28, 0, none⟩)), (9, .slice (A34) ((r31.1).length) (c35)), (11, .slice (A41) ((r38.1).length) (c42)), (13, .slice (y455.1) ((s455.1).length) (y455.2)), (14, .int .i64 (s455.2))]) (fun s455 y455 => [.r (y455.1) ((s455.1).length) (y455.2) 3 1 ((s455.1).flatMap e_i64), e43, e44, e45, .r (A34) ((r31.1).length) (c35) 3 1 ((r31.1).flatMap e_i64), .m g28 26 [.int .i64 (r20.2.Raster.X0), .int .i64 (r20.2.Raster.Y0), .int .i64 (r20.2.Raster.Step), .int .i64 (r20.2.Raster.NX), .int .i64 (r20.2.Raster.NY), .slice (A23) ((r20.2.Cells).length) (c24)], .m g27 26 [.int .i64 (r20.1.Raster.X0), .int .i64 (r20.1.Raster.Y0), .int .i64 (r20.1.Raster.Step), .int .i64 (r20.1.Raster.NX), .int .i64 (r20.1.Raster.NY), .slice (A0_0) ((r20.1.Cells).length) (c0_0)], .r (A23) ((r20.2.Cells).length) (c24) 41 3 ((r20.2.Cells).flatMap e_api_Cell)] ++ [.old w]) (fun s455 y455 => True) (A62, (List.replicate (Int.toNat ((((r31.1).length : Nat) : Int))) (0 : Int)).length) trivial (by exact .cons rfl (.cons rfl (.cons rfl (.cons rfl (.cons rfl (.cons rfl (.cons rfl (.nil)))))))) (by exact .pick 0 rfl (.pick 0 rfl (.pick 0 rfl (.pick 0 rfl (.pick 0 rfl (.pick 0 rfl (.pick 0 rfl (.pick 0 rfl (.refl))))))))) ?_
            intro s455 y455 hG455 x455 hx455 ht455
            unfold lidarlaw09_ModelParts_l10 at hx455
            refine T_seq ?_
            refine T_seq ?_
            refine T_reg ?_
            refine T_val (Ev_move rfl) rfl ?_
            refine T_val (Ev_move rfl) rfl ?_
            refine T_val (Ev_len rfl 95 Try.underlying88) rfl ?_
            refine T_val (Ev_lss rfl rfl) rfl ?_
            refine T_nil ?_
            refine T_next ?_
            refine T_caseP (s := 70) rfl (fun h456 => ?_) (fun h456 => ?_)
            · have hx457 := ite_t h456 hx455
              refine T_condT rfl ?_
              refine T_skip ?_
              refine T_next ?_
              obtain ⟨j34, hj34, hx457⟩ := jn_some hx457
              refine T_cutP (τ := List Int) (γ := (Option Addr) × Nat) (J := j34) (out := x455) (fun s34 y34 => [(2, .int .u8 (p2)), (7, .pointer (some ⟨g27, 0, none⟩)), (8, .pointer (some ⟨g28, 0, none⟩)), (9, .slice (A34) ((r31.1).length) (c35)), (11, .slice (A41) ((r38.1).length) (c42)), (13, .slice (y34.1) ((s34).length) (y34.2)), (14, .int .i64 (s455.2))]) (fun s34 y34 => [.r (y34.1) ((s34).length) (y34.2) 3 1 ((s34).flatMap e_i64), e43, e44, e45, .r (A34) ((r31.1).length) (c35) 3 1 ((r31.1).flatMap e_i64), .m g28 26 [.int .i64 (r20.2.Raster.X0), .int .i64 (r20.2.Raster.Y0), .int .i64 (r20.2.Raster.Step), .int .i64 (r20.2.Raster.NX), .int .i64 (r20.2.Raster.NY), .slice (A23) ((r20.2.Cells).length) (c24)], .m g27 26 [.int .i64 (r20.1.Raster.X0), .int .i64 (r20.1.Raster.Y0), .int .i64 (r20.1.Raster.Step), .int .i64 (r20.1.Raster.NX), .int .i64 (r20.1.Raster.NY), .slice (A0_0) ((r20.1.Cells).length) (c0_0)], .r (A23) ((r20.2.Cells).length) (c24) 41 3 ((r20.2.Cells).flatMap e_api_Cell)] ++ [.old w]) (fun s34 y34 => True) ?_ ?_
              · intro s34 y34 hx843 hG844
                subst hj34
                refine T_reg ?_
                refine T_val (Ev_move rfl) rfl ?_
                refine T_val (Ev_add_w64 rfl rfl) rfl ?_
                refine T_val (Ev_assign rfl) rfl ?_
                refine T_nil ?_
                exact T_roundP (s34, w64 (s455.2 + 1)) (y34.1, y34.2) hx843 trivial (by exact .cons rfl (.cons rfl (.cons rfl (.cons rfl (.cons rfl (.cons rfl (.cons rfl (.nil)))))))) (by exact .pick 0 rfl (.pick 0 rfl (.pick 0 rfl (.pick 0 rfl (.pick 0 rfl (.pick 0 rfl (.pick 0 rfl (.pick 0 rfl (.refl)))))))))
              · skip
                refine T_block ?_
                refine T_seq ?_
                refine T_reg ?_
                refine T_val (Ev_assign rfl) rfl ?_
                refine T_nil ?_
                refine T_next ?_
                refine T_block ?_
                obtain ⟨t650, hl650, ho650⟩ := bnd_some hx457
                refine T_loopP (σ := (List Int) × Int) (γ := (Option Addr) × Nat) hl650 (fun s650 y650 => [(2, .int .u8 (p2)), (7, .pointer (some ⟨g27, 0, none⟩)), (8, .pointer (some ⟨g28, 0, none⟩)), (9, .slice (A34) ((r31.1).length) (c35)), (11, .slice (A41) ((r38.1).length) (c42)), (13, .slice (y650.1) ((s650.1).length) (y650.2)), (14, .int .i64 (s455.2)), (15, .int .i64 (s650.2))]) (fun s650 y650 => [.r (y650.1) ((s650.1).length) (y650.2) 3 1 ((s650.1).flatMap e_i64), e43, e44, e45, .r (A34) ((r31.1).length) (c35) 3 1 ((r31.1).flatMap e_i64), .m g28 26 [.int .i64 (r20.2.Raster.X0), .int .i64 (r20.2.Raster.Y0), .int .i64 (r20.2.Raster.Step), .int .i64 (r20.2.Raster.NX), .int .i64 (r20.2.Raster.NY), .slice (A23) ((r20.2.Cells).length) (c24)], .m g27 26 [.int .i64 (r20.1.Raster.X0), .int .i64 (r20.1.Raster.Y0), .int .i64 (r20.1.Raster.Step), .int .i64 (r20.1.Raster.NX), .int .i64 (r20.1.Raster.NY), .slice (A0_0) ((r20.1.Cells).length) (c0_0)], .r (A23) ((r20.2.Cells).length) (c24) 41 3 ((r20.2.Cells).flatMap e_api_Cell)] ++ [.old w]) (fun s650 y650 => True) (y455.1, y455.2) trivial (by exact .cons rfl (.cons rfl (.cons rfl (.cons rfl (.cons rfl (.cons rfl (.cons rfl (.cons rfl (.nil))))))))) (by exact .pick 0 rfl (.pick 0 rfl (.pick 0 rfl (.pick 0 rfl (.pick 0 rfl (.pick 0 rfl (.pick 0 rfl (.pick 0 rfl (.refl))))))))) ?_
                intro s650 y650 hG650 x650 hx650 ht650
                unfold lidarlaw09_ModelParts_l13 at hx650
                refine T_seq ?_
                refine T_seq ?_
                refine T_reg ?_
                refine T_val (Ev_move rfl) rfl ?_
                refine T_val (Ev_move rfl) rfl ?_
                refine T_val (Ev_move rfl) rfl ?_
                obtain ⟨x651, h652, hx653⟩ := bnd_some hx650
                obtain ⟨b654, o655, j656, ys676, hA657, hj658, hl659, hp660, hr677⟩ := HasN.at_idx hs50 h652
                obtain ⟨A661, c662, A664, c665, A667, c668, A670, c671, A673, c674, rfl, hs663, hs666, hs669, hs672, hs675⟩ := hr677
                have hp678 := Pt.low (E := [.r (A23) ((r20.2.Cells).length) (c24) 41 3 ((r20.2.Cells).flatMap e_api_Cell), e43, e44, e45]) hp660 hK
                refine T_val (Ev_index rfl rfl hA657 (j := j656) hj658 hl659 slc88) rfl ?_
                refine T_val (Ev_field rfl fld95_1 rfl) rfl ?_
                refine T_val (Ev_loadP1 (d := 1) rfl hp678 (SubE.cons2 (i := 8) rfl (SubE.cons2 (i := 7) rfl (SubE.cons2 (i := 1) rfl (SubE.cons2 (i := 2) rfl (SubE.cons2 (i := 3) rfl (SubE.nil)))))) rfl one27) rfl ?_
                refine T_val (Ev_len rfl 3 Try.underlying27) rfl ?_
                refine T_val (Ev_lss rfl rfl) rfl ?_
                refine T_nil ?_
                refine T_next ?_
                refine T_caseP (s := 80) rfl (fun h679 => ?_) (fun h679 => ?_)
                · have hx680 := ite_t h679 hx653
                  refine T_condT rfl ?_
                  refine T_skip ?_
                  refine T_next ?_
                  refine T_seq ?_
                  refine T_block ?_
                  refine T_seq ?_
                  refine T_reg ?_
                  refine T_val (Ev_move rfl) rfl ?_
                  refine T_val (Ev_move rfl) rfl ?_
                  obtain ⟨x682, h683, hx684⟩ := bnd_some hx680
                  obtain ⟨b685, o686, j687, ys707, hA688, hj689, hl690, hp691, hr708⟩ := HasN.at_idx hs50 h683
                  obtain ⟨A692, c693, A695, c696, A698, c699, A701, c702, A704, c705, rfl, hs694, hs697, hs700, hs703, hs706⟩ := hr708
                  have hp709 := Pt.low (E := [.r (A23) ((r20.2.Cells).length) (c24) 41 3 ((r20.2.Cells).flatMap e_api_Cell), e43, e44, e45]) hp691 hK
                  refine T_val (Ev_index rfl rfl hA688 (j := j687) hj689 hl690 slc88) rfl ?_
                  refine T_val (Ev_field rfl fld95_1 rfl) rfl ?_
                  refine T_val (Ev_loadP1 (d := 1) rfl hp709 (SubE.cons2 (i := 8) rfl (SubE.cons2 (i := 7) rfl (SubE.cons2 (i := 1) rfl (SubE.cons2 (i := 2) rfl (SubE.cons2 (i := 3) rfl (SubE.nil)))))) rfl one27) rfl ?_
                  refine T_val (Ev_move rfl) rfl ?_
                  obtain ⟨x710, h711, hx712⟩ := bnd_some hx684
                  have hw720 := Has.low (E := [.r (A23) ((r20.2.Cells).length) (c24) 41 3 ((r20.2.Cells).flatMap e_api_Cell), e43, e44, e45]) hs694 hK
                  obtain ⟨b713, o714, j715, hA716, hj717, hl718, hp719⟩ := Has.at_idx hw720 h711
                  refine T_val (Ev_index rfl rfl hA716 (j := j715) hj717 hl718 slc27) rfl ?_
                  refine T_val (Ev_loadP0 rfl hp719 (SubE.cons2 (i := 8) rfl (SubE.cons2 (i := 7) rfl (SubE.cons2 (i := 1) rfl (SubE.cons2 (i := 2) rfl (SubE.cons2 (i := 3) rfl (SubE.nil)))))) rfl one3) rfl ?_
                  refine T_val (Ev_assign rfl) rfl ?_
                  refine T_nil ?_
                  refine T_next ?_
                  refine T_seq ?_
                  obtain ⟨j48, hj48, hx712⟩ := jn_some hx712
                  refine T_cutP (τ := Bool) (γ := Unit) (J := j48) (out := x650) (fun s48 y48 => [(2, .int .u8 (p2)), (7, .pointer (some ⟨g27, 0, none⟩)), (8, .pointer (some ⟨g28, 0, none⟩)), (9, .slice (A34) ((r31.1).length) (c35)), (11, .slice (A41) ((r38.1).length) (c42)), (13, .slice (y650.1) ((s650.1).length) (y650.2)), (14, .int .i64 (s455.2)), (15, .int .i64 (s650.2)), (16, .int .i64 (x710)), (134, .bool (s48))]) (fun s48 y48 => [.r (y650.1) ((s650.1).length) (y650.2) 3 1 ((s650.1).flatMap e_i64), e43, e44, e45, .r (A34) ((r31.1).length) (c35) 3 1 ((r31.1).flatMap e_i64), .m g28 26 [.int .i64 (r20.2.Raster.X0), .int .i64 (r20.2.Raster.Y0), .int .i64 (r20.2.Raster.Step), .int .i64 (r20.2.Raster.NX), .int .i64 (r20.2.Raster.NY), .slice (A23) ((r20.2.Cells).length) (c24)], .m g27 26 [.int .i64 (r20.1.Raster.X0), .int .i64 (r20.1.Raster.Y0), .int .i64 (r20.1.Raster.Step), .int .i64 (r20.1.Raster.NX), .int .i64 (r20.1.Raster.NY), .slice (A0_0) ((r20.1.Cells).length) (c0_0)], .r (A23) ((r20.2.Cells).length) (c24) 41 3 ((r20.2.Cells).flatMap e_api_Cell)] ++ [.old w]) (fun s48 y48 => True) ?_ ?_
                  · intro s48 y48 hx825 hG826
                    subst hj48
                    refine T_caseB (s := 134) rfl (fun h827 => ?_) (fun h827 => ?_)
                    · have hx828 := ite_t h827 hx825
                      refine T_condT rfl ?_
                      refine T_seq ?_
                      refine T_reg ?_
                      refine T_val (Ev_assign rfl) rfl ?_
                      refine T_nil ?_
                      refine T_next ?_
                      refine T_retc ?_
                      refine T_outR ?_
                      refine T_inR ?_
                      refine T_outR ?_
                      obtain rfl := exit_eq ht650 hx828
                      refine T_outR ?_
                      refine T_inR ?_
                      refine T_inR ?_
                      refine T_outR ?_
                      obtain rfl := exit_eq ht455 ho650
                      refine T_outR ?_
                      refine T_inR ?_
                      refine T_outR ?_
                      obtain rfl := Option.some.inj ho455
                      exact T_retP (rs := [.tmp 6]) Try.results15 (.tmp rfl (.nil)) (Ln := []) ⟨rfl, rfl, trivial⟩ (loNil) (by exact .drop 0 rfl (.drop 0 rfl (.drop 0 rfl (.drop 0 rfl (.drop 0 rfl (.drop 0 rfl (.drop 0 rfl (.drop 0 rfl (.refl)))))))))
                    · have hx829 := ite_bf h827 hx825
                      refine T_condF rfl ?_
                      refine T_skip ?_
                      refine T_next ?_
                      refine T_reg ?_
                      refine T_val (Ev_move rfl) rfl ?_
                      refine T_val (Ev_move rfl) rfl ?_
                      refine T_val (Ev_move rfl) rfl ?_
                      refine T_val (Ev_add_w64 rfl rfl) rfl ?_
                      obtain ⟨x830, h831, hx832⟩ := bnd_some hx829
                      refine T_idxR (k := 0) rfl (by decide) (fun _ => rfl) h831 (fun b833 j835 hA836 hj837 hl838 hm840 hp839 => ?_)
                      refine T_val (Ev_index rfl rfl hA836 (j := j835) hj837 hl838 slc27) rfl ?_
                      refine T_h (Wh_storeP e_i64 (s650.1) (x710) (w64 (s455.2 + 1)) rfl rfl rfl (.here) hA836 rfl hj837 hl838 (fun _ => rfl) (by decide) rfl one3.2 ?_)
                      refine T_nil ?_
                      refine T_inN ?_
                      refine T_next ?_
                      refine T_reg ?_
                      refine T_val (Ev_move rfl) rfl ?_
                      refine T_val (Ev_add_w64 rfl rfl) rfl ?_
                      refine T_val (Ev_assign rfl) rfl ?_
                      refine T_nil ?_
                      have hn841 : (s650.1).length = (setI s650.1 x710 (w64 (s455.2 + 1))).length := by simp [setI_len, cpy_len, List.length_append] <;> omega
                      refine T_ent (.here) (e' := .r (y650.1) ((setI s650.1 x710 (w64 (s455.2 + 1))).length) (y650.2) 3 1 ((setI s650.1 x710 (w64 (s455.2 + 1))).flatMap e_i64)) (by first | (rw [← hn841]; done) | rfl) ?_
                      refine T_slot (s := 13) (v' := .slice (y650.1) ((setI s650.1 x710 (w64 (s455.2 + 1))).length) (y650.2)) rfl (by have hn842 : ((s650.1).length) = (setI s650.1 x710 (w64 (s455.2 + 1))).length := (by simp [setI_len, cpy_len, List.length_append] <;> omega); first | (rw [← hn842]; done) | rfl) ?_
                      exact T_roundP (setI s650.1 x710 (w64 (s455.2 + 1)), w64 (s650.2 + 1)) (y650.1, y650.2) hx832 trivial (by exact .cons rfl (.cons rfl (.cons rfl (.cons rfl (.cons rfl (.cons rfl (.cons rfl (.cons rfl (.nil))))))))) (by exact .pick 0 rfl (.pick 0 rfl (.pick 0 rfl (.pick 0 rfl (.pick 0 rfl (.pick 0 rfl (.pick 0 rfl (.pick 0 rfl (.refl)))))))))
                  · skip
                    refine T_draw [0, 0, 0, 0, 0, 0, 0, 0, 0, 0, 0, 0, 1, 0, 0, 0, 0, 0, 0, 1, 0, 0, 0, 0, 1, 0, 0, 0, 0, 0, 0, 0, 0, 0, 0, 1, 0, 0, 0, 1, 0, 0, 0, 0] [[], [0], [0, 1], [0, 1, 2], [0, 1, 2], [0, 1, 2, 4], [0, 1, 2, 3, 4, 5], [0, 1, 2, 3, 4, 5, 6], [0, 1, 2, 3, 4, 5, 6, 7], [0, 1, 2, 3, 4, 5, 6, 7, 8], [0, 1, 2, 3, 4, 5, 6, 7, 8], [0, 1, 2, 3, 4, 5, 6, 7, 8, 9, 10], [0, 1, 2, 3, 4, 5, 6, 7, 8, 9, 10, 11], [0, 1, 2, 3, 4, 5, 6, 7, 8, 9, 10, 11, 12], [0, 1, 2, 3, 4, 5, 6, 7, 8, 9, 10, 11, 12, 13], [0, 1, 2, 3, 4, 5, 6, 7, 8, 9, 10, 11, 12, 13, 14], [0, 1, 2, 3, 4, 5, 6, 7, 8, 9, 10, 11, 12, 13, 14, 15], [0, 1, 2, 3, 4, 5, 6, 7, 8, 9, 10, 11, 12, 13, 14, 15], [0, 1, 2, 3, 4, 5, 6, 7, 8, 9, 10, 11, 12, 13, 14, 15, 16, 17], [0, 1, 2, 3, 4, 5, 6, 7, 8, 9, 10, 11, 12, 13, 14, 15, 16, 17, 18], [0, 1, 2, 3, 4, 5, 6, 7, 8, 9, 10, 11, 12, 13, 14, 15], [0, 1, 2, 3, 4, 5, 6, 7, 8, 9, 10, 11, 12, 13, 14, 15], [0, 1, 2, 3, 4, 5, 6, 7, 8, 9, 10, 11, 12, 13, 14, 15, 20, 21], [0, 1, 2, 3, 4, 5, 6, 7, 8, 9, 10, 11, 12, 13, 14, 15, 20, 21, 22], [0, 1, 2, 3, 4, 5, 6, 7, 8, 9, 10, 11, 12, 13, 14, 15, 20, 21, 22, 23], [0, 1, 2, 3, 4, 5, 6, 7, 8, 9, 10, 11, 12, 13, 14, 15, 16, 17, 18, 19, 20, 21, 22, 23, 24], [0, 1, 2, 3, 4, 5, 6, 7, 8, 9, 10, 11, 12, 13, 14, 15, 16, 17, 18, 19, 20, 21, 22, 23, 24, 25], [0, 1, 2, 3, 4, 5, 6, 7, 8, 9, 10, 11, 12, 13, 14, 15, 16, 17, 18, 19, 20, 21, 22, 23, 24, 25, 26], [0, 1, 2, 3, 4, 5, 6, 7, 8, 9, 10, 11, 12, 13, 14, 15, 16, 17, 18, 19, 20, 21, 22, 23, 24, 25, 26, 27], [0, 1, 2, 3, 4, 5, 6, 7, 8, 9, 10, 11, 12, 13, 14, 15, 16, 17, 18, 19, 20, 21, 22, 23, 24, 25, 26, 27, 28], [0, 1, 2, 3, 4, 5, 6, 7, 8, 9, 10, 11, 12, 13, 14, 15, 16, 17, 18, 19, 20, 21, 22, 23, 24, 25, 26, 27, 28, 29], [0, 1, 2, 3, 4, 5, 6, 7, 8, 9, 10, 11, 12, 13, 14, 15, 16, 17, 18, 19, 20, 21, 22, 23, 24, 25, 26, 27, 28, 29, 30], [0, 1, 2, 3, 4, 5, 6, 7, 8, 9, 10, 11, 12, 13, 14, 15, 16, 17, 18, 19, 20, 21, 22, 23, 24, 25, 26, 27, 28, 29, 30], [0, 1, 2, 3, 4, 5, 6, 7, 8, 9, 10, 11, 12, 13, 14, 15, 16, 17, 18, 19, 20, 21, 22, 23, 24, 25, 26, 27, 28, 29, 30, 31, 32], [0, 1, 2, 3, 4, 5, 6, 7, 8, 9, 10, 11, 12, 13, 14, 15, 16, 17, 18, 19, 20, 21, 22, 23, 24, 25, 26, 27, 28, 29, 30, 31, 32, 33], [0, 1, 2, 3, 4, 5, 6, 7, 8, 9, 10, 11, 12, 13, 14, 15, 16, 17, 18, 19, 20, 21, 22, 23, 24, 25, 26, 27, 28, 29, 30, 31, 32, 33, 34], [0, 1, 2, 3, 4, 5, 6, 7, 8, 9, 10, 11, 12, 13, 14, 15, 16, 17, 18, 19, 20, 21, 22, 23, 24, 25, 26, 27, 28, 29, 30], [0, 1, 2, 3, 4, 5, 6, 7, 8, 9, 10, 11, 12, 13, 14, 15, 16, 17, 18, 19, 20, 21, 22, 23, 24, 25, 26, 27, 28, 29, 30, 36], [0, 1, 2, 3, 4, 5, 6, 7, 8, 9, 10, 11, 12, 13, 14, 15, 16, 17, 18, 19, 20, 21, 22, 23, 24, 25, 26, 27, 28, 29, 30, 31, 32, 33, 34, 35, 36, 37], [0, 1, 2, 3, 4, 5, 6, 7, 8, 9, 10, 11, 12, 13, 14, 15, 16, 17, 18, 19, 20, 21, 22, 23, 24, 25, 26, 27, 28, 29, 30, 31, 32, 33, 34, 35, 36, 37, 38], [0, 1, 2, 3, 4, 5, 6, 7, 8, 9, 10, 11, 12, 13, 14, 15, 16, 17, 18, 19, 20, 21, 22, 23, 24, 25, 26, 27, 28, 29, 30], [0, 1, 2, 3, 4, 5, 6, 7, 8, 9, 10, 11, 12, 13, 14, 15, 16, 17, 18, 19, 20, 21, 22, 23, 24, 25, 26, 27, 28, 29, 30, 31, 32, 33, 34, 35, 36, 37, 38, 39, 40], [0, 1, 2, 3, 4, 5, 6, 7, 8, 9, 10, 11, 12, 13, 14, 15, 16, 17, 18, 19, 20, 21, 22, 23, 24, 25, 26, 27, 28, 29, 30, 31, 32, 33, 34, 35, 36, 37, 38, 39, 40, 41], [0, 1, 2, 3, 4, 5, 6, 7, 8, 9, 10, 11, 12, 13, 14, 15, 16, 17, 18, 19, 20, 21, 22, 23, 24, 25, 26, 27, 28, 29, 30, 31, 32, 33, 34, 35, 36, 37, 38, 39, 40, 41, 42]] (.q 0 (.q 1 (.q 2 (.q 3 (.q 4 (.q 5 (.q 6 (.q 7 (.q 8 (.q 9 (.q 10 (.q 11 (.q 12 (.q 13 (.q 14 (.q 15 (.q 16 (.q 17 (.q 18 (.q 19 (.q 20 (.q 21 (.q 22 (.q 23 (.q 24 (.q 25 (.q 26 (.q 27 (.q 28 (.q 29 (.q 30 (.q 31 (.q 32 (.q 33 (.q 34 (.q 35 (.q 36 (.q 37 (.q 38 (.q 39 (.q 40 (.q 41 (.q 42 (.q 43 (.done))))))))))))))))))))))))))))))))))))))))))))) mixed (by kernel_rfl) (by kernel_rfl) ?_
                    refine P_p rfl rfl (Ev_move rfl) rfl ?_
                    refine P_p rfl rfl (Ev_lss rfl rfl) rfl ?_
                    refine P_p rfl rfl (Ev_move rfl) rfl ?_
                    refine T_caseP (s := 93) rfl (fun h721 => ?_) (fun h721 => ?_)
                    · have hx722 := ite_t h721 hx712
                      refine P_skip rfl rfl rfl rfl rfl rfl ?_
                      refine P_skip rfl rfl rfl rfl rfl rfl ?_
                      refine P_skip rfl rfl rfl rfl rfl rfl ?_
                      refine P_skip rfl rfl rfl rfl rfl rfl ?_
                      refine P_p rfl rfl (Ev_pickT rfl rfl) rfl ?_
                      refine P_p rfl rfl (Ev_move rfl) rfl ?_
                      refine P_skip rfl rfl rfl rfl rfl rfl ?_
                      refine P_skip rfl rfl rfl rfl rfl rfl ?_
                      refine P_skip rfl rfl rfl rfl rfl rfl ?_
                      refine P_skip rfl rfl rfl rfl rfl rfl ?_
                      refine P_skip rfl rfl rfl rfl rfl rfl ?_
                      refine P_p rfl rfl (Ev_pickT rfl rfl) rfl ?_
                      refine P_p rfl rfl (Ev_move rfl) rfl ?_
                      refine P_skip rfl rfl rfl rfl rfl rfl ?_
                      refine P_skip rfl rfl rfl rfl rfl rfl ?_
                      refine P_skip rfl rfl rfl rfl rfl rfl ?_
                      refine P_skip rfl rfl rfl rfl rfl rfl ?_
                      refine P_skip rfl rfl rfl rfl rfl rfl ?_
                      refine P_skip rfl rfl rfl rfl rfl rfl ?_
                      refine P_skip rfl rfl rfl rfl rfl rfl ?_
                      refine P_skip rfl rfl rfl rfl rfl rfl ?_
                      refine P_skip rfl rfl rfl rfl rfl rfl ?_
                      refine P_skip rfl rfl rfl rfl rfl rfl ?_
                      refine P_p rfl rfl (Ev_pickT rfl rfl) rfl ?_
                      refine P_p rfl rfl (Ev_move rfl) rfl ?_
                      refine P_skip rfl rfl rfl rfl rfl rfl ?_
                      refine P_skip rfl rfl rfl rfl rfl rfl ?_
                      refine P_skip rfl rfl rfl rfl rfl rfl ?_
                      refine P_skipU rfl rfl rfl rfl rfl ?_
                      refine P_skipU rfl rfl rfl rfl rfl ?_
                      refine P_skipU rfl rfl rfl rfl rfl ?_
                      refine P_skipU rfl rfl rfl rfl rfl ?_
                      refine P_skipU rfl rfl rfl rfl rfl ?_
                      refine P_skipU rfl rfl rfl rfl rfl ?_
                      refine P_skipU rfl rfl rfl rfl rfl ?_
                      refine P_skipU rfl rfl rfl rfl rfl ?_
                      refine P_skipU rfl rfl rfl rfl rfl ?_
                      refine P_skipU rfl rfl rfl rfl rfl ?_
                      refine P_skipU rfl rfl rfl rfl rfl ?_
                      refine P_skip rfl rfl rfl rfl rfl rfl ?_
                      refine P_p rfl rfl (Ev_pickT rfl rfl) rfl ?_
                      refine P_done ?_
                      exact T_metP true () hx722 trivial (by exact .cons rfl (.cons rfl (.cons rfl (.cons rfl (.cons rfl (.cons rfl (.cons rfl (.cons rfl (.cons rfl (.cons rfl (.nil))))))))))) (by exact .pick 0 rfl (.pick 0 rfl (.pick 0 rfl (.pick 0 rfl (.pick 0 rfl (.pick 0 rfl (.pick 0 rfl (.pick 0 rfl (.refl)))))))))
                    · have hx723 := ite_f h721 hx712
                      refine P_pG rfl rfl rfl rfl rfl (Ev_move rfl) rfl ?_
                      refine P_pG rfl rfl rfl rfl rfl (Ev_move rfl) rfl ?_
                      refine P_pG rfl rfl rfl rfl rfl (Ev_len rfl 3 Try.underlying27) rfl ?_
                      refine P_pG rfl rfl rfl rfl rfl (Ev_geq rfl rfl) rfl ?_
                      refine P_p rfl rfl (Ev_pickF rfl rfl) rfl ?_
                      refine P_p rfl rfl (Ev_move rfl) rfl ?_
                      refine T_caseP (s := 99) rfl (fun h724 => ?_) (fun h724 => ?_)
                      · have hx725 := ite_t h724 hx723
                        refine P_skip rfl rfl rfl rfl rfl rfl ?_
                        refine P_skip rfl rfl rfl rfl rfl rfl ?_
                        refine P_skip rfl rfl rfl rfl rfl rfl ?_
                        refine P_skip rfl rfl rfl rfl rfl rfl ?_
                        refine P_skip rfl rfl rfl rfl rfl rfl ?_
                        refine P_p rfl rfl (Ev_pickT rfl rfl) rfl ?_
                        refine P_p rfl rfl (Ev_move rfl) rfl ?_
                        refine P_skip rfl rfl rfl rfl rfl rfl ?_
                        refine P_skip rfl rfl rfl rfl rfl rfl ?_
                        refine P_skip rfl rfl rfl rfl rfl rfl ?_
                        refine P_skip rfl rfl rfl rfl rfl rfl ?_
                        refine P_skip rfl rfl rfl rfl rfl rfl ?_
                        refine P_skip rfl rfl rfl rfl rfl rfl ?_
                        refine P_skip rfl rfl rfl rfl rfl rfl ?_
                        refine P_skip rfl rfl rfl rfl rfl rfl ?_
                        refine P_skip rfl rfl rfl rfl rfl rfl ?_
                        refine P_skip rfl rfl rfl rfl rfl rfl ?_
                        refine P_p rfl rfl (Ev_pickT rfl rfl) rfl ?_
                        refine P_p rfl rfl (Ev_move rfl) rfl ?_
                        refine P_skip rfl rfl rfl rfl rfl rfl ?_
                        refine P_skip rfl rfl rfl rfl rfl rfl ?_
                        refine P_skip rfl rfl rfl rfl rfl rfl ?_
                        refine P_skipU rfl rfl rfl rfl rfl ?_
                        refine P_skipU rfl rfl rfl rfl rfl ?_
                        refine P_skipU rfl rfl rfl rfl rfl ?_
                        refine P_skipU rfl rfl rfl rfl rfl ?_
                        refine P_skipU rfl rfl rfl rfl rfl ?_
                        refine P_skipU rfl rfl rfl rfl rfl ?_
                        refine P_skipU rfl rfl rfl rfl rfl ?_
                        refine P_skipU rfl rfl rfl rfl rfl ?_
                        refine P_skipU rfl rfl rfl rfl rfl ?_
                        refine P_skipU rfl rfl rfl rfl rfl ?_
                        refine P_skipU rfl rfl rfl rfl rfl ?_
                        refine P_skip rfl rfl rfl rfl rfl rfl ?_
                        refine P_p rfl rfl (Ev_pickT rfl rfl) rfl ?_
                        refine P_done ?_
                        exact T_metP true () hx725 trivial (by exact .cons rfl (.cons rfl (.cons rfl (.cons rfl (.cons rfl (.cons rfl (.cons rfl (.cons rfl (.cons rfl (.cons rfl (.nil))))))))))) (by exact .pick 0 rfl (.pick 0 rfl (.pick 0 rfl (.pick 0 rfl (.pick 0 rfl (.pick 0 rfl (.pick 0 rfl (.pick 0 rfl (.refl)))))))))
                      · have hx726 := ite_f h724 hx723
                        refine P_pG rfl rfl rfl rfl rfl (Ev_move rfl) rfl ?_
                        refine P_pG rfl rfl rfl rfl rfl (Ev_move rfl) rfl ?_
                        obtain ⟨x727, h728, hx729⟩ := bnd_some hx726
                        refine T_idxR (k := 0) rfl (by decide) (fun _ => rfl) h728 (fun b730 j732 hA733 hj734 hl735 hm737 hp736 => ?_)
                        refine P_pG rfl rfl rfl rfl rfl (Ev_index rfl rfl hA733 (j := j732) hj734 hl735 slc27) rfl ?_
                        refine P_qG rfl rfl rfl rfl rfl (Ev_loadP0 rfl hp736 (SubE.cons2 (i := 0) rfl (SubE.nil)) rfl one3) rfl ?_
                        refine P_pG rfl rfl rfl rfl rfl (Ev_neq rfl rfl) rfl ?_
                        refine P_p rfl rfl (Ev_pickF rfl rfl) rfl ?_
                        refine P_p rfl rfl (Ev_move rfl) rfl ?_
                        refine T_caseNP (s := 106) rfl (fun h738 => ?_) (fun h738 => ?_)
                        · have hx739 := ite_f h738 hx729
                          refine P_skip rfl rfl rfl rfl rfl rfl ?_
                          refine P_skip rfl rfl rfl rfl rfl rfl ?_
                          refine P_skip rfl rfl rfl rfl rfl rfl ?_
                          refine P_skip rfl rfl rfl rfl rfl rfl ?_
                          refine P_skip rfl rfl rfl rfl rfl rfl ?_
                          refine P_skip rfl rfl rfl rfl rfl rfl ?_
                          refine P_skip rfl rfl rfl rfl rfl rfl ?_
                          refine P_skip rfl rfl rfl rfl rfl rfl ?_
                          refine P_skip rfl rfl rfl rfl rfl rfl ?_
                          refine P_skip rfl rfl rfl rfl rfl rfl ?_
                          refine P_p rfl rfl (Ev_pickT rfl rfl) rfl ?_
                          refine P_p rfl rfl (Ev_move rfl) rfl ?_
                          refine P_skip rfl rfl rfl rfl rfl rfl ?_
                          refine P_skip rfl rfl rfl rfl rfl rfl ?_
                          refine P_skip rfl rfl rfl rfl rfl rfl ?_
                          refine P_skipU rfl rfl rfl rfl rfl ?_
                          refine P_skipU rfl rfl rfl rfl rfl ?_
                          refine P_skipU rfl rfl rfl rfl rfl ?_
                          refine P_skipU rfl rfl rfl rfl rfl ?_
                          refine P_skipU rfl rfl rfl rfl rfl ?_
                          refine P_skipU rfl rfl rfl rfl rfl ?_
                          refine P_skipU rfl rfl rfl rfl rfl ?_
                          refine P_skipU rfl rfl rfl rfl rfl ?_
                          refine P_skipU rfl rfl rfl rfl rfl ?_
                          refine P_skipU rfl rfl rfl rfl rfl ?_
                          refine P_skipU rfl rfl rfl rfl rfl ?_
                          refine P_skip rfl rfl rfl rfl rfl rfl ?_
                          refine P_p rfl rfl (Ev_pickT rfl rfl) rfl ?_
                          refine P_done ?_
                          exact T_metP true () hx739 trivial (by exact .cons rfl (.cons rfl (.cons rfl (.cons rfl (.cons rfl (.cons rfl (.cons rfl (.cons rfl (.cons rfl (.cons rfl (.nil))))))))))) (by exact .pick 0 rfl (.pick 0 rfl (.pick 0 rfl (.pick 0 rfl (.pick 0 rfl (.pick 0 rfl (.pick 0 rfl (.pick 0 rfl (.refl)))))))))
                        · have hx740 := ite_t h738 hx729
                          refine P_pG rfl rfl rfl rfl rfl (Ev_move rfl) rfl ?_
                          refine P_pG rfl rfl rfl rfl rfl (Ev_move rfl) rfl ?_
                          obtain ⟨x741, h742, hx743⟩ := bnd_some hx740
                          refine T_idxR (k := 4) rfl (by decide) (fun _ => rfl) h742 (fun b744 j746 hA747 hj748 hl749 hm751 hp750 => ?_)
                          refine P_pG rfl rfl rfl rfl rfl (Ev_index rfl rfl hA747 (j := j746) hj748 hl749 slc27) rfl ?_
                          refine P_qG rfl rfl rfl rfl rfl (Ev_loadP0 rfl hp750 (SubE.cons2 (i := 4) rfl (SubE.nil)) rfl one3) rfl ?_
                          refine P_pG rfl rfl rfl rfl rfl (Ev_move rfl) rfl ?_
                          refine P_pG rfl rfl rfl rfl rfl (Ev_move rfl) rfl ?_
                          obtain ⟨x752, h753, hx754⟩ := bnd_some hx743
                          obtain ⟨b755, o756, j757, ys777, hA758, hj759, hl760, hp761, hr778⟩ := HasN.at_idx hs50 h753
                          obtain ⟨A762, c763, A765, c766, A768, c769, A771, c772, A774, c775, rfl, hs764, hs767, hs770, hs773, hs776⟩ := hr778
                          have hp779 := Pt.low (E := [.r (A23) ((r20.2.Cells).length) (c24) 41 3 ((r20.2.Cells).flatMap e_api_Cell), e43, e44, e45]) hp761 hK
                          refine P_pG rfl rfl rfl rfl rfl (Ev_index rfl rfl hA758 (j := j757) hj759 hl760 slc88) rfl ?_
                          refine P_pG rfl rfl rfl rfl rfl (Ev_field rfl fld95_0 rfl) rfl ?_
                          refine P_qG rfl rfl rfl rfl rfl (Ev_loadP1 (d := 0) rfl hp779 (SubE.cons2 (i := 8) rfl (SubE.cons2 (i := 7) rfl (SubE.cons2 (i := 1) rfl (SubE.cons2 (i := 2) rfl (SubE.cons2 (i := 3) rfl (SubE.nil)))))) rfl one3) rfl ?_
                          refine P_pG rfl rfl rfl rfl rfl (Ev_neq rfl rfl) rfl ?_
                          refine P_p rfl rfl (Ev_pickF rfl rfl) rfl ?_
                          refine P_p rfl rfl (Ev_move rfl) rfl ?_
                          refine T_caseNP (s := 118) rfl (fun h780 => ?_) (fun h780 => ?_)
                          · have hx781 := ite_f h780 hx754
                            refine P_skip rfl rfl rfl rfl rfl rfl ?_
                            refine P_skip rfl rfl rfl rfl rfl rfl ?_
                            refine P_skip rfl rfl rfl rfl rfl rfl ?_
                            refine P_skipU rfl rfl rfl rfl rfl ?_
                            refine P_skipU rfl rfl rfl rfl rfl ?_
                            refine P_skipU rfl rfl rfl rfl rfl ?_
                            refine P_skipU rfl rfl rfl rfl rfl ?_
                            refine P_skipU rfl rfl rfl rfl rfl ?_
                            refine P_skipU rfl rfl rfl rfl rfl ?_
                            refine P_skipU rfl rfl rfl rfl rfl ?_
                            refine P_skipU rfl rfl rfl rfl rfl ?_
                            refine P_skipU rfl rfl rfl rfl rfl ?_
                            refine P_skipU rfl rfl rfl rfl rfl ?_
                            refine P_skipU rfl rfl rfl rfl rfl ?_
                            refine P_skip rfl rfl rfl rfl rfl rfl ?_
                            refine P_p rfl rfl (Ev_pickT rfl rfl) rfl ?_
                            refine P_done ?_
                            exact T_metP true () hx781 trivial (by exact .cons rfl (.cons rfl (.cons rfl (.cons rfl (.cons rfl (.cons rfl (.cons rfl (.cons rfl (.cons rfl (.cons rfl (.nil))))))))))) (by exact .pick 0 rfl (.pick 0 rfl (.pick 0 rfl (.pick 0 rfl (.pick 0 rfl (.pick 0 rfl (.pick 0 rfl (.pick 0 rfl (.refl)))))))))
                          · have hx782 := ite_t h780 hx754
                            refine P_pG rfl rfl rfl rfl rfl (Ev_move rfl) rfl ?_
                            refine P_pG rfl rfl rfl rfl rfl (Ev_gtr rfl rfl) rfl ?_
                            refine P_pG rfl rfl rfl rfl rfl (Ev_move rfl) rfl ?_
                            refine T_caseP (s := 121) rfl (fun h783 => ?_) (fun h783 => ?_)
                            · have hx784 := ite_t h783 hx782
                              refine P_pG rfl rfl rfl rfl rfl (Ev_move rfl) rfl ?_
                              refine P_pG rfl rfl rfl rfl rfl (Ev_move rfl) rfl ?_
                              obtain ⟨x785, h786, hx787⟩ := bnd_some hx784
                              obtain ⟨b788, o789, j790, ys810, hA791, hj792, hl793, hp794, hr811⟩ := HasN.at_idx hs50 h786
                              obtain ⟨A795, c796, A798, c799, A801, c802, A804, c805, A807, c808, rfl, hs797, hs800, hs803, hs806, hs809⟩ := hr811
                              have hp812 := Pt.low (E := [.r (A23) ((r20.2.Cells).length) (c24) 41 3 ((r20.2.Cells).flatMap e_api_Cell), e43, e44, e45]) hp794 hK
                              refine P_pG rfl rfl rfl rfl rfl (Ev_index rfl rfl hA791 (j := j790) hj792 hl793 slc88) rfl ?_
                              refine P_pG rfl rfl rfl rfl rfl (Ev_field rfl fld95_1 rfl) rfl ?_
                              refine P_qG rfl rfl rfl rfl rfl (Ev_loadP1 (d := 1) rfl hp812 (SubE.cons2 (i := 8) rfl (SubE.cons2 (i := 7) rfl (SubE.cons2 (i := 1) rfl (SubE.cons2 (i := 2) rfl (SubE.cons2 (i := 3) rfl (SubE.nil)))))) rfl one27) rfl ?_
                              refine P_pG rfl rfl rfl rfl rfl (Ev_move rfl) rfl ?_
                              refine P_pG rfl rfl rfl rfl rfl (Ev_sub_w64 rfl rfl) rfl ?_
                              obtain ⟨x813, h814, hx815⟩ := bnd_some hx787
                              have hw823 := Has.low (E := [.r (A23) ((r20.2.Cells).length) (c24) 41 3 ((r20.2.Cells).flatMap e_api_Cell), e43, e44, e45]) hs797 hK
                              obtain ⟨b816, o817, j818, hA819, hj820, hl821, hp822⟩ := Has.at_idx hw823 h814
                              refine P_pG rfl rfl rfl rfl rfl (Ev_index rfl rfl hA819 (j := j818) hj820 hl821 slc27) rfl ?_
                              refine P_qG rfl rfl rfl rfl rfl (Ev_loadP0 rfl hp822 (SubE.cons2 (i := 8) rfl (SubE.cons2 (i := 7) rfl (SubE.cons2 (i := 1) rfl (SubE.cons2 (i := 2) rfl (SubE.cons2 (i := 3) rfl (SubE.nil)))))) rfl one3) rfl ?_
                              refine P_pG rfl rfl rfl rfl rfl (Ev_move rfl) rfl ?_
                              refine P_pG rfl rfl rfl rfl rfl (Ev_geq rfl rfl) rfl ?_
                              refine P_pG rfl rfl rfl rfl rfl (Ev_pickT rfl rfl) rfl ?_
                              refine P_p rfl rfl (Ev_pickF rfl rfl) rfl ?_
                              refine P_done ?_
                              exact T_metP (decide (x710 ≤ x813)) () hx815 trivial (by exact .cons rfl (.cons rfl (.cons rfl (.cons rfl (.cons rfl (.cons rfl (.cons rfl (.cons rfl (.cons rfl (.cons rfl (.nil))))))))))) (by exact .pick 0 rfl (.pick 0 rfl (.pick 0 rfl (.pick 0 rfl (.pick 0 rfl (.pick 0 rfl (.pick 0 rfl (.pick 0 rfl (.refl)))))))))
                            · have hx824 := ite_f h783 hx782
                              refine P_skip rfl rfl rfl rfl rfl rfl ?_
                              refine P_skip rfl rfl rfl rfl rfl rfl ?_
                              refine P_skip rfl rfl rfl rfl rfl rfl ?_
                              refine P_skip rfl rfl rfl rfl rfl rfl ?_
                              refine P_skip rfl rfl rfl rfl rfl rfl ?_
                              refine P_skip rfl rfl rfl rfl rfl rfl ?_
                              refine P_skip rfl rfl rfl rfl rfl rfl ?_
                              refine P_skip rfl rfl rfl rfl rfl rfl ?_
                              refine P_skip rfl rfl rfl rfl rfl rfl ?_
                              refine P_skip rfl rfl rfl rfl rfl rfl ?_
                              refine P_skip rfl rfl rfl rfl rfl rfl ?_
                              refine P_pG rfl rfl rfl rfl rfl (Ev_pickF rfl rfl) rfl ?_
                              refine P_p rfl rfl (Ev_pickF rfl rfl) rfl ?_
                              refine P_done ?_
                              exact T_metP false () hx824 trivial (by exact .cons rfl (.cons rfl (.cons rfl (.cons rfl (.cons rfl (.cons rfl (.cons rfl (.cons rfl (.cons rfl (.cons rfl (.nil))))))))))) (by exact .pick 0 rfl (.pick 0 rfl (.pick 0 rfl (.pick 0 rfl (.pick 0 rfl (.pick 0 rfl (.pick 0 rfl (.pick 0 rfl (.refl)))))))))
                · have hx681 := ite_f h679 hx653
                  refine T_condF rfl ?_
                  refine T_exit ?_
                  refine T_outX ?_
                  obtain rfl := exit_eq ht650 hx681
                  refine T_outX ?_
                  refine T_here ?_
                  refine T_inN ?_
                  exact T_metP s650.1 (y650.1, y650.2) ho650 trivial (by exact .cons rfl (.cons rfl (.cons rfl (.cons rfl (.cons rfl (.cons rfl (.cons rfl (.nil)))))))) (by exact .pick 0 rfl (.pick 0 rfl (.pick 0 rfl (.pick 0 rfl (.pick 0 rfl (.pick 0 rfl (.pick 0 rfl (.pick 0 rfl (.refl)))))))))
            · have hx458 := ite_f h456 hx455
              refine T_condF rfl ?_
              refine T_exit ?_
              refine T_outX ?_
              obtain rfl := exit_eq ht455 hx458
              refine T_outX ?_
              refine T_here ?_
              exact T_metP s455.1 (y455.1, y455.2) ho455 trivial (by exact .cons rfl (.cons rfl (.cons rfl (.cons rfl (.cons rfl (.cons rfl (.nil))))))) (by exact .pick 0 rfl (.pick 0 rfl (.pick 0 rfl (.pick 0 rfl (.pick 0 rfl (.pick 0 rfl (.pick 0 rfl (.pick 0 rfl (.refl)))))))))
      · skip
        refine T_reg ?_
        refine T_val (Ev_move rfl) rfl ?_
        refine T_val (Ev_neq rfl rfl) rfl ?_
        refine T_val (Ev_move rfl) rfl ?_
        refine T_caseNP (s := 52) rfl (fun h51 => ?_) (fun h51 => ?_)
        · have hx52 := ite_f h51 hx40
          refine T_skipG rfl rfl rfl rfl rfl ?_
          refine T_skipG rfl rfl rfl rfl rfl ?_
          refine T_val (Ev_pickT rfl rfl) rfl ?_
          refine T_val (Ev_move rfl) rfl ?_
          refine T_skipG rfl rfl rfl rfl rfl ?_
          refine T_skipG rfl rfl rfl rfl rfl ?_
          refine T_skipG rfl rfl rfl rfl rfl ?_
          refine T_skipG rfl rfl rfl rfl rfl ?_
          refine T_skipG rfl rfl rfl rfl rfl ?_
          refine T_skipG rfl rfl rfl rfl rfl ?_
          refine T_val (Ev_pickT rfl rfl) rfl ?_
          refine T_nil ?_
          exact T_metP true () hx52 trivial (by exact .cons rfl (.cons rfl (.cons rfl (.cons rfl (.cons rfl (.cons rfl (.nil))))))) (by exact .pick 0 rfl (.pick 0 rfl (.pick 0 rfl (.pick 0 rfl (.pick 0 rfl (.pick 0 rfl (.pick 0 rfl (.drop 0 rfl (.drop 0 rfl (.refl))))))))))
        · have hx53 := ite_t h51 hx40
          refine T_valG rfl rfl rfl (Ev_move rfl) rfl ?_
          refine T_valG rfl rfl rfl (Ev_neq rfl rfl) rfl ?_
          refine T_val (Ev_pickF rfl rfl) rfl ?_
          refine T_val (Ev_move rfl) rfl ?_
          refine T_caseNP (s := 56) rfl (fun h54 => ?_) (fun h54 => ?_)
          · have hx55 := ite_f h54 hx53
            refine T_skipG rfl rfl rfl rfl rfl ?_
            refine T_skipG rfl rfl rfl rfl rfl ?_
            refine T_skipG rfl rfl rfl rfl rfl ?_
            refine T_skipG rfl rfl rfl rfl rfl ?_
            refine T_skipG rfl rfl rfl rfl rfl ?_
            refine T_skipG rfl rfl rfl rfl rfl ?_
            refine T_val (Ev_pickT rfl rfl) rfl ?_
            refine T_nil ?_
            exact T_metP true () hx55 trivial (by exact .cons rfl (.cons rfl (.cons rfl (.cons rfl (.cons rfl (.cons rfl (.nil))))))) (by exact .pick 0 rfl (.pick 0 rfl (.pick 0 rfl (.pick 0 rfl (.pick 0 rfl (.pick 0 rfl (.pick 0 rfl (.drop 0 rfl (.drop 0 rfl (.refl))))))))))
          · have hx56 := ite_t h54 hx53
            refine T_valG rfl rfl rfl (Ev_move rfl) rfl ?_
            refine T_valG rfl rfl rfl (Ev_len rfl 3 Try.underlying27) rfl ?_
            refine T_valG rfl rfl rfl (Ev_field rfl fld26_1 rfl) rfl ?_
            refine T_valG rfl rfl rfl (Ev_load1 rfl (i := 5) rfl rfl one24) rfl ?_
            refine T_valG rfl rfl rfl (Ev_len rfl 41 Try.underlying24) rfl ?_
            refine T_valG rfl rfl rfl (Ev_neq rfl rfl) rfl ?_
            refine T_val (Ev_pickF rfl rfl) rfl ?_
            refine T_nil ?_
            exact T_metP (!(decide (((((r31.1).length : Nat) : Int)) = ((((r20.1.Cells).length : Nat) : Int))))) () hx56 trivial (by exact .cons rfl (.cons rfl (.cons rfl (.cons rfl (.cons rfl (.cons rfl (.nil))))))) (by exact .pick 0 rfl (.pick 0 rfl (.pick 0 rfl (.pick 0 rfl (.pick 0 rfl (.pick 0 rfl (.pick 0 rfl (.drop 0 rfl (.drop 0 rfl (.refl))))))))))
  · skip
    refine T_reg ?_
    refine T_val (Ev_loadK rfl (i := 1) rfl rfl agg26) rfl ?_
    obtain ⟨r3, h4, hx5⟩ := bnd_some hx
    refine T_x (Wx_callL rfl (fun w1 hw1 => lidarlaw09_good_ok p0 (Has.len' ha0') h4 w1 (okApp (K := K) (K2 := []) hK (by exact (SubE.cons2 (i := 2) rfl (SubE.nil))) (by exact (SubE.nil)) hw1)) rfl ?_)
    rintro _ _ hlo ⟨rfl, rfl, -⟩
    refine T_app0 ?_
    refine T_val (Ev_not rfl) rfl ?_
    refine T_val (Ev_move rfl) rfl ?_
    refine T_caseNB (s := 26) rfl (fun h6 => ?_) (fun h6 => ?_)
    · have hx7 := ite_bf h6 hx5
      refine T_skipG rfl rfl rfl rfl rfl ?_
      refine T_skipG rfl rfl rfl rfl rfl ?_
      refine T_skipG rfl rfl rfl rfl rfl ?_
      refine T_val (Ev_pickT rfl rfl) rfl ?_
      refine T_nil ?_
      exact T_metP true () hx7 trivial (by exact .cons rfl (.cons rfl (.cons rfl (.cons rfl (.nil))))) (by exact .pick 0 rfl (.pick 0 rfl (.refl)))
    · have hx8 := ite_t h6 hx5
      refine T_valG rfl rfl rfl (Ev_loadK rfl (i := 0) rfl rfl agg26) rfl ?_
      obtain ⟨r9, h10, hx11⟩ := bnd_some hx8
      refine T_xG rfl rfl rfl (Wx_callL rfl (fun w1 hw1 => lidarlaw09_good_ok p1 (Has.len' ha1') h10 w1 (okApp (K := K) (K2 := []) hK (by exact (SubE.cons2 (i := 2) rfl (SubE.nil))) (by exact (SubE.nil)) hw1)) rfl ?_)
      rintro _ _ hlo ⟨rfl, rfl, -⟩
      refine T_app0 ?_
      refine T_valG rfl rfl rfl (Ev_not rfl) rfl ?_
      refine T_val (Ev_pickF rfl rfl) rfl ?_
      refine T_nil ?_
      exact T_metP (!(r9)) () hx11 trivial (by exact .cons rfl (.cons rfl (.cons rfl (.cons rfl (.nil))))) (by exact .pick 0 rfl (.pick 0 rfl (.refl)))
end Go.Proofs.Ytjhknbpiaikblaa
