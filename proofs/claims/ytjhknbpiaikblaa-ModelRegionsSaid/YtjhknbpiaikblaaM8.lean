/- Walks of the program, with their plain functions: amounts of the reference. -/
import Derived.Test.YtjhknbpiaikblaaM14r
namespace Go.Proofs.Ytjhknbpiaikblaa
open Go Go.RowKit
theorem zer39 : ZeroOf Try.prog 39 [.int .i64 (0), .int .i64 (0)] := ⟨_, Try.zeroValue39, rfl⟩
noncomputable def lidarref09_Amount_l4 (p2 : List Int) (r27 : S_lidarref01_Q) (p0 : S_api_Grid) (p1 : S_api_Grid) : (Bool × (List Int) × (List Int) × Bool × (List Int) × (List Int) × Int) → Option (Sum (Bool × (List Int) × (List Int) × Bool × (List Int) × (List Int) × Int) (Bool × (List Int) × (List Int) × Bool × (List Int) × (List Int))) := fun s1052 =>
 if s1052.2.2.2.2.2.2 < ((((p2).length : Nat) : Int)) then (jn (fun (s19 : Int × Int × Int × Int) =>
 bnd (lidarref01_Whole (w64 (s19.2.2.1 - s19.2.1))) fun r1491 =>
 bnd (lidarref01_Q_Mul r27 r1491) fun r1505 =>
 bnd (lidarref01_Q_Add (⟨(⟨s1052.1, s1052.2.1⟩ : S_lidarref01_Int), s1052.2.2.1⟩ : S_lidarref01_Q) r1505) fun r1518 =>
 bnd (lidarref01_Whole (w64 (s19.2.2.2 - s19.1))) fun r1525 =>
 bnd (lidarref01_Q_Mul r27 r1525) fun r1539 =>
 bnd (lidarref01_Q_Add (⟨(⟨s1052.2.2.2.1, s1052.2.2.2.2.1⟩ : S_lidarref01_Int), s1052.2.2.2.2.2.1⟩ : S_lidarref01_Q) r1539) fun r1552 =>
 some (.inl (r1518.N.Neg, r1518.N.L, r1518.D, r1552.N.Neg, r1552.N.L, r1552.D, w64 (s1052.2.2.2.2.2.2 + 1))))
 (fun j19 => bnd (idx p2 s1052.2.2.2.2.2.2) fun x1059 =>
 bnd (idx p0.Cells x1059) fun x1070 =>
 bnd (idx p2 s1052.2.2.2.2.2.2) fun x1081 =>
 bnd (idx p1.Cells x1081) fun x1092 =>
 j19 (x1070.Z.Lo, x1070.Z.Hi, x1092.Z.Lo, x1092.Z.Hi)))
 else (some (.inr (s1052.1, s1052.2.1, s1052.2.2.1, s1052.2.2.2.1, s1052.2.2.2.2.1, s1052.2.2.2.2.2.1)))
noncomputable def lidarref09_Amount (p0 : S_api_Grid) (p1 : S_api_Grid) (p2 : List Int) : Option (S_lidarref01_Q × S_lidarref01_Q) :=
 bnd (lidarref01_Whole 0) fun r5 =>
 bnd (lidarref01_Whole 0) fun r15 =>
 bnd (lidarref01_Whole (w64 (p0.Raster.Step * p0.Raster.Step))) fun r27 =>
 jn (fun (s4 : Bool × (List Int) × (List Int) × Bool × (List Int) × (List Int)) =>
 jn (fun (s21 : Unit) =>
 some ((⟨(⟨s4.1, s4.2.1⟩ : S_lidarref01_Int), s4.2.2.1⟩ : S_lidarref01_Q), (⟨(⟨s4.2.2.2.1, s4.2.2.2.2.1⟩ : S_lidarref01_Int), s4.2.2.2.2.2⟩ : S_lidarref01_Q)))
 (fun j21 => j21 ()))
 (fun j4 => bnd (lfix (lidarref09_Amount_l4 p2 r27 p0 p1) (r5.N.Neg, r5.N.L, r5.D, r15.N.Neg, r15.N.L, r15.D, 0)) fun t1052 =>
 j4 t1052)
set_option maxHeartbeats 1000000 in
set_option maxRecDepth 100000 in
theorem lidarref09_Amount_ok (p0 : S_api_Grid) (p1 : S_api_Grid) (p2 : List Int) {K : List Ent} {A0_0 : Option Addr} {c0_0 : Nat} {A0_1 : Option Addr} {c0_1 : Nat} {A0_2 : Option Addr} {c0_2 : Nat} (ha0 : Has K A0_0 (p0.Cells).length c0_0 3 e_api_Cell (p0.Cells)) (ha1 : Has K A0_1 (p1.Cells).length c0_1 3 e_api_Cell (p1.Cells)) (ha2 : Has K A0_2 (p2).length c0_2 1 e_i64 (p2)) {r : S_lidarref01_Q × S_lidarref01_Q} (hx : lidarref09_Amount p0 p1 p2 = some r) (w : World) (hK : ∀ e ∈ K, Ent.ok w e) : CtL Try.prog 21 [.agg #[.int .i64 (p0.Raster.X0), .int .i64 (p0.Raster.Y0), .int .i64 (p0.Raster.Step), .int .i64 (p0.Raster.NX), .int .i64 (p0.Raster.NY), .slice (A0_0) ((p0.Cells).length) (c0_0)], .agg #[.int .i64 (p1.Raster.X0), .int .i64 (p1.Raster.Y0), .int .i64 (p1.Raster.Step), .int .i64 (p1.Raster.NX), .int .i64 (p1.Raster.NY), .slice (A0_1) ((p1.Cells).length) (c0_1)], .slice (A0_2) ((p2).length) (c0_2)] w fun v Ln => ∃ (A0 : Option Addr) (c0 : Nat) (A2 : Option Addr) (c2 : Nat) (A4 : Option Addr) (c4 : Nat) (A6 : Option Addr) (c6 : Nat) (e0 : Ent) (e1 : Ent) (e2 : Ent), v = .tuple #[.agg #[.bool (r.1.N.Neg), .slice (A0) ((r.1.N.L).length) (c0), .slice (A2) ((r.1.D).length) (c2)], .agg #[.bool (r.2.N.Neg), .slice (A4) ((r.2.N.L).length) (c4), .slice (A6) ((r.2.D).length) (c6)]] ∧ Ln = [.r A2 (r.1.D).length c2 3 1 ((r.1.D).flatMap e_i64), .r A6 (r.2.D).length c6 3 1 ((r.2.D).flatMap e_i64), e0, e1, e2] ∧ Has (K ++ [e0, e1, e2]) A0 (r.1.N.L).length c0 1 e_i64 (r.1.N.L) ∧ Has (K ++ [e0, e1, e2]) A4 (r.2.N.L).length c4 1 e_i64 (r.2.N.L) ∧ True := by
  have ha0' := Has.up0 ha0
  have ha1' := Has.up0 ha1
  have ha2' := Has.up0 ha2
  refine CtL.mk 70 Try.func21 rfl Try.ntmps21 (by kernel_rfl) rfl ?_
  show T 70 _ [(0, .agg #[.int .i64 (p0.Raster.X0), .int .i64 (p0.Raster.Y0), .int .i64 (p0.Raster.Step), .int .i64 (p0.Raster.NX), .int .i64 (p0.Raster.NY), .slice (A0_0) ((p0.Cells).length) (c0_0)]), (1, .agg #[.int .i64 (p1.Raster.X0), .int .i64 (p1.Raster.Y0), .int .i64 (p1.Raster.Step), .int .i64 (p1.Raster.NX), .int .i64 (p1.Raster.NY), .slice (A0_1) ((p1.Cells).length) (c0_1)]), (2, .slice (A0_2) ((p2).length) (c0_2))] _
  unfold lidarref09_Amount at hx
  refine T_seq ?_
  refine T_reg ?_
  refine T_x (Wx_box rfl rfl rfl (fun g1 => ?_))
  refine T_x (Wx_box rfl rfl rfl (fun g2 => ?_))
  refine T_x (Wx_alloc zer45 rfl (fun g3 => ?_))
  refine T_x (Wx_alloc zer45 rfl (fun g4 => ?_))
  refine T_nil ?_
  refine T_next ?_
  refine T_seq ?_
  refine T_reg ?_
  obtain ⟨r5, h6, hx7⟩ := bnd_some hx
  refine T_x (Wx_callL rfl (fun w1 hw1 => lidarref01_Whole_ok 0  h6 w1) rfl ?_)
  rintro _ _ hlo ⟨A8, c9, A10, c11, e12, rfl, rfl, hs13, -⟩
  have lo14 := hlo e12 (by simp)
  refine T_app2 ?_
  obtain ⟨r15, h16, hx17⟩ := bnd_some hx7
  refine T_x (Wx_callL rfl (fun w1 hw1 => lidarref01_Whole_ok 0  h16 w1) rfl ?_)
  rintro _ _ hlo ⟨A18, c19, A20, c21, e22, rfl, rfl, hs23, -⟩
  have lo24 := hlo e22 (by simp)
  refine T_app2 ?_
  refine T_x (Wx_alloc zer45 rfl (fun g25 => ?_))
  refine T_x (Wx_alloc zer45 rfl (fun g26 => ?_))
  refine T_h (Wh_store rfl rfl rfl (.there (.here)) (.put (.put (.put (.done)))) rfl (List.cons_ne_nil _ _) agg45.2 ?_)
  refine T_h (Wh_store rfl rfl rfl (.here) (.put (.put (.put (.done)))) rfl (List.cons_ne_nil _ _) agg45.2 ?_)
  refine T_nil ?_
  refine T_next ?_
  refine T_seq ?_
  refine T_reg ?_
  refine T_val (Ev_field rfl fld26_0 rfl) rfl ?_
  refine T_val (Ev_field rfl fld23_2 rfl) rfl ?_
  refine T_val (Ev_load1 rfl (i := 9) rfl rfl one3) rfl ?_
  refine T_val (Ev_field rfl fld26_0 rfl) rfl ?_
  refine T_val (Ev_field rfl fld23_2 rfl) rfl ?_
  refine T_val (Ev_load1 rfl (i := 9) rfl rfl one3) rfl ?_
  refine T_val (Ev_mul_w64 rfl rfl) rfl ?_
  obtain ⟨r27, h28, hx29⟩ := bnd_some hx17
  refine T_x (Wx_callL rfl (fun w1 hw1 => lidarref01_Whole_ok (w64 (p0.Raster.Step * p0.Raster.Step))  h28 w1) rfl ?_)
  rintro _ _ hlo ⟨A30, c31, A32, c33, e34, rfl, rfl, hs35, -⟩
  have lo36 := hlo e34 (by simp)
  refine T_app2 ?_
  refine T_x (Wx_alloc zer45 rfl (fun g37 => ?_))
  refine T_h (Wh_store rfl rfl rfl (.here) (.put (.put (.put (.done)))) rfl (List.cons_ne_nil _ _) agg45.2 ?_)
  refine T_nil ?_
  refine T_next ?_
  obtain ⟨j4, hj4, hx29⟩ := jn_some hx29
  refine T_cutP (τ := Bool × (List Int) × (List Int) × Bool × (List Int) × (List Int)) (γ := (Option Addr) × Nat × Ent × (Option Addr) × Nat × (Option Addr) × Nat × (Option Addr) × Nat) (J := j4) (out := r) (fun s4 y4 => [(6, .pointer (some ⟨g3, 0, none⟩)), (7, .pointer (some ⟨g4, 0, none⟩)), (8, .pointer (some ⟨g25, 0, none⟩)), (9, .pointer (some ⟨g26, 0, none⟩))]) (fun s4 y4 => [y4.2.2.1, .m g26 45 [.bool (s4.2.2.2.1), .slice (y4.2.2.2.2.2.1) ((s4.2.2.2.2.1).length) (y4.2.2.2.2.2.2.1), .slice (y4.2.2.2.2.2.2.2.1) ((s4.2.2.2.2.2).length) (y4.2.2.2.2.2.2.2.2)], .m g25 45 [.bool (s4.1), .slice (y4.1) ((s4.2.1).length) (y4.2.1), .slice (y4.2.2.2.1) ((s4.2.2.1).length) (y4.2.2.2.2.1)], .r (y4.2.2.2.2.2.2.2.1) ((s4.2.2.2.2.2).length) (y4.2.2.2.2.2.2.2.2) 3 1 ((s4.2.2.2.2.2).flatMap e_i64), e22, .r (y4.2.2.2.1) ((s4.2.2.1).length) (y4.2.2.2.2.1) 3 1 ((s4.2.2.1).flatMap e_i64), e12, .m g4 45 [.bool (false), .slice (none) (0) (0), .slice (none) (0) (0)], .m g3 45 [.bool (false), .slice (none) (0) (0), .slice (none) (0) (0)]] ++ [.old w]) (fun s4 y4 => y4.2.2.1.low = 0 ∧ Has ([e12, y4.2.2.1] : List Ent) (y4.1) ((s4.2.1).length) (y4.2.1) 1 e_i64 (s4.2.1) ∧ Has ([e22, y4.2.2.1] : List Ent) (y4.2.2.2.2.2.1) ((s4.2.2.2.2.1).length) (y4.2.2.2.2.2.2.1) 1 e_i64 (s4.2.2.2.2.1) ∧ True) ?_ ?_
  · intro s4 y4 hx1563 hG1564
    obtain ⟨lo1565, hs1566, hs1567, -⟩ := hG1564
    subst hj4
    obtain ⟨j21, hj21, hx1563⟩ := jn_some hx1563
    refine T_cutP (τ := Unit) (γ := Unit) (J := j21) (out := r) (fun s21 y21 => [(6, .pointer (some ⟨g3, 0, none⟩)), (7, .pointer (some ⟨g4, 0, none⟩))]) (fun s21 y21 => [y4.2.2.1, .r (y4.2.2.2.2.2.2.2.1) ((s4.2.2.2.2.2).length) (y4.2.2.2.2.2.2.2.2) 3 1 ((s4.2.2.2.2.2).flatMap e_i64), e22, .r (y4.2.2.2.1) ((s4.2.2.1).length) (y4.2.2.2.2.1) 3 1 ((s4.2.2.1).flatMap e_i64), e12, .m g4 45 [.bool (s4.2.2.2.1), .slice (y4.2.2.2.2.2.1) ((s4.2.2.2.2.1).length) (y4.2.2.2.2.2.2.1), .slice (y4.2.2.2.2.2.2.2.1) ((s4.2.2.2.2.2).length) (y4.2.2.2.2.2.2.2.2)], .m g3 45 [.bool (s4.1), .slice (y4.1) ((s4.2.1).length) (y4.2.1), .slice (y4.2.2.2.1) ((s4.2.2.1).length) (y4.2.2.2.2.1)]] ++ [.old w]) (fun s21 y21 => True) ?_ ?_
    · intro s21 y21 hx1568 hG1569
      subst hj21
      refine T_retc ?_
      obtain rfl := Option.some.inj hx1568
      exact T_retP (rs := [.cell 6 45, .cell 7 45]) Try.results21 (.cell rfl (i := 6) rfl rfl agg45 (.cell rfl (i := 5) rfl rfl agg45 (.nil))) (Ln := [.r (y4.2.2.2.1) ((s4.2.2.1).length) (y4.2.2.2.2.1) 3 1 ((s4.2.2.1).flatMap e_i64), .r (y4.2.2.2.2.2.2.2.1) ((s4.2.2.2.2.2).length) (y4.2.2.2.2.2.2.2.2) 3 1 ((s4.2.2.2.2.2).flatMap e_i64), e12, y4.2.2.1, e22]) ⟨y4.1, y4.2.1, y4.2.2.2.1, y4.2.2.2.2.1, y4.2.2.2.2.2.1, y4.2.2.2.2.2.2.1, y4.2.2.2.2.2.2.2.1, y4.2.2.2.2.2.2.2.2, e12, y4.2.2.1, e22, rfl, rfl, Has.len' (Has.up (L := (K ++ [e12, y4.2.2.1, e22])) hs1566 (SubE.appR2 (SubE.cons2 (i := 0) rfl (SubE.cons2 (i := 1) rfl (SubE.nil))))), Has.len' (Has.up (L := (K ++ [e12, y4.2.2.1, e22])) hs1567 (SubE.appR2 (SubE.cons2 (i := 2) rfl (SubE.cons2 (i := 1) rfl (SubE.nil))))), trivial⟩ (loCons rfl (loCons rfl (loCons lo14 (loCons lo1565 (loCons lo24 (loNil)))))) (by exact .pick 3 rfl (.pick 1 rfl (.pick 2 rfl (.pick 0 rfl (.pick 0 rfl (.drop 0 rfl (.drop 0 rfl (.refl))))))))
    · skip
      refine T_draw [1, 2, 3, 3] [[], [], [0], [0, 1, 2]] (.q 0 (.e 1 (.e 2 (.e 3 (.done) (.stop)) (.stop)) (.e 2 (.e 1 (.e 3 (.done) (.stop)) (.stop)) (.stop)))) mixed (by kernel_rfl) (by kernel_rfl) ?_
      refine P_q rfl rfl (Ev_loadK rfl (i := 2) rfl rfl agg45) rfl ?_
      refine P_x rfl (Wx_val (Ev_loadK rfl (i := 1) rfl rfl agg45) rfl ?_) ?_
      · skip
        refine P_h rfl rfl (Wh_store rfl rfl rfl (.there (.there (.there (.there (.there (.there (.there (.there (.here))))))))) (.put (.put (.put (.done)))) rfl (List.cons_ne_nil _ _) agg45.2 ?_) ?_
        rotate_left; exact P_stop
        refine P_h rfl rfl (Wh_store rfl rfl rfl (.there (.there (.there (.there (.there (.there (.there (.here)))))))) (.put (.put (.put (.done)))) rfl (List.cons_ne_nil _ _) agg45.2 ?_) ?_
        rotate_left; exact P_stop
        refine P_done ?_
        exact T_metP () () hx1563 trivial (by exact .cons rfl (.cons rfl (.nil))) (by exact .pick 0 rfl (.pick 2 rfl (.pick 2 rfl (.pick 2 rfl (.pick 2 rfl (.pick 2 rfl (.pick 2 rfl (.drop 0 rfl (.drop 0 rfl (.refl))))))))))
      · skip
        refine P_h rfl rfl (Wh_store rfl rfl rfl (.there (.there (.there (.there (.there (.there (.there (.there (.here))))))))) (.put (.put (.put (.done)))) rfl (List.cons_ne_nil _ _) agg45.2 ?_) ?_
        rotate_left; exact P_stop
        refine P_x rfl (Wx_val (Ev_loadK rfl (i := 1) rfl rfl agg45) rfl ?_) ?_
        rotate_left; exact P_stop
        refine P_h rfl rfl (Wh_store rfl rfl rfl (.there (.there (.there (.there (.there (.there (.there (.here)))))))) (.put (.put (.put (.done)))) rfl (List.cons_ne_nil _ _) agg45.2 ?_) ?_
        rotate_left; exact P_stop
        refine P_done ?_
        exact T_metP () () hx1563 trivial (by exact .cons rfl (.cons rfl (.nil))) (by exact .pick 0 rfl (.pick 2 rfl (.pick 2 rfl (.pick 2 rfl (.pick 2 rfl (.pick 2 rfl (.pick 2 rfl (.drop 0 rfl (.drop 0 rfl (.refl))))))))))
  · skip
    refine T_seq ?_
    refine T_reg ?_
    refine T_val (Ev_assign rfl) rfl ?_
    refine T_nil ?_
    refine T_next ?_
    refine T_block ?_
    obtain ⟨t1052, hl1052, ho1052⟩ := bnd_some hx29
    refine T_none 0 1 ?_
    refine T_loopP (σ := Bool × (List Int) × (List Int) × Bool × (List Int) × (List Int) × Int) (γ := (Option Addr) × Nat × Ent × (Option Addr) × Nat × (Option Addr) × Nat × (Option Addr) × Nat) hl1052 (fun s1052 y1052 => [(2, .slice (A0_2) ((p2).length) (c0_2)), (3, .pointer (some ⟨g1, 0, none⟩)), (4, .pointer (some ⟨g2, 0, none⟩)), (6, .pointer (some ⟨g3, 0, none⟩)), (7, .pointer (some ⟨g4, 0, none⟩)), (8, .pointer (some ⟨g25, 0, none⟩)), (9, .pointer (some ⟨g26, 0, none⟩)), (10, .pointer (some ⟨g37, 0, none⟩)), (11, .int .i64 (s1052.2.2.2.2.2.2))]) (fun s1052 y1052 => [y1052.2.2.1, .m g37 45 [.bool (r27.N.Neg), .slice (A30) ((r27.N.L).length) (c31), .slice (A32) ((r27.D).length) (c33)], .r (A32) ((r27.D).length) (c33) 3 1 ((r27.D).flatMap e_i64), e34, .m g26 45 [.bool (s1052.2.2.2.1), .slice (y1052.2.2.2.2.2.1) ((s1052.2.2.2.2.1).length) (y1052.2.2.2.2.2.2.1), .slice (y1052.2.2.2.2.2.2.2.1) ((s1052.2.2.2.2.2.1).length) (y1052.2.2.2.2.2.2.2.2)], .m g25 45 [.bool (s1052.1), .slice (y1052.1) ((s1052.2.1).length) (y1052.2.1), .slice (y1052.2.2.2.1) ((s1052.2.2.1).length) (y1052.2.2.2.2.1)], .r (y1052.2.2.2.2.2.2.2.1) ((s1052.2.2.2.2.2.1).length) (y1052.2.2.2.2.2.2.2.2) 3 1 ((s1052.2.2.2.2.2.1).flatMap e_i64), e22, .r (y1052.2.2.2.1) ((s1052.2.2.1).length) (y1052.2.2.2.2.1) 3 1 ((s1052.2.2.1).flatMap e_i64), e12, .m g4 45 [.bool (false), .slice (none) (0) (0), .slice (none) (0) (0)], .m g3 45 [.bool (false), .slice (none) (0) (0), .slice (none) (0) (0)], .m g2 26 [.int .i64 (p1.Raster.X0), .int .i64 (p1.Raster.Y0), .int .i64 (p1.Raster.Step), .int .i64 (p1.Raster.NX), .int .i64 (p1.Raster.NY), .slice (A0_1) ((p1.Cells).length) (c0_1)], .m g1 26 [.int .i64 (p0.Raster.X0), .int .i64 (p0.Raster.Y0), .int .i64 (p0.Raster.Step), .int .i64 (p0.Raster.NX), .int .i64 (p0.Raster.NY), .slice (A0_0) ((p0.Cells).length) (c0_0)]] ++ [.old w]) (fun s1052 y1052 => y1052.2.2.1.low = 0 ∧ Has ([e12, y1052.2.2.1] : List Ent) (y1052.1) ((s1052.2.1).length) (y1052.2.1) 1 e_i64 (s1052.2.1) ∧ Has ([e22, y1052.2.2.1] : List Ent) (y1052.2.2.2.2.2.1) ((s1052.2.2.2.2.1).length) (y1052.2.2.2.2.2.2.1) 1 e_i64 (s1052.2.2.2.2.1) ∧ True) (A8, c9, .r none 0 0 0 1 [], A10, c11, A18, c19, A20, c21) ((by exact ⟨rfl, Has.len' ((Has.up (L := ([e12, .r none 0 0 0 1 []] : List Ent)) hs13 (SubE.cons2 (i := 0) rfl (SubE.nil)))), Has.len' ((Has.up (L := ([e22, .r none 0 0 0 1 []] : List Ent)) hs23 (SubE.cons2 (i := 0) rfl (SubE.nil)))), trivial⟩)) (by exact .cons rfl (.cons rfl (.cons rfl (.cons rfl (.cons rfl (.cons rfl (.cons rfl (.cons rfl (.cons rfl (.nil)))))))))) (by exact .pick 0 rfl (.pick 0 rfl (.pick 0 rfl (.pick 0 rfl (.pick 0 rfl (.pick 0 rfl (.pick 0 rfl (.pick 0 rfl (.pick 0 rfl (.pick 0 rfl (.pick 0 rfl (.pick 0 rfl (.pick 0 rfl (.pick 0 rfl (.refl))))))))))))))) ?_
    intro s1052 y1052 hG1052 x1052 hx1052 ht1052
    unfold lidarref09_Amount_l4 at hx1052
    obtain ⟨lo1053, hs1054, hs1055, -⟩ := hG1052
    refine T_seq ?_
    refine T_seq ?_
    refine T_reg ?_
    refine T_val (Ev_move rfl) rfl ?_
    refine T_val (Ev_move rfl) rfl ?_
    refine T_val (Ev_len rfl 3 Try.underlying27) rfl ?_
    refine T_val (Ev_lss rfl rfl) rfl ?_
    refine T_nil ?_
    refine T_next ?_
    refine T_caseP (s := 27) rfl (fun h1056 => ?_) (fun h1056 => ?_)
    · have hx1057 := ite_t h1056 hx1052
      refine T_condT rfl ?_
      refine T_skip ?_
      refine T_next ?_
      refine T_seq ?_
      refine T_block ?_
      obtain ⟨j19, hj19, hx1057⟩ := jn_some hx1057
      refine T_cutP (τ := Int × Int × Int × Int) (γ := Nat × Nat) (J := j19) (out := x1052) (fun s19 y19 => [(2, .slice (A0_2) ((p2).length) (c0_2)), (3, .pointer (some ⟨g1, 0, none⟩)), (4, .pointer (some ⟨g2, 0, none⟩)), (6, .pointer (some ⟨g3, 0, none⟩)), (7, .pointer (some ⟨g4, 0, none⟩)), (8, .pointer (some ⟨g25, 0, none⟩)), (9, .pointer (some ⟨g26, 0, none⟩)), (10, .pointer (some ⟨g37, 0, none⟩)), (11, .int .i64 (s1052.2.2.2.2.2.2)), (12, .pointer (some ⟨y19.1, 0, none⟩)), (13, .pointer (some ⟨y19.2, 0, none⟩))]) (fun s19 y19 => [.m y19.2 39 [.int .i64 (s19.2.2.1), .int .i64 (s19.2.2.2)], .m y19.1 39 [.int .i64 (s19.1), .int .i64 (s19.2.1)], y1052.2.2.1, .m g37 45 [.bool (r27.N.Neg), .slice (A30) ((r27.N.L).length) (c31), .slice (A32) ((r27.D).length) (c33)], .r (A32) ((r27.D).length) (c33) 3 1 ((r27.D).flatMap e_i64), e34, .m g26 45 [.bool (s1052.2.2.2.1), .slice (y1052.2.2.2.2.2.1) ((s1052.2.2.2.2.1).length) (y1052.2.2.2.2.2.2.1), .slice (y1052.2.2.2.2.2.2.2.1) ((s1052.2.2.2.2.2.1).length) (y1052.2.2.2.2.2.2.2.2)], .m g25 45 [.bool (s1052.1), .slice (y1052.1) ((s1052.2.1).length) (y1052.2.1), .slice (y1052.2.2.2.1) ((s1052.2.2.1).length) (y1052.2.2.2.2.1)], .r (y1052.2.2.2.2.2.2.2.1) ((s1052.2.2.2.2.2.1).length) (y1052.2.2.2.2.2.2.2.2) 3 1 ((s1052.2.2.2.2.2.1).flatMap e_i64), e22, .r (y1052.2.2.2.1) ((s1052.2.2.1).length) (y1052.2.2.2.2.1) 3 1 ((s1052.2.2.1).flatMap e_i64), e12, .m g4 45 [.bool (false), .slice (none) (0) (0), .slice (none) (0) (0)], .m g3 45 [.bool (false), .slice (none) (0) (0), .slice (none) (0) (0)], .m g2 26 [.int .i64 (p1.Raster.X0), .int .i64 (p1.Raster.Y0), .int .i64 (p1.Raster.Step), .int .i64 (p1.Raster.NX), .int .i64 (p1.Raster.NY), .slice (A0_1) ((p1.Cells).length) (c0_1)], .m g1 26 [.int .i64 (p0.Raster.X0), .int .i64 (p0.Raster.Y0), .int .i64 (p0.Raster.Step), .int .i64 (p0.Raster.NX), .int .i64 (p0.Raster.NY), .slice (A0_0) ((p0.Cells).length) (c0_0)]] ++ [.old w]) (fun s19 y19 => True) ?_ ?_
      · intro s19 y19 hx1489 hG1490
        subst hj19
        refine T_seq ?_
        refine T_draw [1, 1, 0, 1, 0, 1, 0, 2, 2, 2, 3] [[], [], [], [2], [], [4], [2, 3, 4, 5], [2, 3, 4, 5, 6], [1, 2, 3, 4, 5, 6, 7], [0, 1, 2, 3, 4, 5, 6, 7, 8], [0, 1, 2, 3, 4, 5, 6, 7, 8, 9]] (.q 0 (.q 1 (.q 2 (.q 3 (.q 4 (.q 5 (.q 6 (.e 7 (.e 8 (.e 9 (.e 10 (.done) (.stop)) (.stop)) (.stop)) (.stop))))))))) mixed (by kernel_rfl) (by kernel_rfl) ?_
        refine P_q rfl rfl (Ev_loadK rfl (i := 7) rfl rfl agg45) rfl ?_
        refine P_q rfl rfl (Ev_loadK rfl (i := 3) rfl rfl agg45) rfl ?_
        refine P_p rfl rfl (Ev_field rfl fld39_0 rfl) rfl ?_
        refine P_q rfl rfl (Ev_load1 rfl (i := 0) rfl rfl one3) rfl ?_
        refine P_p rfl rfl (Ev_field rfl fld39_1 rfl) rfl ?_
        refine P_q rfl rfl (Ev_load1 rfl (i := 1) rfl rfl one3) rfl ?_
        refine P_p rfl rfl (Ev_sub_w64 rfl rfl) rfl ?_
        obtain ⟨r1491, h1492, hx1493⟩ := bnd_some hx1489
        refine P_x rfl (Wx_callL rfl (fun w1 hw1 => lidarref01_Whole_ok (w64 (s19.2.2.1 - s19.2.1))  h1492 w1) rfl ?_) ?_
        rotate_left; exact P_stop
        rintro _ _ hlo ⟨A1494, c1495, A1496, c1497, e1498, rfl, rfl, hs1499, -⟩
        have lo1500 := hlo e1498 (by simp)
        refine T_app2 ?_
        refine T_rowP (k := 6) rfl (by decide) (fun _ => rfl) (fun hn1501 hs1502 => ?_)
        refine T_rowP (k := 0) rfl (by decide) (fun _ => rfl) (fun hn1503 hs1504 => ?_)
        obtain ⟨r1505, h1506, hx1507⟩ := bnd_some hx1493
        refine P_x rfl (Wx_callL rfl (fun w1 hw1 => lidarref01_Q_Mul_ok r27 r1491 (Has.len' (Has.up (L := ([e34, .r (A32) ((r27.D).length) (c33) 3 1 ((r27.D).flatMap e_i64), e1498, .r (A1496) ((r1491.D).length) (c1497) 3 1 ((r1491.D).flatMap e_i64)] : List Ent)) hs35 (SubE.cons2 (i := 0) rfl (SubE.nil)))) (Has.len' (Has.up (L := ([e34, .r (A32) ((r27.D).length) (c33) 3 1 ((r27.D).flatMap e_i64), e1498, .r (A1496) ((r1491.D).length) (c1497) 3 1 ((r1491.D).flatMap e_i64)] : List Ent)) hs1502 (SubE.cons2 (i := 1) rfl (SubE.nil)))) (Has.len' (Has.up (L := ([e34, .r (A32) ((r27.D).length) (c33) 3 1 ((r27.D).flatMap e_i64), e1498, .r (A1496) ((r1491.D).length) (c1497) 3 1 ((r1491.D).flatMap e_i64)] : List Ent)) hs1499 (SubE.cons2 (i := 2) rfl (SubE.nil)))) (Has.len' (Has.up (L := ([e34, .r (A32) ((r27.D).length) (c33) 3 1 ((r27.D).flatMap e_i64), e1498, .r (A1496) ((r1491.D).length) (c1497) 3 1 ((r1491.D).flatMap e_i64)] : List Ent)) hs1504 (SubE.cons2 (i := 3) rfl (SubE.nil)))) h1506 w1 (okAll (K := ([e34, .r (A32) ((r27.D).length) (c33) 3 1 ((r27.D).flatMap e_i64), e1498, .r (A1496) ((r1491.D).length) (c1497) 3 1 ((r1491.D).flatMap e_i64)] : List Ent)) (by exact (SubE.cons2 (i := 7) rfl (SubE.cons2 (i := 6) rfl (SubE.cons2 (i := 1) rfl (SubE.cons2 (i := 0) rfl (SubE.nil)))))) hw1)) rfl ?_) ?_
        rotate_left; exact P_stop
        rintro _ _ hlo ⟨A1508, c1509, A1510, c1511, rfl, rfl, -⟩
        refine T_app2 ?_
        refine T_rowP (k := 14) rfl (by decide) (fun _ => rfl) (fun hn1512 hs1513 => ?_)
        refine T_rowP (k := 0) rfl (by decide) (fun _ => rfl) (fun hn1514 hs1515 => ?_)
        refine T_rowP (k := 1) rfl (by decide) (fun _ => rfl) (fun hn1516 hs1517 => ?_)
        obtain ⟨r1518, h1519, hx1520⟩ := bnd_some hx1507
        refine P_x rfl (Wx_callL rfl (fun w1 hw1 => lidarref01_Q_Add_ok (⟨(⟨s1052.1, s1052.2.1⟩ : S_lidarref01_Int), s1052.2.2.1⟩ : S_lidarref01_Q) r1505 (Has.len' (Has.up (L := ([e12, y1052.2.2.1, .r (y1052.2.2.2.1) ((s1052.2.2.1).length) (y1052.2.2.2.2.1) 3 1 ((s1052.2.2.1).flatMap e_i64), .r (A1508) ((r1505.N.L).length) (c1509) 3 1 ((r1505.N.L).flatMap e_i64), .r (A1510) ((r1505.D).length) (c1511) 3 1 ((r1505.D).flatMap e_i64)] : List Ent)) hs1054 (SubE.cons2 (i := 0) rfl (SubE.cons2 (i := 1) rfl (SubE.nil))))) (Has.len' (Has.up (L := ([e12, y1052.2.2.1, .r (y1052.2.2.2.1) ((s1052.2.2.1).length) (y1052.2.2.2.2.1) 3 1 ((s1052.2.2.1).flatMap e_i64), .r (A1508) ((r1505.N.L).length) (c1509) 3 1 ((r1505.N.L).flatMap e_i64), .r (A1510) ((r1505.D).length) (c1511) 3 1 ((r1505.D).flatMap e_i64)] : List Ent)) hs1513 (SubE.cons2 (i := 2) rfl (SubE.nil)))) (Has.len' (Has.up (L := ([e12, y1052.2.2.1, .r (y1052.2.2.2.1) ((s1052.2.2.1).length) (y1052.2.2.2.2.1) 3 1 ((s1052.2.2.1).flatMap e_i64), .r (A1508) ((r1505.N.L).length) (c1509) 3 1 ((r1505.N.L).flatMap e_i64), .r (A1510) ((r1505.D).length) (c1511) 3 1 ((r1505.D).flatMap e_i64)] : List Ent)) hs1515 (SubE.cons2 (i := 3) rfl (SubE.nil)))) (Has.len' (Has.up (L := ([e12, y1052.2.2.1, .r (y1052.2.2.2.1) ((s1052.2.2.1).length) (y1052.2.2.2.2.1) 3 1 ((s1052.2.2.1).flatMap e_i64), .r (A1508) ((r1505.N.L).length) (c1509) 3 1 ((r1505.N.L).flatMap e_i64), .r (A1510) ((r1505.D).length) (c1511) 3 1 ((r1505.D).flatMap e_i64)] : List Ent)) hs1517 (SubE.cons2 (i := 4) rfl (SubE.nil)))) h1519 w1 (okAll (K := ([e12, y1052.2.2.1, .r (y1052.2.2.2.1) ((s1052.2.2.1).length) (y1052.2.2.2.2.1) 3 1 ((s1052.2.2.1).flatMap e_i64), .r (A1508) ((r1505.N.L).length) (c1509) 3 1 ((r1505.N.L).flatMap e_i64), .r (A1510) ((r1505.D).length) (c1511) 3 1 ((r1505.D).flatMap e_i64)] : List Ent)) (by exact (SubE.cons2 (i := 15) rfl (SubE.cons2 (i := 6) rfl (SubE.cons2 (i := 14) rfl (SubE.cons2 (i := 0) rfl (SubE.cons2 (i := 1) rfl (SubE.nil))))))) hw1)) rfl ?_) ?_
        rotate_left; exact P_stop
        rintro _ _ hlo ⟨A1521, c1522, A1523, c1524, rfl, rfl, -⟩
        refine T_app2 ?_
        refine P_h rfl rfl (Wh_store rfl rfl rfl (.there (.there (.there (.there (.there (.there (.there (.there (.there (.there (.there (.there (.there (.here)))))))))))))) (.put (.put (.put (.done)))) rfl (List.cons_ne_nil _ _) agg45.2 ?_) ?_
        rotate_left; exact P_stop
        refine P_done ?_
        refine T_next ?_
        refine T_draw [1, 1, 0, 1, 0, 1, 0, 2, 2, 2, 3] [[], [], [], [2], [], [4], [2, 3, 4, 5], [2, 3, 4, 5, 6], [1, 2, 3, 4, 5, 6, 7], [0, 1, 2, 3, 4, 5, 6, 7, 8], [0, 1, 2, 3, 4, 5, 6, 7, 8, 9]] (.q 0 (.q 1 (.q 2 (.q 3 (.q 4 (.q 5 (.q 6 (.e 7 (.e 8 (.e 9 (.e 10 (.done) (.stop)) (.stop)) (.stop)) (.stop))))))))) mixed (by kernel_rfl) (by kernel_rfl) ?_
        refine P_q rfl rfl (Ev_loadK rfl (i := 12) rfl rfl agg45) rfl ?_
        refine P_q rfl rfl (Ev_loadK rfl (i := 9) rfl rfl agg45) rfl ?_
        refine P_p rfl rfl (Ev_field rfl fld39_1 rfl) rfl ?_
        refine P_q rfl rfl (Ev_load1 rfl (i := 6) rfl rfl one3) rfl ?_
        refine P_p rfl rfl (Ev_field rfl fld39_0 rfl) rfl ?_
        refine P_q rfl rfl (Ev_load1 rfl (i := 7) rfl rfl one3) rfl ?_
        refine P_p rfl rfl (Ev_sub_w64 rfl rfl) rfl ?_
        obtain ⟨r1525, h1526, hx1527⟩ := bnd_some hx1520
        refine P_x rfl (Wx_callL rfl (fun w1 hw1 => lidarref01_Whole_ok (w64 (s19.2.2.2 - s19.1))  h1526 w1) rfl ?_) ?_
        rotate_left; exact P_stop
        rintro _ _ hlo ⟨A1528, c1529, A1530, c1531, e1532, rfl, rfl, hs1533, -⟩
        have lo1534 := hlo e1532 (by simp)
        refine T_app2 ?_
        refine T_rowP (k := 12) rfl (by decide) (fun _ => rfl) (fun hn1535 hs1536 => ?_)
        refine T_rowP (k := 0) rfl (by decide) (fun _ => rfl) (fun hn1537 hs1538 => ?_)
        obtain ⟨r1539, h1540, hx1541⟩ := bnd_some hx1527
        refine P_x rfl (Wx_callL rfl (fun w1 hw1 => lidarref01_Q_Mul_ok r27 r1525 (Has.len' (Has.up (L := ([e34, .r (A32) ((r27.D).length) (c33) 3 1 ((r27.D).flatMap e_i64), e1532, .r (A1530) ((r1525.D).length) (c1531) 3 1 ((r1525.D).flatMap e_i64)] : List Ent)) hs35 (SubE.cons2 (i := 0) rfl (SubE.nil)))) (Has.len' (Has.up (L := ([e34, .r (A32) ((r27.D).length) (c33) 3 1 ((r27.D).flatMap e_i64), e1532, .r (A1530) ((r1525.D).length) (c1531) 3 1 ((r1525.D).flatMap e_i64)] : List Ent)) hs1536 (SubE.cons2 (i := 1) rfl (SubE.nil)))) (Has.len' (Has.up (L := ([e34, .r (A32) ((r27.D).length) (c33) 3 1 ((r27.D).flatMap e_i64), e1532, .r (A1530) ((r1525.D).length) (c1531) 3 1 ((r1525.D).flatMap e_i64)] : List Ent)) hs1533 (SubE.cons2 (i := 2) rfl (SubE.nil)))) (Has.len' (Has.up (L := ([e34, .r (A32) ((r27.D).length) (c33) 3 1 ((r27.D).flatMap e_i64), e1532, .r (A1530) ((r1525.D).length) (c1531) 3 1 ((r1525.D).flatMap e_i64)] : List Ent)) hs1538 (SubE.cons2 (i := 3) rfl (SubE.nil)))) h1540 w1 (okAll (K := ([e34, .r (A32) ((r27.D).length) (c33) 3 1 ((r27.D).flatMap e_i64), e1532, .r (A1530) ((r1525.D).length) (c1531) 3 1 ((r1525.D).flatMap e_i64)] : List Ent)) (by exact (SubE.cons2 (i := 13) rfl (SubE.cons2 (i := 12) rfl (SubE.cons2 (i := 1) rfl (SubE.cons2 (i := 0) rfl (SubE.nil)))))) hw1)) rfl ?_) ?_
        rotate_left; exact P_stop
        rintro _ _ hlo ⟨A1542, c1543, A1544, c1545, rfl, rfl, -⟩
        refine T_app2 ?_
        refine T_rowP (k := 18) rfl (by decide) (fun _ => rfl) (fun hn1546 hs1547 => ?_)
        refine T_rowP (k := 0) rfl (by decide) (fun _ => rfl) (fun hn1548 hs1549 => ?_)
        refine T_rowP (k := 1) rfl (by decide) (fun _ => rfl) (fun hn1550 hs1551 => ?_)
        obtain ⟨r1552, h1553, hx1554⟩ := bnd_some hx1541
        refine P_x rfl (Wx_callL rfl (fun w1 hw1 => lidarref01_Q_Add_ok (⟨(⟨s1052.2.2.2.1, s1052.2.2.2.2.1⟩ : S_lidarref01_Int), s1052.2.2.2.2.2.1⟩ : S_lidarref01_Q) r1539 (Has.len' (Has.up (L := ([e22, y1052.2.2.1, .r (y1052.2.2.2.2.2.2.2.1) ((s1052.2.2.2.2.2.1).length) (y1052.2.2.2.2.2.2.2.2) 3 1 ((s1052.2.2.2.2.2.1).flatMap e_i64), .r (A1542) ((r1539.N.L).length) (c1543) 3 1 ((r1539.N.L).flatMap e_i64), .r (A1544) ((r1539.D).length) (c1545) 3 1 ((r1539.D).flatMap e_i64)] : List Ent)) hs1055 (SubE.cons2 (i := 0) rfl (SubE.cons2 (i := 1) rfl (SubE.nil))))) (Has.len' (Has.up (L := ([e22, y1052.2.2.1, .r (y1052.2.2.2.2.2.2.2.1) ((s1052.2.2.2.2.2.1).length) (y1052.2.2.2.2.2.2.2.2) 3 1 ((s1052.2.2.2.2.2.1).flatMap e_i64), .r (A1542) ((r1539.N.L).length) (c1543) 3 1 ((r1539.N.L).flatMap e_i64), .r (A1544) ((r1539.D).length) (c1545) 3 1 ((r1539.D).flatMap e_i64)] : List Ent)) hs1547 (SubE.cons2 (i := 2) rfl (SubE.nil)))) (Has.len' (Has.up (L := ([e22, y1052.2.2.1, .r (y1052.2.2.2.2.2.2.2.1) ((s1052.2.2.2.2.2.1).length) (y1052.2.2.2.2.2.2.2.2) 3 1 ((s1052.2.2.2.2.2.1).flatMap e_i64), .r (A1542) ((r1539.N.L).length) (c1543) 3 1 ((r1539.N.L).flatMap e_i64), .r (A1544) ((r1539.D).length) (c1545) 3 1 ((r1539.D).flatMap e_i64)] : List Ent)) hs1549 (SubE.cons2 (i := 3) rfl (SubE.nil)))) (Has.len' (Has.up (L := ([e22, y1052.2.2.1, .r (y1052.2.2.2.2.2.2.2.1) ((s1052.2.2.2.2.2.1).length) (y1052.2.2.2.2.2.2.2.2) 3 1 ((s1052.2.2.2.2.2.1).flatMap e_i64), .r (A1542) ((r1539.N.L).length) (c1543) 3 1 ((r1539.N.L).flatMap e_i64), .r (A1544) ((r1539.D).length) (c1545) 3 1 ((r1539.D).flatMap e_i64)] : List Ent)) hs1551 (SubE.cons2 (i := 4) rfl (SubE.nil)))) h1553 w1 (okAll (K := ([e22, y1052.2.2.1, .r (y1052.2.2.2.2.2.2.2.1) ((s1052.2.2.2.2.2.1).length) (y1052.2.2.2.2.2.2.2.2) 3 1 ((s1052.2.2.2.2.2.1).flatMap e_i64), .r (A1542) ((r1539.N.L).length) (c1543) 3 1 ((r1539.N.L).flatMap e_i64), .r (A1544) ((r1539.D).length) (c1545) 3 1 ((r1539.D).flatMap e_i64)] : List Ent)) (by exact (SubE.cons2 (i := 19) rfl (SubE.cons2 (i := 12) rfl (SubE.cons2 (i := 18) rfl (SubE.cons2 (i := 0) rfl (SubE.cons2 (i := 1) rfl (SubE.nil))))))) hw1)) rfl ?_) ?_
        rotate_left; exact P_stop
        rintro _ _ hlo ⟨A1555, c1556, A1557, c1558, rfl, rfl, -⟩
        refine T_app2 ?_
        refine P_h rfl rfl (Wh_store rfl rfl rfl (.there (.there (.there (.there (.there (.there (.there (.there (.there (.there (.there (.there (.there (.there (.there (.there (.there (.there (.here))))))))))))))))))) (.put (.put (.put (.done)))) rfl (List.cons_ne_nil _ _) agg45.2 ?_) ?_
        rotate_left; exact P_stop
        refine P_done ?_
        refine T_inN ?_
        refine T_next ?_
        refine T_reg ?_
        refine T_val (Ev_move rfl) rfl ?_
        refine T_val (Ev_add_w64 rfl rfl) rfl ?_
        refine T_val (Ev_assign rfl) rfl ?_
        refine T_nil ?_
        refine T_rowP (k := 6) rfl (by decide) (fun _ => rfl) (fun hn1559 hs1560 => ?_)
        refine T_rowP (k := 0) rfl (by decide) (fun _ => rfl) (fun hn1561 hs1562 => ?_)
        refine T_bundle (es := [.r (A1521) ((r1518.N.L).length) (c1522) 3 1 ((r1518.N.L).flatMap e_i64), .r (A1555) ((r1552.N.L).length) (c1556) 3 1 ((r1552.N.L).flatMap e_i64)]) (by exact .pick 6 rfl (.pick 0 rfl (.refl))) (loCons rfl (loCons rfl (loNil))) ?_
        exact T_roundP (r1518.N.Neg, r1518.N.L, r1518.D, r1552.N.Neg, r1552.N.L, r1552.D, w64 (s1052.2.2.2.2.2.2 + 1)) (A1521, c1522, bun [.r (A1521) ((r1518.N.L).length) (c1522) 3 1 ((r1518.N.L).flatMap e_i64), .r (A1555) ((r1552.N.L).length) (c1556) 3 1 ((r1552.N.L).flatMap e_i64)], A1523, c1524, A1555, c1556, A1557, c1558) hx1554 ((by exact ⟨rfl, Has.len' ((Has.up (L := ([e12, (bun [.r (A1521) ((r1518.N.L).length) (c1522) 3 1 ((r1518.N.L).flatMap e_i64), .r (A1555) ((r1552.N.L).length) (c1556) 3 1 ((r1552.N.L).flatMap e_i64)])] : List Ent)) hs1560 (SubE.consB (i := 1) (j := 0) rfl rfl (SubE.nil)))), Has.len' ((Has.up (L := ([e22, (bun [.r (A1521) ((r1518.N.L).length) (c1522) 3 1 ((r1518.N.L).flatMap e_i64), .r (A1555) ((r1552.N.L).length) (c1556) 3 1 ((r1552.N.L).flatMap e_i64)])] : List Ent)) hs1562 (SubE.consB (i := 1) (j := 1) rfl rfl (SubE.nil)))), trivial⟩)) (by exact .cons rfl (.cons rfl (.cons rfl (.cons rfl (.cons rfl (.cons rfl (.cons rfl (.cons rfl (.cons rfl (.nil)))))))))) (by exact .pick 0 rfl (.pick 13 rfl (.pick 13 rfl (.pick 13 rfl (.pick 13 rfl (.pick 13 rfl (.pick 0 rfl (.pick 13 rfl (.pick 4 rfl (.pick 13 rfl (.pick 13 rfl (.pick 13 rfl (.pick 13 rfl (.pick 13 rfl (.drop 0 rfl (.drop 0 rfl (.drop 0 rfl (.drop 0 rfl (.drop 0 rfl (.drop 0 rfl (.drop 0 rfl (.drop 0 rfl (.drop 0 rfl (.drop 0 rfl (.drop 0 rfl (.drop 0 rfl (.drop 0 rfl (.refl))))))))))))))))))))))))))))
      · skip
        obtain ⟨x1059, h1060, hx1105⟩ := bnd_some hx1057
        obtain ⟨x1070, h1071, hx1106⟩ := bnd_some hx1105
        obtain ⟨x1081, h1082, hx1107⟩ := bnd_some hx1106
        obtain ⟨x1092, h1093, hx1108⟩ := bnd_some hx1107
        refine T_draw [0, 1, 0, 0, 0, 1, 0, 0, 1, 0, 2, 0, 0, 0, 2, 0, 0, 2, 2, 2, 3, 3] [[], [0], [], [], [2, 3], [2, 3, 4], [0, 1, 2, 3, 4, 5], [0, 1, 2, 3, 4, 5, 6], [0, 1, 2, 3, 4, 5, 6, 7], [], [9], [], [], [11, 12], [11, 12, 13], [9, 10, 11, 12, 13, 14], [9, 10, 11, 12, 13, 14, 15], [9, 10, 11, 12, 13, 14, 15, 16], [], [], [0, 1, 2, 3, 4, 5, 6, 7, 8, 18, 19], [0, 1, 2, 3, 4, 5, 6, 7, 8, 9, 10, 11, 12, 13, 14, 15, 16, 17, 18, 19, 20]] (.q 0 (.q 1 (.q 2 (.q 3 (.q 4 (.q 5 (.q 6 (.q 7 (.q 8 (.q 9 (.q 11 (.q 12 (.q 13 (.e 10 (.e 14 (.q 15 (.q 16 (.e 17 (.e 18 (.e 19 (.e 20 (.e 21 (.done) (.stop)) (.stop)) (.stop)) (.e 19 (.e 18 (.e 20 (.e 21 (.done) (.stop)) (.stop)) (.stop)) (.stop))) (.e 18 (.e 17 (.e 19 (.e 20 (.e 21 (.done) (.stop)) (.stop)) (.stop)) (.e 19 (.e 17 (.e 20 (.e 21 (.done) (.stop)) (.stop)) (.e 20 (.e 17 (.e 21 (.done) (.stop)) (.stop)) (.stop))) (.stop))) (.e 19 (.e 17 (.e 18 (.e 20 (.e 21 (.done) (.stop)) (.stop)) (.stop)) (.e 18 (.e 17 (.e 20 (.e 21 (.done) (.stop)) (.stop)) (.e 20 (.e 17 (.e 21 (.done) (.stop)) (.stop)) (.stop))) (.stop))) (.stop)))))) (.e 18 (.e 14 (.q 15 (.q 16 (.e 17 (.e 19 (.e 20 (.e 21 (.done) (.stop)) (.stop)) (.stop)) (.e 19 (.e 17 (.e 20 (.e 21 (.done) (.stop)) (.stop)) (.e 20 (.e 17 (.e 21 (.done) (.stop)) (.stop)) (.stop))) (.stop))))) (.e 19 (.e 14 (.q 15 (.q 16 (.e 17 (.e 20 (.e 21 (.done) (.stop)) (.stop)) (.e 20 (.e 17 (.e 21 (.done) (.stop)) (.stop)) (.stop))))) (.e 20 (.e 14 (.q 15 (.q 16 (.e 17 (.e 21 (.done) (.stop)) (.stop)))) (.stop)) (.stop))) (.stop))) (.e 19 (.e 14 (.q 15 (.q 16 (.e 17 (.e 18 (.e 20 (.e 21 (.done) (.stop)) (.stop)) (.stop)) (.e 18 (.e 17 (.e 20 (.e 21 (.done) (.stop)) (.stop)) (.e 20 (.e 17 (.e 21 (.done) (.stop)) (.stop)) (.stop))) (.stop))))) (.e 18 (.e 14 (.q 15 (.q 16 (.e 17 (.e 20 (.e 21 (.done) (.stop)) (.stop)) (.e 20 (.e 17 (.e 21 (.done) (.stop)) (.stop)) (.stop))))) (.e 20 (.e 14 (.q 15 (.q 16 (.e 17 (.e 21 (.done) (.stop)) (.stop)))) (.stop)) (.stop))) (.stop))) (.stop)))) (.e 14 (.e 10 (.q 15 (.q 16 (.e 17 (.e 18 (.e 19 (.e 20 (.e 21 (.done) (.stop)) (.stop)) (.stop)) (.e 19 (.e 18 (.e 20 (.e 21 (.done) (.stop)) (.stop)) (.stop)) (.stop))) (.e 18 (.e 17 (.e 19 (.e 20 (.e 21 (.done) (.stop)) (.stop)) (.stop)) (.e 19 (.e 17 (.e 20 (.e 21 (.done) (.stop)) (.stop)) (.e 20 (.e 17 (.e 21 (.done) (.stop)) (.stop)) (.stop))) (.stop))) (.e 19 (.e 17 (.e 18 (.e 20 (.e 21 (.done) (.stop)) (.stop)) (.stop)) (.e 18 (.e 17 (.e 20 (.e 21 (.done) (.stop)) (.stop)) (.e 20 (.e 17 (.e 21 (.done) (.stop)) (.stop)) (.stop))) (.stop))) (.stop)))))) (.e 18 (.e 10 (.q 15 (.q 16 (.e 17 (.e 19 (.e 20 (.e 21 (.done) (.stop)) (.stop)) (.stop)) (.e 19 (.e 17 (.e 20 (.e 21 (.done) (.stop)) (.stop)) (.e 20 (.e 17 (.e 21 (.done) (.stop)) (.stop)) (.stop))) (.stop))))) (.e 19 (.e 10 (.q 15 (.q 16 (.e 17 (.e 20 (.e 21 (.done) (.stop)) (.stop)) (.e 20 (.e 17 (.e 21 (.done) (.stop)) (.stop)) (.stop))))) (.e 20 (.e 10 (.q 15 (.q 16 (.e 17 (.e 21 (.done) (.stop)) (.stop)))) (.stop)) (.stop))) (.stop))) (.e 19 (.e 10 (.q 15 (.q 16 (.e 17 (.e 18 (.e 20 (.e 21 (.done) (.stop)) (.stop)) (.stop)) (.e 18 (.e 17 (.e 20 (.e 21 (.done) (.stop)) (.stop)) (.e 20 (.e 17 (.e 21 (.done) (.stop)) (.stop)) (.stop))) (.stop))))) (.e 18 (.e 10 (.q 15 (.q 16 (.e 17 (.e 20 (.e 21 (.done) (.stop)) (.stop)) (.e 20 (.e 17 (.e 21 (.done) (.stop)) (.stop)) (.stop))))) (.e 20 (.e 10 (.q 15 (.q 16 (.e 17 (.e 21 (.done) (.stop)) (.stop)))) (.stop)) (.stop))) (.stop))) (.stop)))) (.e 18 (.e 10 (.e 14 (.q 15 (.q 16 (.e 17 (.e 19 (.e 20 (.e 21 (.done) (.stop)) (.stop)) (.stop)) (.e 19 (.e 17 (.e 20 (.e 21 (.done) (.stop)) (.stop)) (.e 20 (.e 17 (.e 21 (.done) (.stop)) (.stop)) (.stop))) (.stop))))) (.e 19 (.e 14 (.q 15 (.q 16 (.e 17 (.e 20 (.e 21 (.done) (.stop)) (.stop)) (.e 20 (.e 17 (.e 21 (.done) (.stop)) (.stop)) (.stop))))) (.e 20 (.e 14 (.q 15 (.q 16 (.e 17 (.e 21 (.done) (.stop)) (.stop)))) (.stop)) (.stop))) (.stop))) (.e 14 (.e 10 (.q 15 (.q 16 (.e 17 (.e 19 (.e 20 (.e 21 (.done) (.stop)) (.stop)) (.stop)) (.e 19 (.e 17 (.e 20 (.e 21 (.done) (.stop)) (.stop)) (.e 20 (.e 17 (.e 21 (.done) (.stop)) (.stop)) (.stop))) (.stop))))) (.e 19 (.e 10 (.q 15 (.q 16 (.e 17 (.e 20 (.e 21 (.done) (.stop)) (.stop)) (.e 20 (.e 17 (.e 21 (.done) (.stop)) (.stop)) (.stop))))) (.e 20 (.e 10 (.q 15 (.q 16 (.e 17 (.e 21 (.done) (.stop)) (.stop)))) (.stop)) (.stop))) (.stop))) (.e 19 (.e 10 (.e 14 (.q 15 (.q 16 (.e 17 (.e 20 (.e 21 (.done) (.stop)) (.stop)) (.e 20 (.e 17 (.e 21 (.done) (.stop)) (.stop)) (.stop))))) (.e 20 (.e 14 (.q 15 (.q 16 (.e 17 (.e 21 (.done) (.stop)) (.stop)))) (.stop)) (.stop))) (.e 14 (.e 10 (.q 15 (.q 16 (.e 17 (.e 20 (.e 21 (.done) (.stop)) (.stop)) (.e 20 (.e 17 (.e 21 (.done) (.stop)) (.stop)) (.stop))))) (.e 20 (.e 10 (.q 15 (.q 16 (.e 17 (.e 21 (.done) (.stop)) (.stop)))) (.stop)) (.stop))) (.e 20 (.e 10 (.e 14 (.q 15 (.q 16 (.e 17 (.e 21 (.done) (.stop)) (.stop)))) (.stop)) (.e 14 (.e 10 (.q 15 (.q 16 (.e 17 (.e 21 (.done) (.stop)) (.stop)))) (.stop)) (.stop))) (.stop)))) (.stop)))) (.e 19 (.e 10 (.e 14 (.q 15 (.q 16 (.e 17 (.e 18 (.e 20 (.e 21 (.done) (.stop)) (.stop)) (.stop)) (.e 18 (.e 17 (.e 20 (.e 21 (.done) (.stop)) (.stop)) (.e 20 (.e 17 (.e 21 (.done) (.stop)) (.stop)) (.stop))) (.stop))))) (.e 18 (.e 14 (.q 15 (.q 16 (.e 17 (.e 20 (.e 21 (.done) (.stop)) (.stop)) (.e 20 (.e 17 (.e 21 (.done) (.stop)) (.stop)) (.stop))))) (.e 20 (.e 14 (.q 15 (.q 16 (.e 17 (.e 21 (.done) (.stop)) (.stop)))) (.stop)) (.stop))) (.stop))) (.e 14 (.e 10 (.q 15 (.q 16 (.e 17 (.e 18 (.e 20 (.e 21 (.done) (.stop)) (.stop)) (.stop)) (.e 18 (.e 17 (.e 20 (.e 21 (.done) (.stop)) (.stop)) (.e 20 (.e 17 (.e 21 (.done) (.stop)) (.stop)) (.stop))) (.stop))))) (.e 18 (.e 10 (.q 15 (.q 16 (.e 17 (.e 20 (.e 21 (.done) (.stop)) (.stop)) (.e 20 (.e 17 (.e 21 (.done) (.stop)) (.stop)) (.stop))))) (.e 20 (.e 10 (.q 15 (.q 16 (.e 17 (.e 21 (.done) (.stop)) (.stop)))) (.stop)) (.stop))) (.stop))) (.e 18 (.e 10 (.e 14 (.q 15 (.q 16 (.e 17 (.e 20 (.e 21 (.done) (.stop)) (.stop)) (.e 20 (.e 17 (.e 21 (.done) (.stop)) (.stop)) (.stop))))) (.e 20 (.e 14 (.q 15 (.q 16 (.e 17 (.e 21 (.done) (.stop)) (.stop)))) (.stop)) (.stop))) (.e 14 (.e 10 (.q 15 (.q 16 (.e 17 (.e 20 (.e 21 (.done) (.stop)) (.stop)) (.e 20 (.e 17 (.e 21 (.done) (.stop)) (.stop)) (.stop))))) (.e 20 (.e 10 (.q 15 (.q 16 (.e 17 (.e 21 (.done) (.stop)) (.stop)))) (.stop)) (.stop))) (.e 20 (.e 10 (.e 14 (.q 15 (.q 16 (.e 17 (.e 21 (.done) (.stop)) (.stop)))) (.stop)) (.e 14 (.e 10 (.q 15 (.q 16 (.e 17 (.e 21 (.done) (.stop)) (.stop)))) (.stop)) (.stop))) (.stop)))) (.stop)))) (.stop)))))))))))))))))) mixed (by kernel_rfl) (by kernel_rfl) ?_
        refine P_p rfl rfl (Ev_field rfl fld26_1 rfl) rfl ?_
        refine P_q rfl rfl (Ev_load1 rfl (i := 13) rfl rfl one24) rfl ?_
        refine P_p rfl rfl (Ev_move rfl) rfl ?_
        refine P_p rfl rfl (Ev_move rfl) rfl ?_
        have hw1116 := Has.low (E := []) ha2' hK
        obtain ⟨b1109, o1110, j1111, hA1112, hj1113, hl1114, hp1115⟩ := Has.at_idx hw1116 h1060
        refine P_p rfl rfl (Ev_index rfl rfl hA1112 (j := j1111) hj1113 hl1114 slc27) rfl ?_
        refine P_q rfl rfl (Ev_loadP0 rfl hp1115 (SubE.cons2 (i := 14) rfl (SubE.nil)) rfl one3) rfl ?_
        have hw1124 := Has.low (E := []) ha0' hK
        obtain ⟨b1117, o1118, j1119, hA1120, hj1121, hl1122, hp1123⟩ := Has.at_idx hw1124 h1071
        refine P_p rfl rfl (Ev_index rfl rfl hA1120 (j := j1119) hj1121 hl1122 slc24) rfl ?_
        refine P_p rfl rfl (Ev_field rfl fld41_1 rfl) rfl ?_
        refine P_q rfl rfl (Ev_loadPK (d := 1) rfl hp1123 (SubE.cons2 (i := 14) rfl (SubE.nil)) rfl agg39) rfl ?_
        refine P_p rfl rfl (Ev_field rfl fld26_1 rfl) rfl ?_
        refine P_p rfl rfl (Ev_move rfl) rfl ?_
        refine P_p rfl rfl (Ev_move rfl) rfl ?_
        have hw1132 := Has.low (E := []) ha2' hK
        obtain ⟨b1125, o1126, j1127, hA1128, hj1129, hl1130, hp1131⟩ := Has.at_idx hw1132 h1082
        refine P_p rfl rfl (Ev_index rfl rfl hA1128 (j := j1127) hj1129 hl1130 slc27) rfl ?_
        refine P_x rfl (Wx_val (Ev_load1 rfl (i := 12) rfl rfl one24) rfl ?_) ?_
        · skip
          refine P_x rfl (Wx_val (Ev_loadP0 rfl hp1131 (SubE.cons2 (i := 14) rfl (SubE.nil)) rfl one3) rfl ?_) ?_
          · skip
            have hw1140 := Has.low (E := []) ha1' hK
            obtain ⟨b1133, o1134, j1135, hA1136, hj1137, hl1138, hp1139⟩ := Has.at_idx hw1140 h1093
            refine P_p rfl rfl (Ev_index rfl rfl hA1136 (j := j1135) hj1137 hl1138 slc24) rfl ?_
            refine P_p rfl rfl (Ev_field rfl fld41_1 rfl) rfl ?_
            refine P_x rfl (Wx_val (Ev_loadPK (d := 1) rfl hp1139 (SubE.cons2 (i := 14) rfl (SubE.nil)) rfl agg39) rfl ?_) ?_
            · skip
              refine P_x rfl (Wx_alloc zer39 rfl (fun g1141 => ?_)) ?_
              · skip
                refine P_x rfl (Wx_alloc zer39 rfl (fun g1142 => ?_)) ?_
                rotate_left; exact P_stop
                refine P_h rfl rfl (Wh_store rfl rfl rfl (.there (.here)) (.put (.put (.done))) rfl (List.cons_ne_nil _ _) agg39.2 ?_) ?_
                rotate_left; exact P_stop
                refine P_h rfl rfl (Wh_store rfl rfl rfl (.here) (.put (.put (.done))) rfl (List.cons_ne_nil _ _) agg39.2 ?_) ?_
                rotate_left; exact P_stop
                refine P_done ?_
                exact T_metP (x1070.Z.Lo, x1070.Z.Hi, x1092.Z.Lo, x1092.Z.Hi) (g1141, g1142) hx1108 trivial (by exact .cons rfl (.cons rfl (.cons rfl (.cons rfl (.cons rfl (.cons rfl (.cons rfl (.cons rfl (.cons rfl (.cons rfl (.cons rfl (.nil)))))))))))) (by exact .pick 0 rfl (.pick 0 rfl (.pick 0 rfl (.pick 0 rfl (.pick 0 rfl (.pick 0 rfl (.pick 0 rfl (.pick 0 rfl (.pick 0 rfl (.pick 0 rfl (.pick 0 rfl (.pick 0 rfl (.pick 0 rfl (.pick 0 rfl (.pick 0 rfl (.pick 0 rfl (.refl)))))))))))))))))
              · skip
                refine P_x rfl (Wx_alloc zer39 rfl (fun g1143 => ?_)) ?_
                rotate_left; exact P_stop
                refine P_x rfl (Wx_alloc zer39 rfl (fun g1144 => ?_)) ?_
                rotate_left; exact P_stop
                refine P_h rfl rfl (Wh_store rfl rfl rfl (.here) (.put (.put (.done))) rfl (List.cons_ne_nil _ _) agg39.2 ?_) ?_
                rotate_left; exact P_stop
                refine P_h rfl rfl (Wh_store rfl rfl rfl (.there (.here)) (.put (.put (.done))) rfl (List.cons_ne_nil _ _) agg39.2 ?_) ?_
                rotate_left; exact P_stop
                refine P_done ?_
                exact T_metP (x1070.Z.Lo, x1070.Z.Hi, x1092.Z.Lo, x1092.Z.Hi) (g1144, g1143) hx1108 trivial (by exact .cons rfl (.cons rfl (.cons rfl (.cons rfl (.cons rfl (.cons rfl (.cons rfl (.cons rfl (.cons rfl (.cons rfl (.cons rfl (.nil)))))))))))) (by exact .pick 1 rfl (.pick 0 rfl (.pick 0 rfl (.pick 0 rfl (.pick 0 rfl (.pick 0 rfl (.pick 0 rfl (.pick 0 rfl (.pick 0 rfl (.pick 0 rfl (.pick 0 rfl (.pick 0 rfl (.pick 0 rfl (.pick 0 rfl (.pick 0 rfl (.pick 0 rfl (.refl)))))))))))))))))
            · skip
              refine P_x rfl (Wx_alloc zer39 rfl (fun g1145 => ?_)) ?_
              · skip
                refine P_x rfl (Wx_val (Ev_loadPK (d := 1) rfl hp1139 (SubE.cons2 (i := 15) rfl (SubE.nil)) rfl agg39) rfl ?_) ?_
                · skip
                  refine P_x rfl (Wx_alloc zer39 rfl (fun g1146 => ?_)) ?_
                  rotate_left; exact P_stop
                  refine P_h rfl rfl (Wh_store rfl rfl rfl (.there (.here)) (.put (.put (.done))) rfl (List.cons_ne_nil _ _) agg39.2 ?_) ?_
                  rotate_left; exact P_stop
                  refine P_h rfl rfl (Wh_store rfl rfl rfl (.here) (.put (.put (.done))) rfl (List.cons_ne_nil _ _) agg39.2 ?_) ?_
                  rotate_left; exact P_stop
                  refine P_done ?_
                  exact T_metP (x1070.Z.Lo, x1070.Z.Hi, x1092.Z.Lo, x1092.Z.Hi) (g1145, g1146) hx1108 trivial (by exact .cons rfl (.cons rfl (.cons rfl (.cons rfl (.cons rfl (.cons rfl (.cons rfl (.cons rfl (.cons rfl (.cons rfl (.cons rfl (.nil)))))))))))) (by exact .pick 0 rfl (.pick 0 rfl (.pick 0 rfl (.pick 0 rfl (.pick 0 rfl (.pick 0 rfl (.pick 0 rfl (.pick 0 rfl (.pick 0 rfl (.pick 0 rfl (.pick 0 rfl (.pick 0 rfl (.pick 0 rfl (.pick 0 rfl (.pick 0 rfl (.pick 0 rfl (.refl)))))))))))))))))
                · skip
                  refine P_x rfl (Wx_alloc zer39 rfl (fun g1147 => ?_)) ?_
                  rotate_left; exact P_stop
                  refine P_x rfl (Wx_val (Ev_loadPK (d := 1) rfl hp1139 (SubE.cons2 (i := 16) rfl (SubE.nil)) rfl agg39) rfl ?_) ?_
                  · skip
                    refine P_h rfl rfl (Wh_store rfl rfl rfl (.there (.here)) (.put (.put (.done))) rfl (List.cons_ne_nil _ _) agg39.2 ?_) ?_
                    rotate_left; exact P_stop
                    refine P_h rfl rfl (Wh_store rfl rfl rfl (.here) (.put (.put (.done))) rfl (List.cons_ne_nil _ _) agg39.2 ?_) ?_
                    rotate_left; exact P_stop
                    refine P_done ?_
                    exact T_metP (x1070.Z.Lo, x1070.Z.Hi, x1092.Z.Lo, x1092.Z.Hi) (g1145, g1147) hx1108 trivial (by exact .cons rfl (.cons rfl (.cons rfl (.cons rfl (.cons rfl (.cons rfl (.cons rfl (.cons rfl (.cons rfl (.cons rfl (.cons rfl (.nil)))))))))))) (by exact .pick 0 rfl (.pick 0 rfl (.pick 0 rfl (.pick 0 rfl (.pick 0 rfl (.pick 0 rfl (.pick 0 rfl (.pick 0 rfl (.pick 0 rfl (.pick 0 rfl (.pick 0 rfl (.pick 0 rfl (.pick 0 rfl (.pick 0 rfl (.pick 0 rfl (.pick 0 rfl (.refl)))))))))))))))))
                  · skip
                    refine P_h rfl rfl (Wh_store rfl rfl rfl (.there (.here)) (.put (.put (.done))) rfl (List.cons_ne_nil _ _) agg39.2 ?_) ?_
                    rotate_left; exact P_stop
                    refine P_x rfl (Wx_val (Ev_loadPK (d := 1) rfl hp1139 (SubE.cons2 (i := 16) rfl (SubE.nil)) rfl agg39) rfl ?_) ?_
                    rotate_left; exact P_stop
                    refine P_h rfl rfl (Wh_store rfl rfl rfl (.here) (.put (.put (.done))) rfl (List.cons_ne_nil _ _) agg39.2 ?_) ?_
                    rotate_left; exact P_stop
                    refine P_done ?_
                    exact T_metP (x1070.Z.Lo, x1070.Z.Hi, x1092.Z.Lo, x1092.Z.Hi) (g1145, g1147) hx1108 trivial (by exact .cons rfl (.cons rfl (.cons rfl (.cons rfl (.cons rfl (.cons rfl (.cons rfl (.cons rfl (.cons rfl (.cons rfl (.cons rfl (.nil)))))))))))) (by exact .pick 0 rfl (.pick 0 rfl (.pick 0 rfl (.pick 0 rfl (.pick 0 rfl (.pick 0 rfl (.pick 0 rfl (.pick 0 rfl (.pick 0 rfl (.pick 0 rfl (.pick 0 rfl (.pick 0 rfl (.pick 0 rfl (.pick 0 rfl (.pick 0 rfl (.pick 0 rfl (.refl)))))))))))))))))
              · skip
                refine P_x rfl (Wx_alloc zer39 rfl (fun g1148 => ?_)) ?_
                rotate_left; exact P_stop
                refine P_x rfl (Wx_val (Ev_loadPK (d := 1) rfl hp1139 (SubE.cons2 (i := 15) rfl (SubE.nil)) rfl agg39) rfl ?_) ?_
                · skip
                  refine P_x rfl (Wx_alloc zer39 rfl (fun g1149 => ?_)) ?_
                  rotate_left; exact P_stop
                  refine P_h rfl rfl (Wh_store rfl rfl rfl (.here) (.put (.put (.done))) rfl (List.cons_ne_nil _ _) agg39.2 ?_) ?_
                  rotate_left; exact P_stop
                  refine P_h rfl rfl (Wh_store rfl rfl rfl (.there (.here)) (.put (.put (.done))) rfl (List.cons_ne_nil _ _) agg39.2 ?_) ?_
                  rotate_left; exact P_stop
                  refine P_done ?_
                  exact T_metP (x1070.Z.Lo, x1070.Z.Hi, x1092.Z.Lo, x1092.Z.Hi) (g1149, g1148) hx1108 trivial (by exact .cons rfl (.cons rfl (.cons rfl (.cons rfl (.cons rfl (.cons rfl (.cons rfl (.cons rfl (.cons rfl (.cons rfl (.cons rfl (.nil)))))))))))) (by exact .pick 1 rfl (.pick 0 rfl (.pick 0 rfl (.pick 0 rfl (.pick 0 rfl (.pick 0 rfl (.pick 0 rfl (.pick 0 rfl (.pick 0 rfl (.pick 0 rfl (.pick 0 rfl (.pick 0 rfl (.pick 0 rfl (.pick 0 rfl (.pick 0 rfl (.pick 0 rfl (.refl)))))))))))))))))
                · skip
                  refine P_x rfl (Wx_alloc zer39 rfl (fun g1150 => ?_)) ?_
                  rotate_left; exact P_stop
                  refine P_x rfl (Wx_val (Ev_loadPK (d := 1) rfl hp1139 (SubE.cons2 (i := 16) rfl (SubE.nil)) rfl agg39) rfl ?_) ?_
                  · skip
                    refine P_h rfl rfl (Wh_store rfl rfl rfl (.here) (.put (.put (.done))) rfl (List.cons_ne_nil _ _) agg39.2 ?_) ?_
                    rotate_left; exact P_stop
                    refine P_h rfl rfl (Wh_store rfl rfl rfl (.there (.here)) (.put (.put (.done))) rfl (List.cons_ne_nil _ _) agg39.2 ?_) ?_
                    rotate_left; exact P_stop
                    refine P_done ?_
                    exact T_metP (x1070.Z.Lo, x1070.Z.Hi, x1092.Z.Lo, x1092.Z.Hi) (g1150, g1148) hx1108 trivial (by exact .cons rfl (.cons rfl (.cons rfl (.cons rfl (.cons rfl (.cons rfl (.cons rfl (.cons rfl (.cons rfl (.cons rfl (.cons rfl (.nil)))))))))))) (by exact .pick 1 rfl (.pick 0 rfl (.pick 0 rfl (.pick 0 rfl (.pick 0 rfl (.pick 0 rfl (.pick 0 rfl (.pick 0 rfl (.pick 0 rfl (.pick 0 rfl (.pick 0 rfl (.pick 0 rfl (.pick 0 rfl (.pick 0 rfl (.pick 0 rfl (.pick 0 rfl (.refl)))))))))))))))))
                  · skip
                    refine P_h rfl rfl (Wh_store rfl rfl rfl (.here) (.put (.put (.done))) rfl (List.cons_ne_nil _ _) agg39.2 ?_) ?_
                    rotate_left; exact P_stop
                    refine P_x rfl (Wx_val (Ev_loadPK (d := 1) rfl hp1139 (SubE.cons2 (i := 16) rfl (SubE.nil)) rfl agg39) rfl ?_) ?_
                    rotate_left; exact P_stop
                    refine P_h rfl rfl (Wh_store rfl rfl rfl (.there (.here)) (.put (.put (.done))) rfl (List.cons_ne_nil _ _) agg39.2 ?_) ?_
                    rotate_left; exact P_stop
                    refine P_done ?_
                    exact T_metP (x1070.Z.Lo, x1070.Z.Hi, x1092.Z.Lo, x1092.Z.Hi) (g1150, g1148) hx1108 trivial (by exact .cons rfl (.cons rfl (.cons rfl (.cons rfl (.cons rfl (.cons rfl (.cons rfl (.cons rfl (.cons rfl (.cons rfl (.cons rfl (.nil)))))))))))) (by exact .pick 1 rfl (.pick 0 rfl (.pick 0 rfl (.pick 0 rfl (.pick 0 rfl (.pick 0 rfl (.pick 0 rfl (.pick 0 rfl (.pick 0 rfl (.pick 0 rfl (.pick 0 rfl (.pick 0 rfl (.pick 0 rfl (.pick 0 rfl (.pick 0 rfl (.pick 0 rfl (.refl)))))))))))))))))
          · skip
            refine P_x rfl (Wx_alloc zer39 rfl (fun g1151 => ?_)) ?_
            · skip
              refine P_x rfl (Wx_val (Ev_loadP0 rfl hp1131 (SubE.cons2 (i := 15) rfl (SubE.nil)) rfl one3) rfl ?_) ?_
              · skip
                have hw1159 := Has.low (E := []) ha1' hK
                obtain ⟨b1152, o1153, j1154, hA1155, hj1156, hl1157, hp1158⟩ := Has.at_idx hw1159 h1093
                refine P_p rfl rfl (Ev_index rfl rfl hA1155 (j := j1154) hj1156 hl1157 slc24) rfl ?_
                refine P_p rfl rfl (Ev_field rfl fld41_1 rfl) rfl ?_
                refine P_x rfl (Wx_val (Ev_loadPK (d := 1) rfl hp1158 (SubE.cons2 (i := 15) rfl (SubE.nil)) rfl agg39) rfl ?_) ?_
                · skip
                  refine P_x rfl (Wx_alloc zer39 rfl (fun g1160 => ?_)) ?_
                  rotate_left; exact P_stop
                  refine P_h rfl rfl (Wh_store rfl rfl rfl (.there (.here)) (.put (.put (.done))) rfl (List.cons_ne_nil _ _) agg39.2 ?_) ?_
                  rotate_left; exact P_stop
                  refine P_h rfl rfl (Wh_store rfl rfl rfl (.here) (.put (.put (.done))) rfl (List.cons_ne_nil _ _) agg39.2 ?_) ?_
                  rotate_left; exact P_stop
                  refine P_done ?_
                  exact T_metP (x1070.Z.Lo, x1070.Z.Hi, x1092.Z.Lo, x1092.Z.Hi) (g1151, g1160) hx1108 trivial (by exact .cons rfl (.cons rfl (.cons rfl (.cons rfl (.cons rfl (.cons rfl (.cons rfl (.cons rfl (.cons rfl (.cons rfl (.cons rfl (.nil)))))))))))) (by exact .pick 0 rfl (.pick 0 rfl (.pick 0 rfl (.pick 0 rfl (.pick 0 rfl (.pick 0 rfl (.pick 0 rfl (.pick 0 rfl (.pick 0 rfl (.pick 0 rfl (.pick 0 rfl (.pick 0 rfl (.pick 0 rfl (.pick 0 rfl (.pick 0 rfl (.pick 0 rfl (.refl)))))))))))))))))
                · skip
                  refine P_x rfl (Wx_alloc zer39 rfl (fun g1161 => ?_)) ?_
                  rotate_left; exact P_stop
                  refine P_x rfl (Wx_val (Ev_loadPK (d := 1) rfl hp1158 (SubE.cons2 (i := 16) rfl (SubE.nil)) rfl agg39) rfl ?_) ?_
                  · skip
                    refine P_h rfl rfl (Wh_store rfl rfl rfl (.there (.here)) (.put (.put (.done))) rfl (List.cons_ne_nil _ _) agg39.2 ?_) ?_
                    rotate_left; exact P_stop
                    refine P_h rfl rfl (Wh_store rfl rfl rfl (.here) (.put (.put (.done))) rfl (List.cons_ne_nil _ _) agg39.2 ?_) ?_
                    rotate_left; exact P_stop
                    refine P_done ?_
                    exact T_metP (x1070.Z.Lo, x1070.Z.Hi, x1092.Z.Lo, x1092.Z.Hi) (g1151, g1161) hx1108 trivial (by exact .cons rfl (.cons rfl (.cons rfl (.cons rfl (.cons rfl (.cons rfl (.cons rfl (.cons rfl (.cons rfl (.cons rfl (.cons rfl (.nil)))))))))))) (by exact .pick 0 rfl (.pick 0 rfl (.pick 0 rfl (.pick 0 rfl (.pick 0 rfl (.pick 0 rfl (.pick 0 rfl (.pick 0 rfl (.pick 0 rfl (.pick 0 rfl (.pick 0 rfl (.pick 0 rfl (.pick 0 rfl (.pick 0 rfl (.pick 0 rfl (.pick 0 rfl (.refl)))))))))))))))))
                  · skip
                    refine P_h rfl rfl (Wh_store rfl rfl rfl (.there (.here)) (.put (.put (.done))) rfl (List.cons_ne_nil _ _) agg39.2 ?_) ?_
                    rotate_left; exact P_stop
                    refine P_x rfl (Wx_val (Ev_loadPK (d := 1) rfl hp1158 (SubE.cons2 (i := 16) rfl (SubE.nil)) rfl agg39) rfl ?_) ?_
                    rotate_left; exact P_stop
                    refine P_h rfl rfl (Wh_store rfl rfl rfl (.here) (.put (.put (.done))) rfl (List.cons_ne_nil _ _) agg39.2 ?_) ?_
                    rotate_left; exact P_stop
                    refine P_done ?_
                    exact T_metP (x1070.Z.Lo, x1070.Z.Hi, x1092.Z.Lo, x1092.Z.Hi) (g1151, g1161) hx1108 trivial (by exact .cons rfl (.cons rfl (.cons rfl (.cons rfl (.cons rfl (.cons rfl (.cons rfl (.cons rfl (.cons rfl (.cons rfl (.cons rfl (.nil)))))))))))) (by exact .pick 0 rfl (.pick 0 rfl (.pick 0 rfl (.pick 0 rfl (.pick 0 rfl (.pick 0 rfl (.pick 0 rfl (.pick 0 rfl (.pick 0 rfl (.pick 0 rfl (.pick 0 rfl (.pick 0 rfl (.pick 0 rfl (.pick 0 rfl (.pick 0 rfl (.pick 0 rfl (.refl)))))))))))))))))
              · skip
                refine P_x rfl (Wx_alloc zer39 rfl (fun g1162 => ?_)) ?_
                rotate_left; exact P_stop
                refine P_x rfl (Wx_val (Ev_loadP0 rfl hp1131 (SubE.cons2 (i := 16) rfl (SubE.nil)) rfl one3) rfl ?_) ?_
                · skip
                  have hw1170 := Has.low (E := []) ha1' hK
                  obtain ⟨b1163, o1164, j1165, hA1166, hj1167, hl1168, hp1169⟩ := Has.at_idx hw1170 h1093
                  refine P_p rfl rfl (Ev_index rfl rfl hA1166 (j := j1165) hj1167 hl1168 slc24) rfl ?_
                  refine P_p rfl rfl (Ev_field rfl fld41_1 rfl) rfl ?_
                  refine P_x rfl (Wx_val (Ev_loadPK (d := 1) rfl hp1169 (SubE.cons2 (i := 16) rfl (SubE.nil)) rfl agg39) rfl ?_) ?_
                  · skip
                    refine P_h rfl rfl (Wh_store rfl rfl rfl (.there (.here)) (.put (.put (.done))) rfl (List.cons_ne_nil _ _) agg39.2 ?_) ?_
                    rotate_left; exact P_stop
                    refine P_h rfl rfl (Wh_store rfl rfl rfl (.here) (.put (.put (.done))) rfl (List.cons_ne_nil _ _) agg39.2 ?_) ?_
                    rotate_left; exact P_stop
                    refine P_done ?_
                    exact T_metP (x1070.Z.Lo, x1070.Z.Hi, x1092.Z.Lo, x1092.Z.Hi) (g1151, g1162) hx1108 trivial (by exact .cons rfl (.cons rfl (.cons rfl (.cons rfl (.cons rfl (.cons rfl (.cons rfl (.cons rfl (.cons rfl (.cons rfl (.cons rfl (.nil)))))))))))) (by exact .pick 0 rfl (.pick 0 rfl (.pick 0 rfl (.pick 0 rfl (.pick 0 rfl (.pick 0 rfl (.pick 0 rfl (.pick 0 rfl (.pick 0 rfl (.pick 0 rfl (.pick 0 rfl (.pick 0 rfl (.pick 0 rfl (.pick 0 rfl (.pick 0 rfl (.pick 0 rfl (.refl)))))))))))))))))
                  · skip
                    refine P_h rfl rfl (Wh_store rfl rfl rfl (.there (.here)) (.put (.put (.done))) rfl (List.cons_ne_nil _ _) agg39.2 ?_) ?_
                    rotate_left; exact P_stop
                    refine P_x rfl (Wx_val (Ev_loadPK (d := 1) rfl hp1169 (SubE.cons2 (i := 16) rfl (SubE.nil)) rfl agg39) rfl ?_) ?_
                    rotate_left; exact P_stop
                    refine P_h rfl rfl (Wh_store rfl rfl rfl (.here) (.put (.put (.done))) rfl (List.cons_ne_nil _ _) agg39.2 ?_) ?_
                    rotate_left; exact P_stop
                    refine P_done ?_
                    exact T_metP (x1070.Z.Lo, x1070.Z.Hi, x1092.Z.Lo, x1092.Z.Hi) (g1151, g1162) hx1108 trivial (by exact .cons rfl (.cons rfl (.cons rfl (.cons rfl (.cons rfl (.cons rfl (.cons rfl (.cons rfl (.cons rfl (.cons rfl (.cons rfl (.nil)))))))))))) (by exact .pick 0 rfl (.pick 0 rfl (.pick 0 rfl (.pick 0 rfl (.pick 0 rfl (.pick 0 rfl (.pick 0 rfl (.pick 0 rfl (.pick 0 rfl (.pick 0 rfl (.pick 0 rfl (.pick 0 rfl (.pick 0 rfl (.pick 0 rfl (.pick 0 rfl (.pick 0 rfl (.refl)))))))))))))))))
                · skip
                  refine P_h rfl rfl (Wh_store rfl rfl rfl (.there (.here)) (.put (.put (.done))) rfl (List.cons_ne_nil _ _) agg39.2 ?_) ?_
                  rotate_left; exact P_stop
                  refine P_x rfl (Wx_val (Ev_loadP0 rfl hp1131 (SubE.cons2 (i := 16) rfl (SubE.nil)) rfl one3) rfl ?_) ?_
                  rotate_left; exact P_stop
                  have hw1178 := Has.low (E := []) ha1' hK
                  obtain ⟨b1171, o1172, j1173, hA1174, hj1175, hl1176, hp1177⟩ := Has.at_idx hw1178 h1093
                  refine P_p rfl rfl (Ev_index rfl rfl hA1174 (j := j1173) hj1175 hl1176 slc24) rfl ?_
                  refine P_p rfl rfl (Ev_field rfl fld41_1 rfl) rfl ?_
                  refine P_x rfl (Wx_val (Ev_loadPK (d := 1) rfl hp1177 (SubE.cons2 (i := 16) rfl (SubE.nil)) rfl agg39) rfl ?_) ?_
                  rotate_left; exact P_stop
                  refine P_h rfl rfl (Wh_store rfl rfl rfl (.here) (.put (.put (.done))) rfl (List.cons_ne_nil _ _) agg39.2 ?_) ?_
                  rotate_left; exact P_stop
                  refine P_done ?_
                  exact T_metP (x1070.Z.Lo, x1070.Z.Hi, x1092.Z.Lo, x1092.Z.Hi) (g1151, g1162) hx1108 trivial (by exact .cons rfl (.cons rfl (.cons rfl (.cons rfl (.cons rfl (.cons rfl (.cons rfl (.cons rfl (.cons rfl (.cons rfl (.cons rfl (.nil)))))))))))) (by exact .pick 0 rfl (.pick 0 rfl (.pick 0 rfl (.pick 0 rfl (.pick 0 rfl (.pick 0 rfl (.pick 0 rfl (.pick 0 rfl (.pick 0 rfl (.pick 0 rfl (.pick 0 rfl (.pick 0 rfl (.pick 0 rfl (.pick 0 rfl (.pick 0 rfl (.pick 0 rfl (.refl)))))))))))))))))
            · skip
              refine P_x rfl (Wx_alloc zer39 rfl (fun g1179 => ?_)) ?_
              rotate_left; exact P_stop
              refine P_x rfl (Wx_val (Ev_loadP0 rfl hp1131 (SubE.cons2 (i := 15) rfl (SubE.nil)) rfl one3) rfl ?_) ?_
              · skip
                have hw1187 := Has.low (E := []) ha1' hK
                obtain ⟨b1180, o1181, j1182, hA1183, hj1184, hl1185, hp1186⟩ := Has.at_idx hw1187 h1093
                refine P_p rfl rfl (Ev_index rfl rfl hA1183 (j := j1182) hj1184 hl1185 slc24) rfl ?_
                refine P_p rfl rfl (Ev_field rfl fld41_1 rfl) rfl ?_
                refine P_x rfl (Wx_val (Ev_loadPK (d := 1) rfl hp1186 (SubE.cons2 (i := 15) rfl (SubE.nil)) rfl agg39) rfl ?_) ?_
                · skip
                  refine P_x rfl (Wx_alloc zer39 rfl (fun g1188 => ?_)) ?_
                  rotate_left; exact P_stop
                  refine P_h rfl rfl (Wh_store rfl rfl rfl (.here) (.put (.put (.done))) rfl (List.cons_ne_nil _ _) agg39.2 ?_) ?_
                  rotate_left; exact P_stop
                  refine P_h rfl rfl (Wh_store rfl rfl rfl (.there (.here)) (.put (.put (.done))) rfl (List.cons_ne_nil _ _) agg39.2 ?_) ?_
                  rotate_left; exact P_stop
                  refine P_done ?_
                  exact T_metP (x1070.Z.Lo, x1070.Z.Hi, x1092.Z.Lo, x1092.Z.Hi) (g1188, g1179) hx1108 trivial (by exact .cons rfl (.cons rfl (.cons rfl (.cons rfl (.cons rfl (.cons rfl (.cons rfl (.cons rfl (.cons rfl (.cons rfl (.cons rfl (.nil)))))))))))) (by exact .pick 1 rfl (.pick 0 rfl (.pick 0 rfl (.pick 0 rfl (.pick 0 rfl (.pick 0 rfl (.pick 0 rfl (.pick 0 rfl (.pick 0 rfl (.pick 0 rfl (.pick 0 rfl (.pick 0 rfl (.pick 0 rfl (.pick 0 rfl (.pick 0 rfl (.pick 0 rfl (.refl)))))))))))))))))
                · skip
                  refine P_x rfl (Wx_alloc zer39 rfl (fun g1189 => ?_)) ?_
                  rotate_left; exact P_stop
                  refine P_x rfl (Wx_val (Ev_loadPK (d := 1) rfl hp1186 (SubE.cons2 (i := 16) rfl (SubE.nil)) rfl agg39) rfl ?_) ?_
                  · skip
                    refine P_h rfl rfl (Wh_store rfl rfl rfl (.here) (.put (.put (.done))) rfl (List.cons_ne_nil _ _) agg39.2 ?_) ?_
                    rotate_left; exact P_stop
                    refine P_h rfl rfl (Wh_store rfl rfl rfl (.there (.here)) (.put (.put (.done))) rfl (List.cons_ne_nil _ _) agg39.2 ?_) ?_
                    rotate_left; exact P_stop
                    refine P_done ?_
                    exact T_metP (x1070.Z.Lo, x1070.Z.Hi, x1092.Z.Lo, x1092.Z.Hi) (g1189, g1179) hx1108 trivial (by exact .cons rfl (.cons rfl (.cons rfl (.cons rfl (.cons rfl (.cons rfl (.cons rfl (.cons rfl (.cons rfl (.cons rfl (.cons rfl (.nil)))))))))))) (by exact .pick 1 rfl (.pick 0 rfl (.pick 0 rfl (.pick 0 rfl (.pick 0 rfl (.pick 0 rfl (.pick 0 rfl (.pick 0 rfl (.pick 0 rfl (.pick 0 rfl (.pick 0 rfl (.pick 0 rfl (.pick 0 rfl (.pick 0 rfl (.pick 0 rfl (.pick 0 rfl (.refl)))))))))))))))))
                  · skip
                    refine P_h rfl rfl (Wh_store rfl rfl rfl (.here) (.put (.put (.done))) rfl (List.cons_ne_nil _ _) agg39.2 ?_) ?_
                    rotate_left; exact P_stop
                    refine P_x rfl (Wx_val (Ev_loadPK (d := 1) rfl hp1186 (SubE.cons2 (i := 16) rfl (SubE.nil)) rfl agg39) rfl ?_) ?_
                    rotate_left; exact P_stop
                    refine P_h rfl rfl (Wh_store rfl rfl rfl (.there (.here)) (.put (.put (.done))) rfl (List.cons_ne_nil _ _) agg39.2 ?_) ?_
                    rotate_left; exact P_stop
                    refine P_done ?_
                    exact T_metP (x1070.Z.Lo, x1070.Z.Hi, x1092.Z.Lo, x1092.Z.Hi) (g1189, g1179) hx1108 trivial (by exact .cons rfl (.cons rfl (.cons rfl (.cons rfl (.cons rfl (.cons rfl (.cons rfl (.cons rfl (.cons rfl (.cons rfl (.cons rfl (.nil)))))))))))) (by exact .pick 1 rfl (.pick 0 rfl (.pick 0 rfl (.pick 0 rfl (.pick 0 rfl (.pick 0 rfl (.pick 0 rfl (.pick 0 rfl (.pick 0 rfl (.pick 0 rfl (.pick 0 rfl (.pick 0 rfl (.pick 0 rfl (.pick 0 rfl (.pick 0 rfl (.pick 0 rfl (.refl)))))))))))))))))
              · skip
                refine P_x rfl (Wx_alloc zer39 rfl (fun g1190 => ?_)) ?_
                rotate_left; exact P_stop
                refine P_x rfl (Wx_val (Ev_loadP0 rfl hp1131 (SubE.cons2 (i := 16) rfl (SubE.nil)) rfl one3) rfl ?_) ?_
                · skip
                  have hw1198 := Has.low (E := []) ha1' hK
                  obtain ⟨b1191, o1192, j1193, hA1194, hj1195, hl1196, hp1197⟩ := Has.at_idx hw1198 h1093
                  refine P_p rfl rfl (Ev_index rfl rfl hA1194 (j := j1193) hj1195 hl1196 slc24) rfl ?_
                  refine P_p rfl rfl (Ev_field rfl fld41_1 rfl) rfl ?_
                  refine P_x rfl (Wx_val (Ev_loadPK (d := 1) rfl hp1197 (SubE.cons2 (i := 16) rfl (SubE.nil)) rfl agg39) rfl ?_) ?_
                  · skip
                    refine P_h rfl rfl (Wh_store rfl rfl rfl (.here) (.put (.put (.done))) rfl (List.cons_ne_nil _ _) agg39.2 ?_) ?_
                    rotate_left; exact P_stop
                    refine P_h rfl rfl (Wh_store rfl rfl rfl (.there (.here)) (.put (.put (.done))) rfl (List.cons_ne_nil _ _) agg39.2 ?_) ?_
                    rotate_left; exact P_stop
                    refine P_done ?_
                    exact T_metP (x1070.Z.Lo, x1070.Z.Hi, x1092.Z.Lo, x1092.Z.Hi) (g1190, g1179) hx1108 trivial (by exact .cons rfl (.cons rfl (.cons rfl (.cons rfl (.cons rfl (.cons rfl (.cons rfl (.cons rfl (.cons rfl (.cons rfl (.cons rfl (.nil)))))))))))) (by exact .pick 1 rfl (.pick 0 rfl (.pick 0 rfl (.pick 0 rfl (.pick 0 rfl (.pick 0 rfl (.pick 0 rfl (.pick 0 rfl (.pick 0 rfl (.pick 0 rfl (.pick 0 rfl (.pick 0 rfl (.pick 0 rfl (.pick 0 rfl (.pick 0 rfl (.pick 0 rfl (.refl)))))))))))))))))
                  · skip
                    refine P_h rfl rfl (Wh_store rfl rfl rfl (.here) (.put (.put (.done))) rfl (List.cons_ne_nil _ _) agg39.2 ?_) ?_
                    rotate_left; exact P_stop
                    refine P_x rfl (Wx_val (Ev_loadPK (d := 1) rfl hp1197 (SubE.cons2 (i := 16) rfl (SubE.nil)) rfl agg39) rfl ?_) ?_
                    rotate_left; exact P_stop
                    refine P_h rfl rfl (Wh_store rfl rfl rfl (.there (.here)) (.put (.put (.done))) rfl (List.cons_ne_nil _ _) agg39.2 ?_) ?_
                    rotate_left; exact P_stop
                    refine P_done ?_
                    exact T_metP (x1070.Z.Lo, x1070.Z.Hi, x1092.Z.Lo, x1092.Z.Hi) (g1190, g1179) hx1108 trivial (by exact .cons rfl (.cons rfl (.cons rfl (.cons rfl (.cons rfl (.cons rfl (.cons rfl (.cons rfl (.cons rfl (.cons rfl (.cons rfl (.nil)))))))))))) (by exact .pick 1 rfl (.pick 0 rfl (.pick 0 rfl (.pick 0 rfl (.pick 0 rfl (.pick 0 rfl (.pick 0 rfl (.pick 0 rfl (.pick 0 rfl (.pick 0 rfl (.pick 0 rfl (.pick 0 rfl (.pick 0 rfl (.pick 0 rfl (.pick 0 rfl (.pick 0 rfl (.refl)))))))))))))))))
                · skip
                  refine P_h rfl rfl (Wh_store rfl rfl rfl (.here) (.put (.put (.done))) rfl (List.cons_ne_nil _ _) agg39.2 ?_) ?_
                  rotate_left; exact P_stop
                  refine P_x rfl (Wx_val (Ev_loadP0 rfl hp1131 (SubE.cons2 (i := 16) rfl (SubE.nil)) rfl one3) rfl ?_) ?_
                  rotate_left; exact P_stop
                  have hw1206 := Has.low (E := []) ha1' hK
                  obtain ⟨b1199, o1200, j1201, hA1202, hj1203, hl1204, hp1205⟩ := Has.at_idx hw1206 h1093
                  refine P_p rfl rfl (Ev_index rfl rfl hA1202 (j := j1201) hj1203 hl1204 slc24) rfl ?_
                  refine P_p rfl rfl (Ev_field rfl fld41_1 rfl) rfl ?_
                  refine P_x rfl (Wx_val (Ev_loadPK (d := 1) rfl hp1205 (SubE.cons2 (i := 16) rfl (SubE.nil)) rfl agg39) rfl ?_) ?_
                  rotate_left; exact P_stop
                  refine P_h rfl rfl (Wh_store rfl rfl rfl (.there (.here)) (.put (.put (.done))) rfl (List.cons_ne_nil _ _) agg39.2 ?_) ?_
                  rotate_left; exact P_stop
                  refine P_done ?_
                  exact T_metP (x1070.Z.Lo, x1070.Z.Hi, x1092.Z.Lo, x1092.Z.Hi) (g1190, g1179) hx1108 trivial (by exact .cons rfl (.cons rfl (.cons rfl (.cons rfl (.cons rfl (.cons rfl (.cons rfl (.cons rfl (.cons rfl (.cons rfl (.cons rfl (.nil)))))))))))) (by exact .pick 1 rfl (.pick 0 rfl (.pick 0 rfl (.pick 0 rfl (.pick 0 rfl (.pick 0 rfl (.pick 0 rfl (.pick 0 rfl (.pick 0 rfl (.pick 0 rfl (.pick 0 rfl (.pick 0 rfl (.pick 0 rfl (.pick 0 rfl (.pick 0 rfl (.pick 0 rfl (.refl)))))))))))))))))
        · skip
          refine P_x rfl (Wx_val (Ev_loadP0 rfl hp1131 (SubE.cons2 (i := 14) rfl (SubE.nil)) rfl one3) rfl ?_) ?_
          · skip
            refine P_x rfl (Wx_val (Ev_load1 rfl (i := 12) rfl rfl one24) rfl ?_) ?_
            · skip
              have hw1214 := Has.low (E := []) ha1' hK
              obtain ⟨b1207, o1208, j1209, hA1210, hj1211, hl1212, hp1213⟩ := Has.at_idx hw1214 h1093
              refine P_p rfl rfl (Ev_index rfl rfl hA1210 (j := j1209) hj1211 hl1212 slc24) rfl ?_
              refine P_p rfl rfl (Ev_field rfl fld41_1 rfl) rfl ?_
              refine P_x rfl (Wx_val (Ev_loadPK (d := 1) rfl hp1213 (SubE.cons2 (i := 14) rfl (SubE.nil)) rfl agg39) rfl ?_) ?_
              · skip
                refine P_x rfl (Wx_alloc zer39 rfl (fun g1215 => ?_)) ?_
                · skip
                  refine P_x rfl (Wx_alloc zer39 rfl (fun g1216 => ?_)) ?_
                  rotate_left; exact P_stop
                  refine P_h rfl rfl (Wh_store rfl rfl rfl (.there (.here)) (.put (.put (.done))) rfl (List.cons_ne_nil _ _) agg39.2 ?_) ?_
                  rotate_left; exact P_stop
                  refine P_h rfl rfl (Wh_store rfl rfl rfl (.here) (.put (.put (.done))) rfl (List.cons_ne_nil _ _) agg39.2 ?_) ?_
                  rotate_left; exact P_stop
                  refine P_done ?_
                  exact T_metP (x1070.Z.Lo, x1070.Z.Hi, x1092.Z.Lo, x1092.Z.Hi) (g1215, g1216) hx1108 trivial (by exact .cons rfl (.cons rfl (.cons rfl (.cons rfl (.cons rfl (.cons rfl (.cons rfl (.cons rfl (.cons rfl (.cons rfl (.cons rfl (.nil)))))))))))) (by exact .pick 0 rfl (.pick 0 rfl (.pick 0 rfl (.pick 0 rfl (.pick 0 rfl (.pick 0 rfl (.pick 0 rfl (.pick 0 rfl (.pick 0 rfl (.pick 0 rfl (.pick 0 rfl (.pick 0 rfl (.pick 0 rfl (.pick 0 rfl (.pick 0 rfl (.pick 0 rfl (.refl)))))))))))))))))
                · skip
                  refine P_x rfl (Wx_alloc zer39 rfl (fun g1217 => ?_)) ?_
                  rotate_left; exact P_stop
                  refine P_x rfl (Wx_alloc zer39 rfl (fun g1218 => ?_)) ?_
                  rotate_left; exact P_stop
                  refine P_h rfl rfl (Wh_store rfl rfl rfl (.here) (.put (.put (.done))) rfl (List.cons_ne_nil _ _) agg39.2 ?_) ?_
                  rotate_left; exact P_stop
                  refine P_h rfl rfl (Wh_store rfl rfl rfl (.there (.here)) (.put (.put (.done))) rfl (List.cons_ne_nil _ _) agg39.2 ?_) ?_
                  rotate_left; exact P_stop
                  refine P_done ?_
                  exact T_metP (x1070.Z.Lo, x1070.Z.Hi, x1092.Z.Lo, x1092.Z.Hi) (g1218, g1217) hx1108 trivial (by exact .cons rfl (.cons rfl (.cons rfl (.cons rfl (.cons rfl (.cons rfl (.cons rfl (.cons rfl (.cons rfl (.cons rfl (.cons rfl (.nil)))))))))))) (by exact .pick 1 rfl (.pick 0 rfl (.pick 0 rfl (.pick 0 rfl (.pick 0 rfl (.pick 0 rfl (.pick 0 rfl (.pick 0 rfl (.pick 0 rfl (.pick 0 rfl (.pick 0 rfl (.pick 0 rfl (.pick 0 rfl (.pick 0 rfl (.pick 0 rfl (.pick 0 rfl (.refl)))))))))))))))))
              · skip
                refine P_x rfl (Wx_alloc zer39 rfl (fun g1219 => ?_)) ?_
                · skip
                  refine P_x rfl (Wx_val (Ev_loadPK (d := 1) rfl hp1213 (SubE.cons2 (i := 15) rfl (SubE.nil)) rfl agg39) rfl ?_) ?_
                  · skip
                    refine P_x rfl (Wx_alloc zer39 rfl (fun g1220 => ?_)) ?_
                    rotate_left; exact P_stop
                    refine P_h rfl rfl (Wh_store rfl rfl rfl (.there (.here)) (.put (.put (.done))) rfl (List.cons_ne_nil _ _) agg39.2 ?_) ?_
                    rotate_left; exact P_stop
                    refine P_h rfl rfl (Wh_store rfl rfl rfl (.here) (.put (.put (.done))) rfl (List.cons_ne_nil _ _) agg39.2 ?_) ?_
                    rotate_left; exact P_stop
                    refine P_done ?_
                    exact T_metP (x1070.Z.Lo, x1070.Z.Hi, x1092.Z.Lo, x1092.Z.Hi) (g1219, g1220) hx1108 trivial (by exact .cons rfl (.cons rfl (.cons rfl (.cons rfl (.cons rfl (.cons rfl (.cons rfl (.cons rfl (.cons rfl (.cons rfl (.cons rfl (.nil)))))))))))) (by exact .pick 0 rfl (.pick 0 rfl (.pick 0 rfl (.pick 0 rfl (.pick 0 rfl (.pick 0 rfl (.pick 0 rfl (.pick 0 rfl (.pick 0 rfl (.pick 0 rfl (.pick 0 rfl (.pick 0 rfl (.pick 0 rfl (.pick 0 rfl (.pick 0 rfl (.pick 0 rfl (.refl)))))))))))))))))
                  · skip
                    refine P_x rfl (Wx_alloc zer39 rfl (fun g1221 => ?_)) ?_
                    rotate_left; exact P_stop
                    refine P_x rfl (Wx_val (Ev_loadPK (d := 1) rfl hp1213 (SubE.cons2 (i := 16) rfl (SubE.nil)) rfl agg39) rfl ?_) ?_
                    · skip
                      refine P_h rfl rfl (Wh_store rfl rfl rfl (.there (.here)) (.put (.put (.done))) rfl (List.cons_ne_nil _ _) agg39.2 ?_) ?_
                      rotate_left; exact P_stop
                      refine P_h rfl rfl (Wh_store rfl rfl rfl (.here) (.put (.put (.done))) rfl (List.cons_ne_nil _ _) agg39.2 ?_) ?_
                      rotate_left; exact P_stop
                      refine P_done ?_
                      exact T_metP (x1070.Z.Lo, x1070.Z.Hi, x1092.Z.Lo, x1092.Z.Hi) (g1219, g1221) hx1108 trivial (by exact .cons rfl (.cons rfl (.cons rfl (.cons rfl (.cons rfl (.cons rfl (.cons rfl (.cons rfl (.cons rfl (.cons rfl (.cons rfl (.nil)))))))))))) (by exact .pick 0 rfl (.pick 0 rfl (.pick 0 rfl (.pick 0 rfl (.pick 0 rfl (.pick 0 rfl (.pick 0 rfl (.pick 0 rfl (.pick 0 rfl (.pick 0 rfl (.pick 0 rfl (.pick 0 rfl (.pick 0 rfl (.pick 0 rfl (.pick 0 rfl (.pick 0 rfl (.refl)))))))))))))))))
                    · skip
                      refine P_h rfl rfl (Wh_store rfl rfl rfl (.there (.here)) (.put (.put (.done))) rfl (List.cons_ne_nil _ _) agg39.2 ?_) ?_
                      rotate_left; exact P_stop
                      refine P_x rfl (Wx_val (Ev_loadPK (d := 1) rfl hp1213 (SubE.cons2 (i := 16) rfl (SubE.nil)) rfl agg39) rfl ?_) ?_
                      rotate_left; exact P_stop
                      refine P_h rfl rfl (Wh_store rfl rfl rfl (.here) (.put (.put (.done))) rfl (List.cons_ne_nil _ _) agg39.2 ?_) ?_
                      rotate_left; exact P_stop
                      refine P_done ?_
                      exact T_metP (x1070.Z.Lo, x1070.Z.Hi, x1092.Z.Lo, x1092.Z.Hi) (g1219, g1221) hx1108 trivial (by exact .cons rfl (.cons rfl (.cons rfl (.cons rfl (.cons rfl (.cons rfl (.cons rfl (.cons rfl (.cons rfl (.cons rfl (.cons rfl (.nil)))))))))))) (by exact .pick 0 rfl (.pick 0 rfl (.pick 0 rfl (.pick 0 rfl (.pick 0 rfl (.pick 0 rfl (.pick 0 rfl (.pick 0 rfl (.pick 0 rfl (.pick 0 rfl (.pick 0 rfl (.pick 0 rfl (.pick 0 rfl (.pick 0 rfl (.pick 0 rfl (.pick 0 rfl (.refl)))))))))))))))))
                · skip
                  refine P_x rfl (Wx_alloc zer39 rfl (fun g1222 => ?_)) ?_
                  rotate_left; exact P_stop
                  refine P_x rfl (Wx_val (Ev_loadPK (d := 1) rfl hp1213 (SubE.cons2 (i := 15) rfl (SubE.nil)) rfl agg39) rfl ?_) ?_
                  · skip
                    refine P_x rfl (Wx_alloc zer39 rfl (fun g1223 => ?_)) ?_
                    rotate_left; exact P_stop
                    refine P_h rfl rfl (Wh_store rfl rfl rfl (.here) (.put (.put (.done))) rfl (List.cons_ne_nil _ _) agg39.2 ?_) ?_
                    rotate_left; exact P_stop
                    refine P_h rfl rfl (Wh_store rfl rfl rfl (.there (.here)) (.put (.put (.done))) rfl (List.cons_ne_nil _ _) agg39.2 ?_) ?_
                    rotate_left; exact P_stop
                    refine P_done ?_
                    exact T_metP (x1070.Z.Lo, x1070.Z.Hi, x1092.Z.Lo, x1092.Z.Hi) (g1223, g1222) hx1108 trivial (by exact .cons rfl (.cons rfl (.cons rfl (.cons rfl (.cons rfl (.cons rfl (.cons rfl (.cons rfl (.cons rfl (.cons rfl (.cons rfl (.nil)))))))))))) (by exact .pick 1 rfl (.pick 0 rfl (.pick 0 rfl (.pick 0 rfl (.pick 0 rfl (.pick 0 rfl (.pick 0 rfl (.pick 0 rfl (.pick 0 rfl (.pick 0 rfl (.pick 0 rfl (.pick 0 rfl (.pick 0 rfl (.pick 0 rfl (.pick 0 rfl (.pick 0 rfl (.refl)))))))))))))))))
                  · skip
                    refine P_x rfl (Wx_alloc zer39 rfl (fun g1224 => ?_)) ?_
                    rotate_left; exact P_stop
                    refine P_x rfl (Wx_val (Ev_loadPK (d := 1) rfl hp1213 (SubE.cons2 (i := 16) rfl (SubE.nil)) rfl agg39) rfl ?_) ?_
                    · skip
                      refine P_h rfl rfl (Wh_store rfl rfl rfl (.here) (.put (.put (.done))) rfl (List.cons_ne_nil _ _) agg39.2 ?_) ?_
                      rotate_left; exact P_stop
                      refine P_h rfl rfl (Wh_store rfl rfl rfl (.there (.here)) (.put (.put (.done))) rfl (List.cons_ne_nil _ _) agg39.2 ?_) ?_
                      rotate_left; exact P_stop
                      refine P_done ?_
                      exact T_metP (x1070.Z.Lo, x1070.Z.Hi, x1092.Z.Lo, x1092.Z.Hi) (g1224, g1222) hx1108 trivial (by exact .cons rfl (.cons rfl (.cons rfl (.cons rfl (.cons rfl (.cons rfl (.cons rfl (.cons rfl (.cons rfl (.cons rfl (.cons rfl (.nil)))))))))))) (by exact .pick 1 rfl (.pick 0 rfl (.pick 0 rfl (.pick 0 rfl (.pick 0 rfl (.pick 0 rfl (.pick 0 rfl (.pick 0 rfl (.pick 0 rfl (.pick 0 rfl (.pick 0 rfl (.pick 0 rfl (.pick 0 rfl (.pick 0 rfl (.pick 0 rfl (.pick 0 rfl (.refl)))))))))))))))))
                    · skip
                      refine P_h rfl rfl (Wh_store rfl rfl rfl (.here) (.put (.put (.done))) rfl (List.cons_ne_nil _ _) agg39.2 ?_) ?_
                      rotate_left; exact P_stop
                      refine P_x rfl (Wx_val (Ev_loadPK (d := 1) rfl hp1213 (SubE.cons2 (i := 16) rfl (SubE.nil)) rfl agg39) rfl ?_) ?_
                      rotate_left; exact P_stop
                      refine P_h rfl rfl (Wh_store rfl rfl rfl (.there (.here)) (.put (.put (.done))) rfl (List.cons_ne_nil _ _) agg39.2 ?_) ?_
                      rotate_left; exact P_stop
                      refine P_done ?_
                      exact T_metP (x1070.Z.Lo, x1070.Z.Hi, x1092.Z.Lo, x1092.Z.Hi) (g1224, g1222) hx1108 trivial (by exact .cons rfl (.cons rfl (.cons rfl (.cons rfl (.cons rfl (.cons rfl (.cons rfl (.cons rfl (.cons rfl (.cons rfl (.cons rfl (.nil)))))))))))) (by exact .pick 1 rfl (.pick 0 rfl (.pick 0 rfl (.pick 0 rfl (.pick 0 rfl (.pick 0 rfl (.pick 0 rfl (.pick 0 rfl (.pick 0 rfl (.pick 0 rfl (.pick 0 rfl (.pick 0 rfl (.pick 0 rfl (.pick 0 rfl (.pick 0 rfl (.pick 0 rfl (.refl)))))))))))))))))
            · skip
              refine P_x rfl (Wx_alloc zer39 rfl (fun g1225 => ?_)) ?_
              · skip
                refine P_x rfl (Wx_val (Ev_load1 rfl (i := 13) rfl rfl one24) rfl ?_) ?_
                · skip
                  have hw1233 := Has.low (E := []) ha1' hK
                  obtain ⟨b1226, o1227, j1228, hA1229, hj1230, hl1231, hp1232⟩ := Has.at_idx hw1233 h1093
                  refine P_p rfl rfl (Ev_index rfl rfl hA1229 (j := j1228) hj1230 hl1231 slc24) rfl ?_
                  refine P_p rfl rfl (Ev_field rfl fld41_1 rfl) rfl ?_
                  refine P_x rfl (Wx_val (Ev_loadPK (d := 1) rfl hp1232 (SubE.cons2 (i := 15) rfl (SubE.nil)) rfl agg39) rfl ?_) ?_
                  · skip
                    refine P_x rfl (Wx_alloc zer39 rfl (fun g1234 => ?_)) ?_
                    rotate_left; exact P_stop
                    refine P_h rfl rfl (Wh_store rfl rfl rfl (.there (.here)) (.put (.put (.done))) rfl (List.cons_ne_nil _ _) agg39.2 ?_) ?_
                    rotate_left; exact P_stop
                    refine P_h rfl rfl (Wh_store rfl rfl rfl (.here) (.put (.put (.done))) rfl (List.cons_ne_nil _ _) agg39.2 ?_) ?_
                    rotate_left; exact P_stop
                    refine P_done ?_
                    exact T_metP (x1070.Z.Lo, x1070.Z.Hi, x1092.Z.Lo, x1092.Z.Hi) (g1225, g1234) hx1108 trivial (by exact .cons rfl (.cons rfl (.cons rfl (.cons rfl (.cons rfl (.cons rfl (.cons rfl (.cons rfl (.cons rfl (.cons rfl (.cons rfl (.nil)))))))))))) (by exact .pick 0 rfl (.pick 0 rfl (.pick 0 rfl (.pick 0 rfl (.pick 0 rfl (.pick 0 rfl (.pick 0 rfl (.pick 0 rfl (.pick 0 rfl (.pick 0 rfl (.pick 0 rfl (.pick 0 rfl (.pick 0 rfl (.pick 0 rfl (.pick 0 rfl (.pick 0 rfl (.refl)))))))))))))))))
                  · skip
                    refine P_x rfl (Wx_alloc zer39 rfl (fun g1235 => ?_)) ?_
                    rotate_left; exact P_stop
                    refine P_x rfl (Wx_val (Ev_loadPK (d := 1) rfl hp1232 (SubE.cons2 (i := 16) rfl (SubE.nil)) rfl agg39) rfl ?_) ?_
                    · skip
                      refine P_h rfl rfl (Wh_store rfl rfl rfl (.there (.here)) (.put (.put (.done))) rfl (List.cons_ne_nil _ _) agg39.2 ?_) ?_
                      rotate_left; exact P_stop
                      refine P_h rfl rfl (Wh_store rfl rfl rfl (.here) (.put (.put (.done))) rfl (List.cons_ne_nil _ _) agg39.2 ?_) ?_
                      rotate_left; exact P_stop
                      refine P_done ?_
                      exact T_metP (x1070.Z.Lo, x1070.Z.Hi, x1092.Z.Lo, x1092.Z.Hi) (g1225, g1235) hx1108 trivial (by exact .cons rfl (.cons rfl (.cons rfl (.cons rfl (.cons rfl (.cons rfl (.cons rfl (.cons rfl (.cons rfl (.cons rfl (.cons rfl (.nil)))))))))))) (by exact .pick 0 rfl (.pick 0 rfl (.pick 0 rfl (.pick 0 rfl (.pick 0 rfl (.pick 0 rfl (.pick 0 rfl (.pick 0 rfl (.pick 0 rfl (.pick 0 rfl (.pick 0 rfl (.pick 0 rfl (.pick 0 rfl (.pick 0 rfl (.pick 0 rfl (.pick 0 rfl (.refl)))))))))))))))))
                    · skip
                      refine P_h rfl rfl (Wh_store rfl rfl rfl (.there (.here)) (.put (.put (.done))) rfl (List.cons_ne_nil _ _) agg39.2 ?_) ?_
                      rotate_left; exact P_stop
                      refine P_x rfl (Wx_val (Ev_loadPK (d := 1) rfl hp1232 (SubE.cons2 (i := 16) rfl (SubE.nil)) rfl agg39) rfl ?_) ?_
                      rotate_left; exact P_stop
                      refine P_h rfl rfl (Wh_store rfl rfl rfl (.here) (.put (.put (.done))) rfl (List.cons_ne_nil _ _) agg39.2 ?_) ?_
                      rotate_left; exact P_stop
                      refine P_done ?_
                      exact T_metP (x1070.Z.Lo, x1070.Z.Hi, x1092.Z.Lo, x1092.Z.Hi) (g1225, g1235) hx1108 trivial (by exact .cons rfl (.cons rfl (.cons rfl (.cons rfl (.cons rfl (.cons rfl (.cons rfl (.cons rfl (.cons rfl (.cons rfl (.cons rfl (.nil)))))))))))) (by exact .pick 0 rfl (.pick 0 rfl (.pick 0 rfl (.pick 0 rfl (.pick 0 rfl (.pick 0 rfl (.pick 0 rfl (.pick 0 rfl (.pick 0 rfl (.pick 0 rfl (.pick 0 rfl (.pick 0 rfl (.pick 0 rfl (.pick 0 rfl (.pick 0 rfl (.pick 0 rfl (.refl)))))))))))))))))
                · skip
                  refine P_x rfl (Wx_alloc zer39 rfl (fun g1236 => ?_)) ?_
                  rotate_left; exact P_stop
                  refine P_x rfl (Wx_val (Ev_load1 rfl (i := 14) rfl rfl one24) rfl ?_) ?_
                  · skip
                    have hw1244 := Has.low (E := []) ha1' hK
                    obtain ⟨b1237, o1238, j1239, hA1240, hj1241, hl1242, hp1243⟩ := Has.at_idx hw1244 h1093
                    refine P_p rfl rfl (Ev_index rfl rfl hA1240 (j := j1239) hj1241 hl1242 slc24) rfl ?_
                    refine P_p rfl rfl (Ev_field rfl fld41_1 rfl) rfl ?_
                    refine P_x rfl (Wx_val (Ev_loadPK (d := 1) rfl hp1243 (SubE.cons2 (i := 16) rfl (SubE.nil)) rfl agg39) rfl ?_) ?_
                    · skip
                      refine P_h rfl rfl (Wh_store rfl rfl rfl (.there (.here)) (.put (.put (.done))) rfl (List.cons_ne_nil _ _) agg39.2 ?_) ?_
                      rotate_left; exact P_stop
                      refine P_h rfl rfl (Wh_store rfl rfl rfl (.here) (.put (.put (.done))) rfl (List.cons_ne_nil _ _) agg39.2 ?_) ?_
                      rotate_left; exact P_stop
                      refine P_done ?_
                      exact T_metP (x1070.Z.Lo, x1070.Z.Hi, x1092.Z.Lo, x1092.Z.Hi) (g1225, g1236) hx1108 trivial (by exact .cons rfl (.cons rfl (.cons rfl (.cons rfl (.cons rfl (.cons rfl (.cons rfl (.cons rfl (.cons rfl (.cons rfl (.cons rfl (.nil)))))))))))) (by exact .pick 0 rfl (.pick 0 rfl (.pick 0 rfl (.pick 0 rfl (.pick 0 rfl (.pick 0 rfl (.pick 0 rfl (.pick 0 rfl (.pick 0 rfl (.pick 0 rfl (.pick 0 rfl (.pick 0 rfl (.pick 0 rfl (.pick 0 rfl (.pick 0 rfl (.pick 0 rfl (.refl)))))))))))))))))
                    · skip
                      refine P_h rfl rfl (Wh_store rfl rfl rfl (.there (.here)) (.put (.put (.done))) rfl (List.cons_ne_nil _ _) agg39.2 ?_) ?_
                      rotate_left; exact P_stop
                      refine P_x rfl (Wx_val (Ev_loadPK (d := 1) rfl hp1243 (SubE.cons2 (i := 16) rfl (SubE.nil)) rfl agg39) rfl ?_) ?_
                      rotate_left; exact P_stop
                      refine P_h rfl rfl (Wh_store rfl rfl rfl (.here) (.put (.put (.done))) rfl (List.cons_ne_nil _ _) agg39.2 ?_) ?_
                      rotate_left; exact P_stop
                      refine P_done ?_
                      exact T_metP (x1070.Z.Lo, x1070.Z.Hi, x1092.Z.Lo, x1092.Z.Hi) (g1225, g1236) hx1108 trivial (by exact .cons rfl (.cons rfl (.cons rfl (.cons rfl (.cons rfl (.cons rfl (.cons rfl (.cons rfl (.cons rfl (.cons rfl (.cons rfl (.nil)))))))))))) (by exact .pick 0 rfl (.pick 0 rfl (.pick 0 rfl (.pick 0 rfl (.pick 0 rfl (.pick 0 rfl (.pick 0 rfl (.pick 0 rfl (.pick 0 rfl (.pick 0 rfl (.pick 0 rfl (.pick 0 rfl (.pick 0 rfl (.pick 0 rfl (.pick 0 rfl (.pick 0 rfl (.refl)))))))))))))))))
                  · skip
                    refine P_h rfl rfl (Wh_store rfl rfl rfl (.there (.here)) (.put (.put (.done))) rfl (List.cons_ne_nil _ _) agg39.2 ?_) ?_
                    rotate_left; exact P_stop
                    refine P_x rfl (Wx_val (Ev_load1 rfl (i := 14) rfl rfl one24) rfl ?_) ?_
                    rotate_left; exact P_stop
                    have hw1252 := Has.low (E := []) ha1' hK
                    obtain ⟨b1245, o1246, j1247, hA1248, hj1249, hl1250, hp1251⟩ := Has.at_idx hw1252 h1093
                    refine P_p rfl rfl (Ev_index rfl rfl hA1248 (j := j1247) hj1249 hl1250 slc24) rfl ?_
                    refine P_p rfl rfl (Ev_field rfl fld41_1 rfl) rfl ?_
                    refine P_x rfl (Wx_val (Ev_loadPK (d := 1) rfl hp1251 (SubE.cons2 (i := 16) rfl (SubE.nil)) rfl agg39) rfl ?_) ?_
                    rotate_left; exact P_stop
                    refine P_h rfl rfl (Wh_store rfl rfl rfl (.here) (.put (.put (.done))) rfl (List.cons_ne_nil _ _) agg39.2 ?_) ?_
                    rotate_left; exact P_stop
                    refine P_done ?_
                    exact T_metP (x1070.Z.Lo, x1070.Z.Hi, x1092.Z.Lo, x1092.Z.Hi) (g1225, g1236) hx1108 trivial (by exact .cons rfl (.cons rfl (.cons rfl (.cons rfl (.cons rfl (.cons rfl (.cons rfl (.cons rfl (.cons rfl (.cons rfl (.cons rfl (.nil)))))))))))) (by exact .pick 0 rfl (.pick 0 rfl (.pick 0 rfl (.pick 0 rfl (.pick 0 rfl (.pick 0 rfl (.pick 0 rfl (.pick 0 rfl (.pick 0 rfl (.pick 0 rfl (.pick 0 rfl (.pick 0 rfl (.pick 0 rfl (.pick 0 rfl (.pick 0 rfl (.pick 0 rfl (.refl)))))))))))))))))
              · skip
                refine P_x rfl (Wx_alloc zer39 rfl (fun g1253 => ?_)) ?_
                rotate_left; exact P_stop
                refine P_x rfl (Wx_val (Ev_load1 rfl (i := 13) rfl rfl one24) rfl ?_) ?_
                · skip
                  have hw1261 := Has.low (E := []) ha1' hK
                  obtain ⟨b1254, o1255, j1256, hA1257, hj1258, hl1259, hp1260⟩ := Has.at_idx hw1261 h1093
                  refine P_p rfl rfl (Ev_index rfl rfl hA1257 (j := j1256) hj1258 hl1259 slc24) rfl ?_
                  refine P_p rfl rfl (Ev_field rfl fld41_1 rfl) rfl ?_
                  refine P_x rfl (Wx_val (Ev_loadPK (d := 1) rfl hp1260 (SubE.cons2 (i := 15) rfl (SubE.nil)) rfl agg39) rfl ?_) ?_
                  · skip
                    refine P_x rfl (Wx_alloc zer39 rfl (fun g1262 => ?_)) ?_
                    rotate_left; exact P_stop
                    refine P_h rfl rfl (Wh_store rfl rfl rfl (.here) (.put (.put (.done))) rfl (List.cons_ne_nil _ _) agg39.2 ?_) ?_
                    rotate_left; exact P_stop
                    refine P_h rfl rfl (Wh_store rfl rfl rfl (.there (.here)) (.put (.put (.done))) rfl (List.cons_ne_nil _ _) agg39.2 ?_) ?_
                    rotate_left; exact P_stop
                    refine P_done ?_
                    exact T_metP (x1070.Z.Lo, x1070.Z.Hi, x1092.Z.Lo, x1092.Z.Hi) (g1262, g1253) hx1108 trivial (by exact .cons rfl (.cons rfl (.cons rfl (.cons rfl (.cons rfl (.cons rfl (.cons rfl (.cons rfl (.cons rfl (.cons rfl (.cons rfl (.nil)))))))))))) (by exact .pick 1 rfl (.pick 0 rfl (.pick 0 rfl (.pick 0 rfl (.pick 0 rfl (.pick 0 rfl (.pick 0 rfl (.pick 0 rfl (.pick 0 rfl (.pick 0 rfl (.pick 0 rfl (.pick 0 rfl (.pick 0 rfl (.pick 0 rfl (.pick 0 rfl (.pick 0 rfl (.refl)))))))))))))))))
                  · skip
                    refine P_x rfl (Wx_alloc zer39 rfl (fun g1263 => ?_)) ?_
                    rotate_left; exact P_stop
                    refine P_x rfl (Wx_val (Ev_loadPK (d := 1) rfl hp1260 (SubE.cons2 (i := 16) rfl (SubE.nil)) rfl agg39) rfl ?_) ?_
                    · skip
                      refine P_h rfl rfl (Wh_store rfl rfl rfl (.here) (.put (.put (.done))) rfl (List.cons_ne_nil _ _) agg39.2 ?_) ?_
                      rotate_left; exact P_stop
                      refine P_h rfl rfl (Wh_store rfl rfl rfl (.there (.here)) (.put (.put (.done))) rfl (List.cons_ne_nil _ _) agg39.2 ?_) ?_
                      rotate_left; exact P_stop
                      refine P_done ?_
                      exact T_metP (x1070.Z.Lo, x1070.Z.Hi, x1092.Z.Lo, x1092.Z.Hi) (g1263, g1253) hx1108 trivial (by exact .cons rfl (.cons rfl (.cons rfl (.cons rfl (.cons rfl (.cons rfl (.cons rfl (.cons rfl (.cons rfl (.cons rfl (.cons rfl (.nil)))))))))))) (by exact .pick 1 rfl (.pick 0 rfl (.pick 0 rfl (.pick 0 rfl (.pick 0 rfl (.pick 0 rfl (.pick 0 rfl (.pick 0 rfl (.pick 0 rfl (.pick 0 rfl (.pick 0 rfl (.pick 0 rfl (.pick 0 rfl (.pick 0 rfl (.pick 0 rfl (.pick 0 rfl (.refl)))))))))))))))))
                    · skip
                      refine P_h rfl rfl (Wh_store rfl rfl rfl (.here) (.put (.put (.done))) rfl (List.cons_ne_nil _ _) agg39.2 ?_) ?_
                      rotate_left; exact P_stop
                      refine P_x rfl (Wx_val (Ev_loadPK (d := 1) rfl hp1260 (SubE.cons2 (i := 16) rfl (SubE.nil)) rfl agg39) rfl ?_) ?_
                      rotate_left; exact P_stop
                      refine P_h rfl rfl (Wh_store rfl rfl rfl (.there (.here)) (.put (.put (.done))) rfl (List.cons_ne_nil _ _) agg39.2 ?_) ?_
                      rotate_left; exact P_stop
                      refine P_done ?_
                      exact T_metP (x1070.Z.Lo, x1070.Z.Hi, x1092.Z.Lo, x1092.Z.Hi) (g1263, g1253) hx1108 trivial (by exact .cons rfl (.cons rfl (.cons rfl (.cons rfl (.cons rfl (.cons rfl (.cons rfl (.cons rfl (.cons rfl (.cons rfl (.cons rfl (.nil)))))))))))) (by exact .pick 1 rfl (.pick 0 rfl (.pick 0 rfl (.pick 0 rfl (.pick 0 rfl (.pick 0 rfl (.pick 0 rfl (.pick 0 rfl (.pick 0 rfl (.pick 0 rfl (.pick 0 rfl (.pick 0 rfl (.pick 0 rfl (.pick 0 rfl (.pick 0 rfl (.pick 0 rfl (.refl)))))))))))))))))
                · skip
                  refine P_x rfl (Wx_alloc zer39 rfl (fun g1264 => ?_)) ?_
                  rotate_left; exact P_stop
                  refine P_x rfl (Wx_val (Ev_load1 rfl (i := 14) rfl rfl one24) rfl ?_) ?_
                  · skip
                    have hw1272 := Has.low (E := []) ha1' hK
                    obtain ⟨b1265, o1266, j1267, hA1268, hj1269, hl1270, hp1271⟩ := Has.at_idx hw1272 h1093
                    refine P_p rfl rfl (Ev_index rfl rfl hA1268 (j := j1267) hj1269 hl1270 slc24) rfl ?_
                    refine P_p rfl rfl (Ev_field rfl fld41_1 rfl) rfl ?_
                    refine P_x rfl (Wx_val (Ev_loadPK (d := 1) rfl hp1271 (SubE.cons2 (i := 16) rfl (SubE.nil)) rfl agg39) rfl ?_) ?_
                    · skip
                      refine P_h rfl rfl (Wh_store rfl rfl rfl (.here) (.put (.put (.done))) rfl (List.cons_ne_nil _ _) agg39.2 ?_) ?_
                      rotate_left; exact P_stop
                      refine P_h rfl rfl (Wh_store rfl rfl rfl (.there (.here)) (.put (.put (.done))) rfl (List.cons_ne_nil _ _) agg39.2 ?_) ?_
                      rotate_left; exact P_stop
                      refine P_done ?_
                      exact T_metP (x1070.Z.Lo, x1070.Z.Hi, x1092.Z.Lo, x1092.Z.Hi) (g1264, g1253) hx1108 trivial (by exact .cons rfl (.cons rfl (.cons rfl (.cons rfl (.cons rfl (.cons rfl (.cons rfl (.cons rfl (.cons rfl (.cons rfl (.cons rfl (.nil)))))))))))) (by exact .pick 1 rfl (.pick 0 rfl (.pick 0 rfl (.pick 0 rfl (.pick 0 rfl (.pick 0 rfl (.pick 0 rfl (.pick 0 rfl (.pick 0 rfl (.pick 0 rfl (.pick 0 rfl (.pick 0 rfl (.pick 0 rfl (.pick 0 rfl (.pick 0 rfl (.pick 0 rfl (.refl)))))))))))))))))
                    · skip
                      refine P_h rfl rfl (Wh_store rfl rfl rfl (.here) (.put (.put (.done))) rfl (List.cons_ne_nil _ _) agg39.2 ?_) ?_
                      rotate_left; exact P_stop
                      refine P_x rfl (Wx_val (Ev_loadPK (d := 1) rfl hp1271 (SubE.cons2 (i := 16) rfl (SubE.nil)) rfl agg39) rfl ?_) ?_
                      rotate_left; exact P_stop
                      refine P_h rfl rfl (Wh_store rfl rfl rfl (.there (.here)) (.put (.put (.done))) rfl (List.cons_ne_nil _ _) agg39.2 ?_) ?_
                      rotate_left; exact P_stop
                      refine P_done ?_
                      exact T_metP (x1070.Z.Lo, x1070.Z.Hi, x1092.Z.Lo, x1092.Z.Hi) (g1264, g1253) hx1108 trivial (by exact .cons rfl (.cons rfl (.cons rfl (.cons rfl (.cons rfl (.cons rfl (.cons rfl (.cons rfl (.cons rfl (.cons rfl (.cons rfl (.nil)))))))))))) (by exact .pick 1 rfl (.pick 0 rfl (.pick 0 rfl (.pick 0 rfl (.pick 0 rfl (.pick 0 rfl (.pick 0 rfl (.pick 0 rfl (.pick 0 rfl (.pick 0 rfl (.pick 0 rfl (.pick 0 rfl (.pick 0 rfl (.pick 0 rfl (.pick 0 rfl (.pick 0 rfl (.refl)))))))))))))))))
                  · skip
                    refine P_h rfl rfl (Wh_store rfl rfl rfl (.here) (.put (.put (.done))) rfl (List.cons_ne_nil _ _) agg39.2 ?_) ?_
                    rotate_left; exact P_stop
                    refine P_x rfl (Wx_val (Ev_load1 rfl (i := 14) rfl rfl one24) rfl ?_) ?_
                    rotate_left; exact P_stop
                    have hw1280 := Has.low (E := []) ha1' hK
                    obtain ⟨b1273, o1274, j1275, hA1276, hj1277, hl1278, hp1279⟩ := Has.at_idx hw1280 h1093
                    refine P_p rfl rfl (Ev_index rfl rfl hA1276 (j := j1275) hj1277 hl1278 slc24) rfl ?_
                    refine P_p rfl rfl (Ev_field rfl fld41_1 rfl) rfl ?_
                    refine P_x rfl (Wx_val (Ev_loadPK (d := 1) rfl hp1279 (SubE.cons2 (i := 16) rfl (SubE.nil)) rfl agg39) rfl ?_) ?_
                    rotate_left; exact P_stop
                    refine P_h rfl rfl (Wh_store rfl rfl rfl (.there (.here)) (.put (.put (.done))) rfl (List.cons_ne_nil _ _) agg39.2 ?_) ?_
                    rotate_left; exact P_stop
                    refine P_done ?_
                    exact T_metP (x1070.Z.Lo, x1070.Z.Hi, x1092.Z.Lo, x1092.Z.Hi) (g1264, g1253) hx1108 trivial (by exact .cons rfl (.cons rfl (.cons rfl (.cons rfl (.cons rfl (.cons rfl (.cons rfl (.cons rfl (.cons rfl (.cons rfl (.cons rfl (.nil)))))))))))) (by exact .pick 1 rfl (.pick 0 rfl (.pick 0 rfl (.pick 0 rfl (.pick 0 rfl (.pick 0 rfl (.pick 0 rfl (.pick 0 rfl (.pick 0 rfl (.pick 0 rfl (.pick 0 rfl (.pick 0 rfl (.pick 0 rfl (.pick 0 rfl (.pick 0 rfl (.pick 0 rfl (.refl)))))))))))))))))
          · skip
            refine P_x rfl (Wx_alloc zer39 rfl (fun g1281 => ?_)) ?_
            · skip
              refine P_x rfl (Wx_val (Ev_load1 rfl (i := 13) rfl rfl one24) rfl ?_) ?_
              · skip
                refine P_x rfl (Wx_val (Ev_loadP0 rfl hp1131 (SubE.cons2 (i := 15) rfl (SubE.nil)) rfl one3) rfl ?_) ?_
                · skip
                  have hw1289 := Has.low (E := []) ha1' hK
                  obtain ⟨b1282, o1283, j1284, hA1285, hj1286, hl1287, hp1288⟩ := Has.at_idx hw1289 h1093
                  refine P_p rfl rfl (Ev_index rfl rfl hA1285 (j := j1284) hj1286 hl1287 slc24) rfl ?_
                  refine P_p rfl rfl (Ev_field rfl fld41_1 rfl) rfl ?_
                  refine P_x rfl (Wx_val (Ev_loadPK (d := 1) rfl hp1288 (SubE.cons2 (i := 15) rfl (SubE.nil)) rfl agg39) rfl ?_) ?_
                  · skip
                    refine P_x rfl (Wx_alloc zer39 rfl (fun g1290 => ?_)) ?_
                    rotate_left; exact P_stop
                    refine P_h rfl rfl (Wh_store rfl rfl rfl (.there (.here)) (.put (.put (.done))) rfl (List.cons_ne_nil _ _) agg39.2 ?_) ?_
                    rotate_left; exact P_stop
                    refine P_h rfl rfl (Wh_store rfl rfl rfl (.here) (.put (.put (.done))) rfl (List.cons_ne_nil _ _) agg39.2 ?_) ?_
                    rotate_left; exact P_stop
                    refine P_done ?_
                    exact T_metP (x1070.Z.Lo, x1070.Z.Hi, x1092.Z.Lo, x1092.Z.Hi) (g1281, g1290) hx1108 trivial (by exact .cons rfl (.cons rfl (.cons rfl (.cons rfl (.cons rfl (.cons rfl (.cons rfl (.cons rfl (.cons rfl (.cons rfl (.cons rfl (.nil)))))))))))) (by exact .pick 0 rfl (.pick 0 rfl (.pick 0 rfl (.pick 0 rfl (.pick 0 rfl (.pick 0 rfl (.pick 0 rfl (.pick 0 rfl (.pick 0 rfl (.pick 0 rfl (.pick 0 rfl (.pick 0 rfl (.pick 0 rfl (.pick 0 rfl (.pick 0 rfl (.pick 0 rfl (.refl)))))))))))))))))
                  · skip
                    refine P_x rfl (Wx_alloc zer39 rfl (fun g1291 => ?_)) ?_
                    rotate_left; exact P_stop
                    refine P_x rfl (Wx_val (Ev_loadPK (d := 1) rfl hp1288 (SubE.cons2 (i := 16) rfl (SubE.nil)) rfl agg39) rfl ?_) ?_
                    · skip
                      refine P_h rfl rfl (Wh_store rfl rfl rfl (.there (.here)) (.put (.put (.done))) rfl (List.cons_ne_nil _ _) agg39.2 ?_) ?_
                      rotate_left; exact P_stop
                      refine P_h rfl rfl (Wh_store rfl rfl rfl (.here) (.put (.put (.done))) rfl (List.cons_ne_nil _ _) agg39.2 ?_) ?_
                      rotate_left; exact P_stop
                      refine P_done ?_
                      exact T_metP (x1070.Z.Lo, x1070.Z.Hi, x1092.Z.Lo, x1092.Z.Hi) (g1281, g1291) hx1108 trivial (by exact .cons rfl (.cons rfl (.cons rfl (.cons rfl (.cons rfl (.cons rfl (.cons rfl (.cons rfl (.cons rfl (.cons rfl (.cons rfl (.nil)))))))))))) (by exact .pick 0 rfl (.pick 0 rfl (.pick 0 rfl (.pick 0 rfl (.pick 0 rfl (.pick 0 rfl (.pick 0 rfl (.pick 0 rfl (.pick 0 rfl (.pick 0 rfl (.pick 0 rfl (.pick 0 rfl (.pick 0 rfl (.pick 0 rfl (.pick 0 rfl (.pick 0 rfl (.refl)))))))))))))))))
                    · skip
                      refine P_h rfl rfl (Wh_store rfl rfl rfl (.there (.here)) (.put (.put (.done))) rfl (List.cons_ne_nil _ _) agg39.2 ?_) ?_
                      rotate_left; exact P_stop
                      refine P_x rfl (Wx_val (Ev_loadPK (d := 1) rfl hp1288 (SubE.cons2 (i := 16) rfl (SubE.nil)) rfl agg39) rfl ?_) ?_
                      rotate_left; exact P_stop
                      refine P_h rfl rfl (Wh_store rfl rfl rfl (.here) (.put (.put (.done))) rfl (List.cons_ne_nil _ _) agg39.2 ?_) ?_
                      rotate_left; exact P_stop
                      refine P_done ?_
                      exact T_metP (x1070.Z.Lo, x1070.Z.Hi, x1092.Z.Lo, x1092.Z.Hi) (g1281, g1291) hx1108 trivial (by exact .cons rfl (.cons rfl (.cons rfl (.cons rfl (.cons rfl (.cons rfl (.cons rfl (.cons rfl (.cons rfl (.cons rfl (.cons rfl (.nil)))))))))))) (by exact .pick 0 rfl (.pick 0 rfl (.pick 0 rfl (.pick 0 rfl (.pick 0 rfl (.pick 0 rfl (.pick 0 rfl (.pick 0 rfl (.pick 0 rfl (.pick 0 rfl (.pick 0 rfl (.pick 0 rfl (.pick 0 rfl (.pick 0 rfl (.pick 0 rfl (.pick 0 rfl (.refl)))))))))))))))))
                · skip
                  refine P_x rfl (Wx_alloc zer39 rfl (fun g1292 => ?_)) ?_
                  rotate_left; exact P_stop
                  refine P_x rfl (Wx_val (Ev_loadP0 rfl hp1131 (SubE.cons2 (i := 16) rfl (SubE.nil)) rfl one3) rfl ?_) ?_
                  · skip
                    have hw1300 := Has.low (E := []) ha1' hK
                    obtain ⟨b1293, o1294, j1295, hA1296, hj1297, hl1298, hp1299⟩ := Has.at_idx hw1300 h1093
                    refine P_p rfl rfl (Ev_index rfl rfl hA1296 (j := j1295) hj1297 hl1298 slc24) rfl ?_
                    refine P_p rfl rfl (Ev_field rfl fld41_1 rfl) rfl ?_
                    refine P_x rfl (Wx_val (Ev_loadPK (d := 1) rfl hp1299 (SubE.cons2 (i := 16) rfl (SubE.nil)) rfl agg39) rfl ?_) ?_
                    · skip
                      refine P_h rfl rfl (Wh_store rfl rfl rfl (.there (.here)) (.put (.put (.done))) rfl (List.cons_ne_nil _ _) agg39.2 ?_) ?_
                      rotate_left; exact P_stop
                      refine P_h rfl rfl (Wh_store rfl rfl rfl (.here) (.put (.put (.done))) rfl (List.cons_ne_nil _ _) agg39.2 ?_) ?_
                      rotate_left; exact P_stop
                      refine P_done ?_
                      exact T_metP (x1070.Z.Lo, x1070.Z.Hi, x1092.Z.Lo, x1092.Z.Hi) (g1281, g1292) hx1108 trivial (by exact .cons rfl (.cons rfl (.cons rfl (.cons rfl (.cons rfl (.cons rfl (.cons rfl (.cons rfl (.cons rfl (.cons rfl (.cons rfl (.nil)))))))))))) (by exact .pick 0 rfl (.pick 0 rfl (.pick 0 rfl (.pick 0 rfl (.pick 0 rfl (.pick 0 rfl (.pick 0 rfl (.pick 0 rfl (.pick 0 rfl (.pick 0 rfl (.pick 0 rfl (.pick 0 rfl (.pick 0 rfl (.pick 0 rfl (.pick 0 rfl (.pick 0 rfl (.refl)))))))))))))))))
                    · skip
                      refine P_h rfl rfl (Wh_store rfl rfl rfl (.there (.here)) (.put (.put (.done))) rfl (List.cons_ne_nil _ _) agg39.2 ?_) ?_
                      rotate_left; exact P_stop
                      refine P_x rfl (Wx_val (Ev_loadPK (d := 1) rfl hp1299 (SubE.cons2 (i := 16) rfl (SubE.nil)) rfl agg39) rfl ?_) ?_
                      rotate_left; exact P_stop
                      refine P_h rfl rfl (Wh_store rfl rfl rfl (.here) (.put (.put (.done))) rfl (List.cons_ne_nil _ _) agg39.2 ?_) ?_
                      rotate_left; exact P_stop
                      refine P_done ?_
                      exact T_metP (x1070.Z.Lo, x1070.Z.Hi, x1092.Z.Lo, x1092.Z.Hi) (g1281, g1292) hx1108 trivial (by exact .cons rfl (.cons rfl (.cons rfl (.cons rfl (.cons rfl (.cons rfl (.cons rfl (.cons rfl (.cons rfl (.cons rfl (.cons rfl (.nil)))))))))))) (by exact .pick 0 rfl (.pick 0 rfl (.pick 0 rfl (.pick 0 rfl (.pick 0 rfl (.pick 0 rfl (.pick 0 rfl (.pick 0 rfl (.pick 0 rfl (.pick 0 rfl (.pick 0 rfl (.pick 0 rfl (.pick 0 rfl (.pick 0 rfl (.pick 0 rfl (.pick 0 rfl (.refl)))))))))))))))))
                  · skip
                    refine P_h rfl rfl (Wh_store rfl rfl rfl (.there (.here)) (.put (.put (.done))) rfl (List.cons_ne_nil _ _) agg39.2 ?_) ?_
                    rotate_left; exact P_stop
                    refine P_x rfl (Wx_val (Ev_loadP0 rfl hp1131 (SubE.cons2 (i := 16) rfl (SubE.nil)) rfl one3) rfl ?_) ?_
                    rotate_left; exact P_stop
                    have hw1308 := Has.low (E := []) ha1' hK
                    obtain ⟨b1301, o1302, j1303, hA1304, hj1305, hl1306, hp1307⟩ := Has.at_idx hw1308 h1093
                    refine P_p rfl rfl (Ev_index rfl rfl hA1304 (j := j1303) hj1305 hl1306 slc24) rfl ?_
                    refine P_p rfl rfl (Ev_field rfl fld41_1 rfl) rfl ?_
                    refine P_x rfl (Wx_val (Ev_loadPK (d := 1) rfl hp1307 (SubE.cons2 (i := 16) rfl (SubE.nil)) rfl agg39) rfl ?_) ?_
                    rotate_left; exact P_stop
                    refine P_h rfl rfl (Wh_store rfl rfl rfl (.here) (.put (.put (.done))) rfl (List.cons_ne_nil _ _) agg39.2 ?_) ?_
                    rotate_left; exact P_stop
                    refine P_done ?_
                    exact T_metP (x1070.Z.Lo, x1070.Z.Hi, x1092.Z.Lo, x1092.Z.Hi) (g1281, g1292) hx1108 trivial (by exact .cons rfl (.cons rfl (.cons rfl (.cons rfl (.cons rfl (.cons rfl (.cons rfl (.cons rfl (.cons rfl (.cons rfl (.cons rfl (.nil)))))))))))) (by exact .pick 0 rfl (.pick 0 rfl (.pick 0 rfl (.pick 0 rfl (.pick 0 rfl (.pick 0 rfl (.pick 0 rfl (.pick 0 rfl (.pick 0 rfl (.pick 0 rfl (.pick 0 rfl (.pick 0 rfl (.pick 0 rfl (.pick 0 rfl (.pick 0 rfl (.pick 0 rfl (.refl)))))))))))))))))
              · skip
                refine P_x rfl (Wx_val (Ev_loadP0 rfl hp1131 (SubE.cons2 (i := 15) rfl (SubE.nil)) rfl one3) rfl ?_) ?_
                · skip
                  refine P_x rfl (Wx_val (Ev_load1 rfl (i := 13) rfl rfl one24) rfl ?_) ?_
                  · skip
                    have hw1316 := Has.low (E := []) ha1' hK
                    obtain ⟨b1309, o1310, j1311, hA1312, hj1313, hl1314, hp1315⟩ := Has.at_idx hw1316 h1093
                    refine P_p rfl rfl (Ev_index rfl rfl hA1312 (j := j1311) hj1313 hl1314 slc24) rfl ?_
                    refine P_p rfl rfl (Ev_field rfl fld41_1 rfl) rfl ?_
                    refine P_x rfl (Wx_val (Ev_loadPK (d := 1) rfl hp1315 (SubE.cons2 (i := 15) rfl (SubE.nil)) rfl agg39) rfl ?_) ?_
                    · skip
                      refine P_x rfl (Wx_alloc zer39 rfl (fun g1317 => ?_)) ?_
                      rotate_left; exact P_stop
                      refine P_h rfl rfl (Wh_store rfl rfl rfl (.there (.here)) (.put (.put (.done))) rfl (List.cons_ne_nil _ _) agg39.2 ?_) ?_
                      rotate_left; exact P_stop
                      refine P_h rfl rfl (Wh_store rfl rfl rfl (.here) (.put (.put (.done))) rfl (List.cons_ne_nil _ _) agg39.2 ?_) ?_
                      rotate_left; exact P_stop
                      refine P_done ?_
                      exact T_metP (x1070.Z.Lo, x1070.Z.Hi, x1092.Z.Lo, x1092.Z.Hi) (g1281, g1317) hx1108 trivial (by exact .cons rfl (.cons rfl (.cons rfl (.cons rfl (.cons rfl (.cons rfl (.cons rfl (.cons rfl (.cons rfl (.cons rfl (.cons rfl (.nil)))))))))))) (by exact .pick 0 rfl (.pick 0 rfl (.pick 0 rfl (.pick 0 rfl (.pick 0 rfl (.pick 0 rfl (.pick 0 rfl (.pick 0 rfl (.pick 0 rfl (.pick 0 rfl (.pick 0 rfl (.pick 0 rfl (.pick 0 rfl (.pick 0 rfl (.pick 0 rfl (.pick 0 rfl (.refl)))))))))))))))))
                    · skip
                      refine P_x rfl (Wx_alloc zer39 rfl (fun g1318 => ?_)) ?_
                      rotate_left; exact P_stop
                      refine P_x rfl (Wx_val (Ev_loadPK (d := 1) rfl hp1315 (SubE.cons2 (i := 16) rfl (SubE.nil)) rfl agg39) rfl ?_) ?_
                      · skip
                        refine P_h rfl rfl (Wh_store rfl rfl rfl (.there (.here)) (.put (.put (.done))) rfl (List.cons_ne_nil _ _) agg39.2 ?_) ?_
                        rotate_left; exact P_stop
                        refine P_h rfl rfl (Wh_store rfl rfl rfl (.here) (.put (.put (.done))) rfl (List.cons_ne_nil _ _) agg39.2 ?_) ?_
                        rotate_left; exact P_stop
                        refine P_done ?_
                        exact T_metP (x1070.Z.Lo, x1070.Z.Hi, x1092.Z.Lo, x1092.Z.Hi) (g1281, g1318) hx1108 trivial (by exact .cons rfl (.cons rfl (.cons rfl (.cons rfl (.cons rfl (.cons rfl (.cons rfl (.cons rfl (.cons rfl (.cons rfl (.cons rfl (.nil)))))))))))) (by exact .pick 0 rfl (.pick 0 rfl (.pick 0 rfl (.pick 0 rfl (.pick 0 rfl (.pick 0 rfl (.pick 0 rfl (.pick 0 rfl (.pick 0 rfl (.pick 0 rfl (.pick 0 rfl (.pick 0 rfl (.pick 0 rfl (.pick 0 rfl (.pick 0 rfl (.pick 0 rfl (.refl)))))))))))))))))
                      · skip
                        refine P_h rfl rfl (Wh_store rfl rfl rfl (.there (.here)) (.put (.put (.done))) rfl (List.cons_ne_nil _ _) agg39.2 ?_) ?_
                        rotate_left; exact P_stop
                        refine P_x rfl (Wx_val (Ev_loadPK (d := 1) rfl hp1315 (SubE.cons2 (i := 16) rfl (SubE.nil)) rfl agg39) rfl ?_) ?_
                        rotate_left; exact P_stop
                        refine P_h rfl rfl (Wh_store rfl rfl rfl (.here) (.put (.put (.done))) rfl (List.cons_ne_nil _ _) agg39.2 ?_) ?_
                        rotate_left; exact P_stop
                        refine P_done ?_
                        exact T_metP (x1070.Z.Lo, x1070.Z.Hi, x1092.Z.Lo, x1092.Z.Hi) (g1281, g1318) hx1108 trivial (by exact .cons rfl (.cons rfl (.cons rfl (.cons rfl (.cons rfl (.cons rfl (.cons rfl (.cons rfl (.cons rfl (.cons rfl (.cons rfl (.nil)))))))))))) (by exact .pick 0 rfl (.pick 0 rfl (.pick 0 rfl (.pick 0 rfl (.pick 0 rfl (.pick 0 rfl (.pick 0 rfl (.pick 0 rfl (.pick 0 rfl (.pick 0 rfl (.pick 0 rfl (.pick 0 rfl (.pick 0 rfl (.pick 0 rfl (.pick 0 rfl (.pick 0 rfl (.refl)))))))))))))))))
                  · skip
                    refine P_x rfl (Wx_alloc zer39 rfl (fun g1319 => ?_)) ?_
                    rotate_left; exact P_stop
                    refine P_x rfl (Wx_val (Ev_load1 rfl (i := 14) rfl rfl one24) rfl ?_) ?_
                    · skip
                      have hw1327 := Has.low (E := []) ha1' hK
                      obtain ⟨b1320, o1321, j1322, hA1323, hj1324, hl1325, hp1326⟩ := Has.at_idx hw1327 h1093
                      refine P_p rfl rfl (Ev_index rfl rfl hA1323 (j := j1322) hj1324 hl1325 slc24) rfl ?_
                      refine P_p rfl rfl (Ev_field rfl fld41_1 rfl) rfl ?_
                      refine P_x rfl (Wx_val (Ev_loadPK (d := 1) rfl hp1326 (SubE.cons2 (i := 16) rfl (SubE.nil)) rfl agg39) rfl ?_) ?_
                      · skip
                        refine P_h rfl rfl (Wh_store rfl rfl rfl (.there (.here)) (.put (.put (.done))) rfl (List.cons_ne_nil _ _) agg39.2 ?_) ?_
                        rotate_left; exact P_stop
                        refine P_h rfl rfl (Wh_store rfl rfl rfl (.here) (.put (.put (.done))) rfl (List.cons_ne_nil _ _) agg39.2 ?_) ?_
                        rotate_left; exact P_stop
                        refine P_done ?_
                        exact T_metP (x1070.Z.Lo, x1070.Z.Hi, x1092.Z.Lo, x1092.Z.Hi) (g1281, g1319) hx1108 trivial (by exact .cons rfl (.cons rfl (.cons rfl (.cons rfl (.cons rfl (.cons rfl (.cons rfl (.cons rfl (.cons rfl (.cons rfl (.cons rfl (.nil)))))))))))) (by exact .pick 0 rfl (.pick 0 rfl (.pick 0 rfl (.pick 0 rfl (.pick 0 rfl (.pick 0 rfl (.pick 0 rfl (.pick 0 rfl (.pick 0 rfl (.pick 0 rfl (.pick 0 rfl (.pick 0 rfl (.pick 0 rfl (.pick 0 rfl (.pick 0 rfl (.pick 0 rfl (.refl)))))))))))))))))
                      · skip
                        refine P_h rfl rfl (Wh_store rfl rfl rfl (.there (.here)) (.put (.put (.done))) rfl (List.cons_ne_nil _ _) agg39.2 ?_) ?_
                        rotate_left; exact P_stop
                        refine P_x rfl (Wx_val (Ev_loadPK (d := 1) rfl hp1326 (SubE.cons2 (i := 16) rfl (SubE.nil)) rfl agg39) rfl ?_) ?_
                        rotate_left; exact P_stop
                        refine P_h rfl rfl (Wh_store rfl rfl rfl (.here) (.put (.put (.done))) rfl (List.cons_ne_nil _ _) agg39.2 ?_) ?_
                        rotate_left; exact P_stop
                        refine P_done ?_
                        exact T_metP (x1070.Z.Lo, x1070.Z.Hi, x1092.Z.Lo, x1092.Z.Hi) (g1281, g1319) hx1108 trivial (by exact .cons rfl (.cons rfl (.cons rfl (.cons rfl (.cons rfl (.cons rfl (.cons rfl (.cons rfl (.cons rfl (.cons rfl (.cons rfl (.nil)))))))))))) (by exact .pick 0 rfl (.pick 0 rfl (.pick 0 rfl (.pick 0 rfl (.pick 0 rfl (.pick 0 rfl (.pick 0 rfl (.pick 0 rfl (.pick 0 rfl (.pick 0 rfl (.pick 0 rfl (.pick 0 rfl (.pick 0 rfl (.pick 0 rfl (.pick 0 rfl (.pick 0 rfl (.refl)))))))))))))))))
                    · skip
                      refine P_h rfl rfl (Wh_store rfl rfl rfl (.there (.here)) (.put (.put (.done))) rfl (List.cons_ne_nil _ _) agg39.2 ?_) ?_
                      rotate_left; exact P_stop
                      refine P_x rfl (Wx_val (Ev_load1 rfl (i := 14) rfl rfl one24) rfl ?_) ?_
                      rotate_left; exact P_stop
                      have hw1335 := Has.low (E := []) ha1' hK
                      obtain ⟨b1328, o1329, j1330, hA1331, hj1332, hl1333, hp1334⟩ := Has.at_idx hw1335 h1093
                      refine P_p rfl rfl (Ev_index rfl rfl hA1331 (j := j1330) hj1332 hl1333 slc24) rfl ?_
                      refine P_p rfl rfl (Ev_field rfl fld41_1 rfl) rfl ?_
                      refine P_x rfl (Wx_val (Ev_loadPK (d := 1) rfl hp1334 (SubE.cons2 (i := 16) rfl (SubE.nil)) rfl agg39) rfl ?_) ?_
                      rotate_left; exact P_stop
                      refine P_h rfl rfl (Wh_store rfl rfl rfl (.here) (.put (.put (.done))) rfl (List.cons_ne_nil _ _) agg39.2 ?_) ?_
                      rotate_left; exact P_stop
                      refine P_done ?_
                      exact T_metP (x1070.Z.Lo, x1070.Z.Hi, x1092.Z.Lo, x1092.Z.Hi) (g1281, g1319) hx1108 trivial (by exact .cons rfl (.cons rfl (.cons rfl (.cons rfl (.cons rfl (.cons rfl (.cons rfl (.cons rfl (.cons rfl (.cons rfl (.cons rfl (.nil)))))))))))) (by exact .pick 0 rfl (.pick 0 rfl (.pick 0 rfl (.pick 0 rfl (.pick 0 rfl (.pick 0 rfl (.pick 0 rfl (.pick 0 rfl (.pick 0 rfl (.pick 0 rfl (.pick 0 rfl (.pick 0 rfl (.pick 0 rfl (.pick 0 rfl (.pick 0 rfl (.pick 0 rfl (.refl)))))))))))))))))
                · skip
                  refine P_x rfl (Wx_alloc zer39 rfl (fun g1336 => ?_)) ?_
                  rotate_left; exact P_stop
                  refine P_x rfl (Wx_val (Ev_load1 rfl (i := 14) rfl rfl one24) rfl ?_) ?_
                  · skip
                    refine P_x rfl (Wx_val (Ev_loadP0 rfl hp1131 (SubE.cons2 (i := 16) rfl (SubE.nil)) rfl one3) rfl ?_) ?_
                    · skip
                      have hw1344 := Has.low (E := []) ha1' hK
                      obtain ⟨b1337, o1338, j1339, hA1340, hj1341, hl1342, hp1343⟩ := Has.at_idx hw1344 h1093
                      refine P_p rfl rfl (Ev_index rfl rfl hA1340 (j := j1339) hj1341 hl1342 slc24) rfl ?_
                      refine P_p rfl rfl (Ev_field rfl fld41_1 rfl) rfl ?_
                      refine P_x rfl (Wx_val (Ev_loadPK (d := 1) rfl hp1343 (SubE.cons2 (i := 16) rfl (SubE.nil)) rfl agg39) rfl ?_) ?_
                      · skip
                        refine P_h rfl rfl (Wh_store rfl rfl rfl (.there (.here)) (.put (.put (.done))) rfl (List.cons_ne_nil _ _) agg39.2 ?_) ?_
                        rotate_left; exact P_stop
                        refine P_h rfl rfl (Wh_store rfl rfl rfl (.here) (.put (.put (.done))) rfl (List.cons_ne_nil _ _) agg39.2 ?_) ?_
                        rotate_left; exact P_stop
                        refine P_done ?_
                        exact T_metP (x1070.Z.Lo, x1070.Z.Hi, x1092.Z.Lo, x1092.Z.Hi) (g1281, g1336) hx1108 trivial (by exact .cons rfl (.cons rfl (.cons rfl (.cons rfl (.cons rfl (.cons rfl (.cons rfl (.cons rfl (.cons rfl (.cons rfl (.cons rfl (.nil)))))))))))) (by exact .pick 0 rfl (.pick 0 rfl (.pick 0 rfl (.pick 0 rfl (.pick 0 rfl (.pick 0 rfl (.pick 0 rfl (.pick 0 rfl (.pick 0 rfl (.pick 0 rfl (.pick 0 rfl (.pick 0 rfl (.pick 0 rfl (.pick 0 rfl (.pick 0 rfl (.pick 0 rfl (.refl)))))))))))))))))
                      · skip
                        refine P_h rfl rfl (Wh_store rfl rfl rfl (.there (.here)) (.put (.put (.done))) rfl (List.cons_ne_nil _ _) agg39.2 ?_) ?_
                        rotate_left; exact P_stop
                        refine P_x rfl (Wx_val (Ev_loadPK (d := 1) rfl hp1343 (SubE.cons2 (i := 16) rfl (SubE.nil)) rfl agg39) rfl ?_) ?_
                        rotate_left; exact P_stop
                        refine P_h rfl rfl (Wh_store rfl rfl rfl (.here) (.put (.put (.done))) rfl (List.cons_ne_nil _ _) agg39.2 ?_) ?_
                        rotate_left; exact P_stop
                        refine P_done ?_
                        exact T_metP (x1070.Z.Lo, x1070.Z.Hi, x1092.Z.Lo, x1092.Z.Hi) (g1281, g1336) hx1108 trivial (by exact .cons rfl (.cons rfl (.cons rfl (.cons rfl (.cons rfl (.cons rfl (.cons rfl (.cons rfl (.cons rfl (.cons rfl (.cons rfl (.nil)))))))))))) (by exact .pick 0 rfl (.pick 0 rfl (.pick 0 rfl (.pick 0 rfl (.pick 0 rfl (.pick 0 rfl (.pick 0 rfl (.pick 0 rfl (.pick 0 rfl (.pick 0 rfl (.pick 0 rfl (.pick 0 rfl (.pick 0 rfl (.pick 0 rfl (.pick 0 rfl (.pick 0 rfl (.refl)))))))))))))))))
                    · skip
                      refine P_h rfl rfl (Wh_store rfl rfl rfl (.there (.here)) (.put (.put (.done))) rfl (List.cons_ne_nil _ _) agg39.2 ?_) ?_
                      rotate_left; exact P_stop
                      refine P_x rfl (Wx_val (Ev_loadP0 rfl hp1131 (SubE.cons2 (i := 16) rfl (SubE.nil)) rfl one3) rfl ?_) ?_
                      rotate_left; exact P_stop
                      have hw1352 := Has.low (E := []) ha1' hK
                      obtain ⟨b1345, o1346, j1347, hA1348, hj1349, hl1350, hp1351⟩ := Has.at_idx hw1352 h1093
                      refine P_p rfl rfl (Ev_index rfl rfl hA1348 (j := j1347) hj1349 hl1350 slc24) rfl ?_
                      refine P_p rfl rfl (Ev_field rfl fld41_1 rfl) rfl ?_
                      refine P_x rfl (Wx_val (Ev_loadPK (d := 1) rfl hp1351 (SubE.cons2 (i := 16) rfl (SubE.nil)) rfl agg39) rfl ?_) ?_
                      rotate_left; exact P_stop
                      refine P_h rfl rfl (Wh_store rfl rfl rfl (.here) (.put (.put (.done))) rfl (List.cons_ne_nil _ _) agg39.2 ?_) ?_
                      rotate_left; exact P_stop
                      refine P_done ?_
                      exact T_metP (x1070.Z.Lo, x1070.Z.Hi, x1092.Z.Lo, x1092.Z.Hi) (g1281, g1336) hx1108 trivial (by exact .cons rfl (.cons rfl (.cons rfl (.cons rfl (.cons rfl (.cons rfl (.cons rfl (.cons rfl (.cons rfl (.cons rfl (.cons rfl (.nil)))))))))))) (by exact .pick 0 rfl (.pick 0 rfl (.pick 0 rfl (.pick 0 rfl (.pick 0 rfl (.pick 0 rfl (.pick 0 rfl (.pick 0 rfl (.pick 0 rfl (.pick 0 rfl (.pick 0 rfl (.pick 0 rfl (.pick 0 rfl (.pick 0 rfl (.pick 0 rfl (.pick 0 rfl (.refl)))))))))))))))))
                  · skip
                    refine P_x rfl (Wx_val (Ev_loadP0 rfl hp1131 (SubE.cons2 (i := 16) rfl (SubE.nil)) rfl one3) rfl ?_) ?_
                    · skip
                      refine P_x rfl (Wx_val (Ev_load1 rfl (i := 14) rfl rfl one24) rfl ?_) ?_
                      · skip
                        have hw1360 := Has.low (E := []) ha1' hK
                        obtain ⟨b1353, o1354, j1355, hA1356, hj1357, hl1358, hp1359⟩ := Has.at_idx hw1360 h1093
                        refine P_p rfl rfl (Ev_index rfl rfl hA1356 (j := j1355) hj1357 hl1358 slc24) rfl ?_
                        refine P_p rfl rfl (Ev_field rfl fld41_1 rfl) rfl ?_
                        refine P_x rfl (Wx_val (Ev_loadPK (d := 1) rfl hp1359 (SubE.cons2 (i := 16) rfl (SubE.nil)) rfl agg39) rfl ?_) ?_
                        · skip
                          refine P_h rfl rfl (Wh_store rfl rfl rfl (.there (.here)) (.put (.put (.done))) rfl (List.cons_ne_nil _ _) agg39.2 ?_) ?_
                          rotate_left; exact P_stop
                          refine P_h rfl rfl (Wh_store rfl rfl rfl (.here) (.put (.put (.done))) rfl (List.cons_ne_nil _ _) agg39.2 ?_) ?_
                          rotate_left; exact P_stop
                          refine P_done ?_
                          exact T_metP (x1070.Z.Lo, x1070.Z.Hi, x1092.Z.Lo, x1092.Z.Hi) (g1281, g1336) hx1108 trivial (by exact .cons rfl (.cons rfl (.cons rfl (.cons rfl (.cons rfl (.cons rfl (.cons rfl (.cons rfl (.cons rfl (.cons rfl (.cons rfl (.nil)))))))))))) (by exact .pick 0 rfl (.pick 0 rfl (.pick 0 rfl (.pick 0 rfl (.pick 0 rfl (.pick 0 rfl (.pick 0 rfl (.pick 0 rfl (.pick 0 rfl (.pick 0 rfl (.pick 0 rfl (.pick 0 rfl (.pick 0 rfl (.pick 0 rfl (.pick 0 rfl (.pick 0 rfl (.refl)))))))))))))))))
                        · skip
                          refine P_h rfl rfl (Wh_store rfl rfl rfl (.there (.here)) (.put (.put (.done))) rfl (List.cons_ne_nil _ _) agg39.2 ?_) ?_
                          rotate_left; exact P_stop
                          refine P_x rfl (Wx_val (Ev_loadPK (d := 1) rfl hp1359 (SubE.cons2 (i := 16) rfl (SubE.nil)) rfl agg39) rfl ?_) ?_
                          rotate_left; exact P_stop
                          refine P_h rfl rfl (Wh_store rfl rfl rfl (.here) (.put (.put (.done))) rfl (List.cons_ne_nil _ _) agg39.2 ?_) ?_
                          rotate_left; exact P_stop
                          refine P_done ?_
                          exact T_metP (x1070.Z.Lo, x1070.Z.Hi, x1092.Z.Lo, x1092.Z.Hi) (g1281, g1336) hx1108 trivial (by exact .cons rfl (.cons rfl (.cons rfl (.cons rfl (.cons rfl (.cons rfl (.cons rfl (.cons rfl (.cons rfl (.cons rfl (.cons rfl (.nil)))))))))))) (by exact .pick 0 rfl (.pick 0 rfl (.pick 0 rfl (.pick 0 rfl (.pick 0 rfl (.pick 0 rfl (.pick 0 rfl (.pick 0 rfl (.pick 0 rfl (.pick 0 rfl (.pick 0 rfl (.pick 0 rfl (.pick 0 rfl (.pick 0 rfl (.pick 0 rfl (.pick 0 rfl (.refl)))))))))))))))))
                      · skip
                        refine P_h rfl rfl (Wh_store rfl rfl rfl (.there (.here)) (.put (.put (.done))) rfl (List.cons_ne_nil _ _) agg39.2 ?_) ?_
                        rotate_left; exact P_stop
                        refine P_x rfl (Wx_val (Ev_load1 rfl (i := 14) rfl rfl one24) rfl ?_) ?_
                        rotate_left; exact P_stop
                        have hw1368 := Has.low (E := []) ha1' hK
                        obtain ⟨b1361, o1362, j1363, hA1364, hj1365, hl1366, hp1367⟩ := Has.at_idx hw1368 h1093
                        refine P_p rfl rfl (Ev_index rfl rfl hA1364 (j := j1363) hj1365 hl1366 slc24) rfl ?_
                        refine P_p rfl rfl (Ev_field rfl fld41_1 rfl) rfl ?_
                        refine P_x rfl (Wx_val (Ev_loadPK (d := 1) rfl hp1367 (SubE.cons2 (i := 16) rfl (SubE.nil)) rfl agg39) rfl ?_) ?_
                        rotate_left; exact P_stop
                        refine P_h rfl rfl (Wh_store rfl rfl rfl (.here) (.put (.put (.done))) rfl (List.cons_ne_nil _ _) agg39.2 ?_) ?_
                        rotate_left; exact P_stop
                        refine P_done ?_
                        exact T_metP (x1070.Z.Lo, x1070.Z.Hi, x1092.Z.Lo, x1092.Z.Hi) (g1281, g1336) hx1108 trivial (by exact .cons rfl (.cons rfl (.cons rfl (.cons rfl (.cons rfl (.cons rfl (.cons rfl (.cons rfl (.cons rfl (.cons rfl (.cons rfl (.nil)))))))))))) (by exact .pick 0 rfl (.pick 0 rfl (.pick 0 rfl (.pick 0 rfl (.pick 0 rfl (.pick 0 rfl (.pick 0 rfl (.pick 0 rfl (.pick 0 rfl (.pick 0 rfl (.pick 0 rfl (.pick 0 rfl (.pick 0 rfl (.pick 0 rfl (.pick 0 rfl (.pick 0 rfl (.refl)))))))))))))))))
                    · skip
                      refine P_h rfl rfl (Wh_store rfl rfl rfl (.there (.here)) (.put (.put (.done))) rfl (List.cons_ne_nil _ _) agg39.2 ?_) ?_
                      rotate_left; exact P_stop
                      refine P_x rfl (Wx_val (Ev_load1 rfl (i := 14) rfl rfl one24) rfl ?_) ?_
                      · skip
                        refine P_x rfl (Wx_val (Ev_loadP0 rfl hp1131 (SubE.cons2 (i := 16) rfl (SubE.nil)) rfl one3) rfl ?_) ?_
                        rotate_left; exact P_stop
                        have hw1376 := Has.low (E := []) ha1' hK
                        obtain ⟨b1369, o1370, j1371, hA1372, hj1373, hl1374, hp1375⟩ := Has.at_idx hw1376 h1093
                        refine P_p rfl rfl (Ev_index rfl rfl hA1372 (j := j1371) hj1373 hl1374 slc24) rfl ?_
                        refine P_p rfl rfl (Ev_field rfl fld41_1 rfl) rfl ?_
                        refine P_x rfl (Wx_val (Ev_loadPK (d := 1) rfl hp1375 (SubE.cons2 (i := 16) rfl (SubE.nil)) rfl agg39) rfl ?_) ?_
                        rotate_left; exact P_stop
                        refine P_h rfl rfl (Wh_store rfl rfl rfl (.here) (.put (.put (.done))) rfl (List.cons_ne_nil _ _) agg39.2 ?_) ?_
                        rotate_left; exact P_stop
                        refine P_done ?_
                        exact T_metP (x1070.Z.Lo, x1070.Z.Hi, x1092.Z.Lo, x1092.Z.Hi) (g1281, g1336) hx1108 trivial (by exact .cons rfl (.cons rfl (.cons rfl (.cons rfl (.cons rfl (.cons rfl (.cons rfl (.cons rfl (.cons rfl (.cons rfl (.cons rfl (.nil)))))))))))) (by exact .pick 0 rfl (.pick 0 rfl (.pick 0 rfl (.pick 0 rfl (.pick 0 rfl (.pick 0 rfl (.pick 0 rfl (.pick 0 rfl (.pick 0 rfl (.pick 0 rfl (.pick 0 rfl (.pick 0 rfl (.pick 0 rfl (.pick 0 rfl (.pick 0 rfl (.pick 0 rfl (.refl)))))))))))))))))
                      · skip
                        refine P_x rfl (Wx_val (Ev_loadP0 rfl hp1131 (SubE.cons2 (i := 16) rfl (SubE.nil)) rfl one3) rfl ?_) ?_
                        rotate_left; exact P_stop
                        refine P_x rfl (Wx_val (Ev_load1 rfl (i := 14) rfl rfl one24) rfl ?_) ?_
                        rotate_left; exact P_stop
                        have hw1384 := Has.low (E := []) ha1' hK
                        obtain ⟨b1377, o1378, j1379, hA1380, hj1381, hl1382, hp1383⟩ := Has.at_idx hw1384 h1093
                        refine P_p rfl rfl (Ev_index rfl rfl hA1380 (j := j1379) hj1381 hl1382 slc24) rfl ?_
                        refine P_p rfl rfl (Ev_field rfl fld41_1 rfl) rfl ?_
                        refine P_x rfl (Wx_val (Ev_loadPK (d := 1) rfl hp1383 (SubE.cons2 (i := 16) rfl (SubE.nil)) rfl agg39) rfl ?_) ?_
                        rotate_left; exact P_stop
                        refine P_h rfl rfl (Wh_store rfl rfl rfl (.here) (.put (.put (.done))) rfl (List.cons_ne_nil _ _) agg39.2 ?_) ?_
                        rotate_left; exact P_stop
                        refine P_done ?_
                        exact T_metP (x1070.Z.Lo, x1070.Z.Hi, x1092.Z.Lo, x1092.Z.Hi) (g1281, g1336) hx1108 trivial (by exact .cons rfl (.cons rfl (.cons rfl (.cons rfl (.cons rfl (.cons rfl (.cons rfl (.cons rfl (.cons rfl (.cons rfl (.cons rfl (.nil)))))))))))) (by exact .pick 0 rfl (.pick 0 rfl (.pick 0 rfl (.pick 0 rfl (.pick 0 rfl (.pick 0 rfl (.pick 0 rfl (.pick 0 rfl (.pick 0 rfl (.pick 0 rfl (.pick 0 rfl (.pick 0 rfl (.pick 0 rfl (.pick 0 rfl (.pick 0 rfl (.pick 0 rfl (.refl)))))))))))))))))
            · skip
              refine P_x rfl (Wx_alloc zer39 rfl (fun g1385 => ?_)) ?_
              rotate_left; exact P_stop
              refine P_x rfl (Wx_val (Ev_load1 rfl (i := 13) rfl rfl one24) rfl ?_) ?_
              · skip
                refine P_x rfl (Wx_val (Ev_loadP0 rfl hp1131 (SubE.cons2 (i := 15) rfl (SubE.nil)) rfl one3) rfl ?_) ?_
                · skip
                  have hw1393 := Has.low (E := []) ha1' hK
                  obtain ⟨b1386, o1387, j1388, hA1389, hj1390, hl1391, hp1392⟩ := Has.at_idx hw1393 h1093
                  refine P_p rfl rfl (Ev_index rfl rfl hA1389 (j := j1388) hj1390 hl1391 slc24) rfl ?_
                  refine P_p rfl rfl (Ev_field rfl fld41_1 rfl) rfl ?_
                  refine P_x rfl (Wx_val (Ev_loadPK (d := 1) rfl hp1392 (SubE.cons2 (i := 15) rfl (SubE.nil)) rfl agg39) rfl ?_) ?_
                  · skip
                    refine P_x rfl (Wx_alloc zer39 rfl (fun g1394 => ?_)) ?_
                    rotate_left; exact P_stop
                    refine P_h rfl rfl (Wh_store rfl rfl rfl (.here) (.put (.put (.done))) rfl (List.cons_ne_nil _ _) agg39.2 ?_) ?_
                    rotate_left; exact P_stop
                    refine P_h rfl rfl (Wh_store rfl rfl rfl (.there (.here)) (.put (.put (.done))) rfl (List.cons_ne_nil _ _) agg39.2 ?_) ?_
                    rotate_left; exact P_stop
                    refine P_done ?_
                    exact T_metP (x1070.Z.Lo, x1070.Z.Hi, x1092.Z.Lo, x1092.Z.Hi) (g1394, g1385) hx1108 trivial (by exact .cons rfl (.cons rfl (.cons rfl (.cons rfl (.cons rfl (.cons rfl (.cons rfl (.cons rfl (.cons rfl (.cons rfl (.cons rfl (.nil)))))))))))) (by exact .pick 1 rfl (.pick 0 rfl (.pick 0 rfl (.pick 0 rfl (.pick 0 rfl (.pick 0 rfl (.pick 0 rfl (.pick 0 rfl (.pick 0 rfl (.pick 0 rfl (.pick 0 rfl (.pick 0 rfl (.pick 0 rfl (.pick 0 rfl (.pick 0 rfl (.pick 0 rfl (.refl)))))))))))))))))
                  · skip
                    refine P_x rfl (Wx_alloc zer39 rfl (fun g1395 => ?_)) ?_
                    rotate_left; exact P_stop
                    refine P_x rfl (Wx_val (Ev_loadPK (d := 1) rfl hp1392 (SubE.cons2 (i := 16) rfl (SubE.nil)) rfl agg39) rfl ?_) ?_
                    · skip
                      refine P_h rfl rfl (Wh_store rfl rfl rfl (.here) (.put (.put (.done))) rfl (List.cons_ne_nil _ _) agg39.2 ?_) ?_
                      rotate_left; exact P_stop
                      refine P_h rfl rfl (Wh_store rfl rfl rfl (.there (.here)) (.put (.put (.done))) rfl (List.cons_ne_nil _ _) agg39.2 ?_) ?_
                      rotate_left; exact P_stop
                      refine P_done ?_
                      exact T_metP (x1070.Z.Lo, x1070.Z.Hi, x1092.Z.Lo, x1092.Z.Hi) (g1395, g1385) hx1108 trivial (by exact .cons rfl (.cons rfl (.cons rfl (.cons rfl (.cons rfl (.cons rfl (.cons rfl (.cons rfl (.cons rfl (.cons rfl (.cons rfl (.nil)))))))))))) (by exact .pick 1 rfl (.pick 0 rfl (.pick 0 rfl (.pick 0 rfl (.pick 0 rfl (.pick 0 rfl (.pick 0 rfl (.pick 0 rfl (.pick 0 rfl (.pick 0 rfl (.pick 0 rfl (.pick 0 rfl (.pick 0 rfl (.pick 0 rfl (.pick 0 rfl (.pick 0 rfl (.refl)))))))))))))))))
                    · skip
                      refine P_h rfl rfl (Wh_store rfl rfl rfl (.here) (.put (.put (.done))) rfl (List.cons_ne_nil _ _) agg39.2 ?_) ?_
                      rotate_left; exact P_stop
                      refine P_x rfl (Wx_val (Ev_loadPK (d := 1) rfl hp1392 (SubE.cons2 (i := 16) rfl (SubE.nil)) rfl agg39) rfl ?_) ?_
                      rotate_left; exact P_stop
                      refine P_h rfl rfl (Wh_store rfl rfl rfl (.there (.here)) (.put (.put (.done))) rfl (List.cons_ne_nil _ _) agg39.2 ?_) ?_
                      rotate_left; exact P_stop
                      refine P_done ?_
                      exact T_metP (x1070.Z.Lo, x1070.Z.Hi, x1092.Z.Lo, x1092.Z.Hi) (g1395, g1385) hx1108 trivial (by exact .cons rfl (.cons rfl (.cons rfl (.cons rfl (.cons rfl (.cons rfl (.cons rfl (.cons rfl (.cons rfl (.cons rfl (.cons rfl (.nil)))))))))))) (by exact .pick 1 rfl (.pick 0 rfl (.pick 0 rfl (.pick 0 rfl (.pick 0 rfl (.pick 0 rfl (.pick 0 rfl (.pick 0 rfl (.pick 0 rfl (.pick 0 rfl (.pick 0 rfl (.pick 0 rfl (.pick 0 rfl (.pick 0 rfl (.pick 0 rfl (.pick 0 rfl (.refl)))))))))))))))))
                · skip
                  refine P_x rfl (Wx_alloc zer39 rfl (fun g1396 => ?_)) ?_
                  rotate_left; exact P_stop
                  refine P_x rfl (Wx_val (Ev_loadP0 rfl hp1131 (SubE.cons2 (i := 16) rfl (SubE.nil)) rfl one3) rfl ?_) ?_
                  · skip
                    have hw1404 := Has.low (E := []) ha1' hK
                    obtain ⟨b1397, o1398, j1399, hA1400, hj1401, hl1402, hp1403⟩ := Has.at_idx hw1404 h1093
                    refine P_p rfl rfl (Ev_index rfl rfl hA1400 (j := j1399) hj1401 hl1402 slc24) rfl ?_
                    refine P_p rfl rfl (Ev_field rfl fld41_1 rfl) rfl ?_
                    refine P_x rfl (Wx_val (Ev_loadPK (d := 1) rfl hp1403 (SubE.cons2 (i := 16) rfl (SubE.nil)) rfl agg39) rfl ?_) ?_
                    · skip
                      refine P_h rfl rfl (Wh_store rfl rfl rfl (.here) (.put (.put (.done))) rfl (List.cons_ne_nil _ _) agg39.2 ?_) ?_
                      rotate_left; exact P_stop
                      refine P_h rfl rfl (Wh_store rfl rfl rfl (.there (.here)) (.put (.put (.done))) rfl (List.cons_ne_nil _ _) agg39.2 ?_) ?_
                      rotate_left; exact P_stop
                      refine P_done ?_
                      exact T_metP (x1070.Z.Lo, x1070.Z.Hi, x1092.Z.Lo, x1092.Z.Hi) (g1396, g1385) hx1108 trivial (by exact .cons rfl (.cons rfl (.cons rfl (.cons rfl (.cons rfl (.cons rfl (.cons rfl (.cons rfl (.cons rfl (.cons rfl (.cons rfl (.nil)))))))))))) (by exact .pick 1 rfl (.pick 0 rfl (.pick 0 rfl (.pick 0 rfl (.pick 0 rfl (.pick 0 rfl (.pick 0 rfl (.pick 0 rfl (.pick 0 rfl (.pick 0 rfl (.pick 0 rfl (.pick 0 rfl (.pick 0 rfl (.pick 0 rfl (.pick 0 rfl (.pick 0 rfl (.refl)))))))))))))))))
                    · skip
                      refine P_h rfl rfl (Wh_store rfl rfl rfl (.here) (.put (.put (.done))) rfl (List.cons_ne_nil _ _) agg39.2 ?_) ?_
                      rotate_left; exact P_stop
                      refine P_x rfl (Wx_val (Ev_loadPK (d := 1) rfl hp1403 (SubE.cons2 (i := 16) rfl (SubE.nil)) rfl agg39) rfl ?_) ?_
                      rotate_left; exact P_stop
                      refine P_h rfl rfl (Wh_store rfl rfl rfl (.there (.here)) (.put (.put (.done))) rfl (List.cons_ne_nil _ _) agg39.2 ?_) ?_
                      rotate_left; exact P_stop
                      refine P_done ?_
                      exact T_metP (x1070.Z.Lo, x1070.Z.Hi, x1092.Z.Lo, x1092.Z.Hi) (g1396, g1385) hx1108 trivial (by exact .cons rfl (.cons rfl (.cons rfl (.cons rfl (.cons rfl (.cons rfl (.cons rfl (.cons rfl (.cons rfl (.cons rfl (.cons rfl (.nil)))))))))))) (by exact .pick 1 rfl (.pick 0 rfl (.pick 0 rfl (.pick 0 rfl (.pick 0 rfl (.pick 0 rfl (.pick 0 rfl (.pick 0 rfl (.pick 0 rfl (.pick 0 rfl (.pick 0 rfl (.pick 0 rfl (.pick 0 rfl (.pick 0 rfl (.pick 0 rfl (.pick 0 rfl (.refl)))))))))))))))))
                  · skip
                    refine P_h rfl rfl (Wh_store rfl rfl rfl (.here) (.put (.put (.done))) rfl (List.cons_ne_nil _ _) agg39.2 ?_) ?_
                    rotate_left; exact P_stop
                    refine P_x rfl (Wx_val (Ev_loadP0 rfl hp1131 (SubE.cons2 (i := 16) rfl (SubE.nil)) rfl one3) rfl ?_) ?_
                    rotate_left; exact P_stop
                    have hw1412 := Has.low (E := []) ha1' hK
                    obtain ⟨b1405, o1406, j1407, hA1408, hj1409, hl1410, hp1411⟩ := Has.at_idx hw1412 h1093
                    refine P_p rfl rfl (Ev_index rfl rfl hA1408 (j := j1407) hj1409 hl1410 slc24) rfl ?_
                    refine P_p rfl rfl (Ev_field rfl fld41_1 rfl) rfl ?_
                    refine P_x rfl (Wx_val (Ev_loadPK (d := 1) rfl hp1411 (SubE.cons2 (i := 16) rfl (SubE.nil)) rfl agg39) rfl ?_) ?_
                    rotate_left; exact P_stop
                    refine P_h rfl rfl (Wh_store rfl rfl rfl (.there (.here)) (.put (.put (.done))) rfl (List.cons_ne_nil _ _) agg39.2 ?_) ?_
                    rotate_left; exact P_stop
                    refine P_done ?_
                    exact T_metP (x1070.Z.Lo, x1070.Z.Hi, x1092.Z.Lo, x1092.Z.Hi) (g1396, g1385) hx1108 trivial (by exact .cons rfl (.cons rfl (.cons rfl (.cons rfl (.cons rfl (.cons rfl (.cons rfl (.cons rfl (.cons rfl (.cons rfl (.cons rfl (.nil)))))))))))) (by exact .pick 1 rfl (.pick 0 rfl (.pick 0 rfl (.pick 0 rfl (.pick 0 rfl (.pick 0 rfl (.pick 0 rfl (.pick 0 rfl (.pick 0 rfl (.pick 0 rfl (.pick 0 rfl (.pick 0 rfl (.pick 0 rfl (.pick 0 rfl (.pick 0 rfl (.pick 0 rfl (.refl)))))))))))))))))
              · skip
                refine P_x rfl (Wx_val (Ev_loadP0 rfl hp1131 (SubE.cons2 (i := 15) rfl (SubE.nil)) rfl one3) rfl ?_) ?_
                · skip
                  refine P_x rfl (Wx_val (Ev_load1 rfl (i := 13) rfl rfl one24) rfl ?_) ?_
                  · skip
                    have hw1420 := Has.low (E := []) ha1' hK
                    obtain ⟨b1413, o1414, j1415, hA1416, hj1417, hl1418, hp1419⟩ := Has.at_idx hw1420 h1093
                    refine P_p rfl rfl (Ev_index rfl rfl hA1416 (j := j1415) hj1417 hl1418 slc24) rfl ?_
                    refine P_p rfl rfl (Ev_field rfl fld41_1 rfl) rfl ?_
                    refine P_x rfl (Wx_val (Ev_loadPK (d := 1) rfl hp1419 (SubE.cons2 (i := 15) rfl (SubE.nil)) rfl agg39) rfl ?_) ?_
                    · skip
                      refine P_x rfl (Wx_alloc zer39 rfl (fun g1421 => ?_)) ?_
                      rotate_left; exact P_stop
                      refine P_h rfl rfl (Wh_store rfl rfl rfl (.here) (.put (.put (.done))) rfl (List.cons_ne_nil _ _) agg39.2 ?_) ?_
                      rotate_left; exact P_stop
                      refine P_h rfl rfl (Wh_store rfl rfl rfl (.there (.here)) (.put (.put (.done))) rfl (List.cons_ne_nil _ _) agg39.2 ?_) ?_
                      rotate_left; exact P_stop
                      refine P_done ?_
                      exact T_metP (x1070.Z.Lo, x1070.Z.Hi, x1092.Z.Lo, x1092.Z.Hi) (g1421, g1385) hx1108 trivial (by exact .cons rfl (.cons rfl (.cons rfl (.cons rfl (.cons rfl (.cons rfl (.cons rfl (.cons rfl (.cons rfl (.cons rfl (.cons rfl (.nil)))))))))))) (by exact .pick 1 rfl (.pick 0 rfl (.pick 0 rfl (.pick 0 rfl (.pick 0 rfl (.pick 0 rfl (.pick 0 rfl (.pick 0 rfl (.pick 0 rfl (.pick 0 rfl (.pick 0 rfl (.pick 0 rfl (.pick 0 rfl (.pick 0 rfl (.pick 0 rfl (.pick 0 rfl (.refl)))))))))))))))))
                    · skip
                      refine P_x rfl (Wx_alloc zer39 rfl (fun g1422 => ?_)) ?_
                      rotate_left; exact P_stop
                      refine P_x rfl (Wx_val (Ev_loadPK (d := 1) rfl hp1419 (SubE.cons2 (i := 16) rfl (SubE.nil)) rfl agg39) rfl ?_) ?_
                      · skip
                        refine P_h rfl rfl (Wh_store rfl rfl rfl (.here) (.put (.put (.done))) rfl (List.cons_ne_nil _ _) agg39.2 ?_) ?_
                        rotate_left; exact P_stop
                        refine P_h rfl rfl (Wh_store rfl rfl rfl (.there (.here)) (.put (.put (.done))) rfl (List.cons_ne_nil _ _) agg39.2 ?_) ?_
                        rotate_left; exact P_stop
                        refine P_done ?_
                        exact T_metP (x1070.Z.Lo, x1070.Z.Hi, x1092.Z.Lo, x1092.Z.Hi) (g1422, g1385) hx1108 trivial (by exact .cons rfl (.cons rfl (.cons rfl (.cons rfl (.cons rfl (.cons rfl (.cons rfl (.cons rfl (.cons rfl (.cons rfl (.cons rfl (.nil)))))))))))) (by exact .pick 1 rfl (.pick 0 rfl (.pick 0 rfl (.pick 0 rfl (.pick 0 rfl (.pick 0 rfl (.pick 0 rfl (.pick 0 rfl (.pick 0 rfl (.pick 0 rfl (.pick 0 rfl (.pick 0 rfl (.pick 0 rfl (.pick 0 rfl (.pick 0 rfl (.pick 0 rfl (.refl)))))))))))))))))
                      · skip
                        refine P_h rfl rfl (Wh_store rfl rfl rfl (.here) (.put (.put (.done))) rfl (List.cons_ne_nil _ _) agg39.2 ?_) ?_
                        rotate_left; exact P_stop
                        refine P_x rfl (Wx_val (Ev_loadPK (d := 1) rfl hp1419 (SubE.cons2 (i := 16) rfl (SubE.nil)) rfl agg39) rfl ?_) ?_
                        rotate_left; exact P_stop
                        refine P_h rfl rfl (Wh_store rfl rfl rfl (.there (.here)) (.put (.put (.done))) rfl (List.cons_ne_nil _ _) agg39.2 ?_) ?_
                        rotate_left; exact P_stop
                        refine P_done ?_
                        exact T_metP (x1070.Z.Lo, x1070.Z.Hi, x1092.Z.Lo, x1092.Z.Hi) (g1422, g1385) hx1108 trivial (by exact .cons rfl (.cons rfl (.cons rfl (.cons rfl (.cons rfl (.cons rfl (.cons rfl (.cons rfl (.cons rfl (.cons rfl (.cons rfl (.nil)))))))))))) (by exact .pick 1 rfl (.pick 0 rfl (.pick 0 rfl (.pick 0 rfl (.pick 0 rfl (.pick 0 rfl (.pick 0 rfl (.pick 0 rfl (.pick 0 rfl (.pick 0 rfl (.pick 0 rfl (.pick 0 rfl (.pick 0 rfl (.pick 0 rfl (.pick 0 rfl (.pick 0 rfl (.refl)))))))))))))))))
                  · skip
                    refine P_x rfl (Wx_alloc zer39 rfl (fun g1423 => ?_)) ?_
                    rotate_left; exact P_stop
                    refine P_x rfl (Wx_val (Ev_load1 rfl (i := 14) rfl rfl one24) rfl ?_) ?_
                    · skip
                      have hw1431 := Has.low (E := []) ha1' hK
                      obtain ⟨b1424, o1425, j1426, hA1427, hj1428, hl1429, hp1430⟩ := Has.at_idx hw1431 h1093
                      refine P_p rfl rfl (Ev_index rfl rfl hA1427 (j := j1426) hj1428 hl1429 slc24) rfl ?_
                      refine P_p rfl rfl (Ev_field rfl fld41_1 rfl) rfl ?_
                      refine P_x rfl (Wx_val (Ev_loadPK (d := 1) rfl hp1430 (SubE.cons2 (i := 16) rfl (SubE.nil)) rfl agg39) rfl ?_) ?_
                      · skip
                        refine P_h rfl rfl (Wh_store rfl rfl rfl (.here) (.put (.put (.done))) rfl (List.cons_ne_nil _ _) agg39.2 ?_) ?_
                        rotate_left; exact P_stop
                        refine P_h rfl rfl (Wh_store rfl rfl rfl (.there (.here)) (.put (.put (.done))) rfl (List.cons_ne_nil _ _) agg39.2 ?_) ?_
                        rotate_left; exact P_stop
                        refine P_done ?_
                        exact T_metP (x1070.Z.Lo, x1070.Z.Hi, x1092.Z.Lo, x1092.Z.Hi) (g1423, g1385) hx1108 trivial (by exact .cons rfl (.cons rfl (.cons rfl (.cons rfl (.cons rfl (.cons rfl (.cons rfl (.cons rfl (.cons rfl (.cons rfl (.cons rfl (.nil)))))))))))) (by exact .pick 1 rfl (.pick 0 rfl (.pick 0 rfl (.pick 0 rfl (.pick 0 rfl (.pick 0 rfl (.pick 0 rfl (.pick 0 rfl (.pick 0 rfl (.pick 0 rfl (.pick 0 rfl (.pick 0 rfl (.pick 0 rfl (.pick 0 rfl (.pick 0 rfl (.pick 0 rfl (.refl)))))))))))))))))
                      · skip
                        refine P_h rfl rfl (Wh_store rfl rfl rfl (.here) (.put (.put (.done))) rfl (List.cons_ne_nil _ _) agg39.2 ?_) ?_
                        rotate_left; exact P_stop
                        refine P_x rfl (Wx_val (Ev_loadPK (d := 1) rfl hp1430 (SubE.cons2 (i := 16) rfl (SubE.nil)) rfl agg39) rfl ?_) ?_
                        rotate_left; exact P_stop
                        refine P_h rfl rfl (Wh_store rfl rfl rfl (.there (.here)) (.put (.put (.done))) rfl (List.cons_ne_nil _ _) agg39.2 ?_) ?_
                        rotate_left; exact P_stop
                        refine P_done ?_
                        exact T_metP (x1070.Z.Lo, x1070.Z.Hi, x1092.Z.Lo, x1092.Z.Hi) (g1423, g1385) hx1108 trivial (by exact .cons rfl (.cons rfl (.cons rfl (.cons rfl (.cons rfl (.cons rfl (.cons rfl (.cons rfl (.cons rfl (.cons rfl (.cons rfl (.nil)))))))))))) (by exact .pick 1 rfl (.pick 0 rfl (.pick 0 rfl (.pick 0 rfl (.pick 0 rfl (.pick 0 rfl (.pick 0 rfl (.pick 0 rfl (.pick 0 rfl (.pick 0 rfl (.pick 0 rfl (.pick 0 rfl (.pick 0 rfl (.pick 0 rfl (.pick 0 rfl (.pick 0 rfl (.refl)))))))))))))))))
                    · skip
                      refine P_h rfl rfl (Wh_store rfl rfl rfl (.here) (.put (.put (.done))) rfl (List.cons_ne_nil _ _) agg39.2 ?_) ?_
                      rotate_left; exact P_stop
                      refine P_x rfl (Wx_val (Ev_load1 rfl (i := 14) rfl rfl one24) rfl ?_) ?_
                      rotate_left; exact P_stop
                      have hw1439 := Has.low (E := []) ha1' hK
                      obtain ⟨b1432, o1433, j1434, hA1435, hj1436, hl1437, hp1438⟩ := Has.at_idx hw1439 h1093
                      refine P_p rfl rfl (Ev_index rfl rfl hA1435 (j := j1434) hj1436 hl1437 slc24) rfl ?_
                      refine P_p rfl rfl (Ev_field rfl fld41_1 rfl) rfl ?_
                      refine P_x rfl (Wx_val (Ev_loadPK (d := 1) rfl hp1438 (SubE.cons2 (i := 16) rfl (SubE.nil)) rfl agg39) rfl ?_) ?_
                      rotate_left; exact P_stop
                      refine P_h rfl rfl (Wh_store rfl rfl rfl (.there (.here)) (.put (.put (.done))) rfl (List.cons_ne_nil _ _) agg39.2 ?_) ?_
                      rotate_left; exact P_stop
                      refine P_done ?_
                      exact T_metP (x1070.Z.Lo, x1070.Z.Hi, x1092.Z.Lo, x1092.Z.Hi) (g1423, g1385) hx1108 trivial (by exact .cons rfl (.cons rfl (.cons rfl (.cons rfl (.cons rfl (.cons rfl (.cons rfl (.cons rfl (.cons rfl (.cons rfl (.cons rfl (.nil)))))))))))) (by exact .pick 1 rfl (.pick 0 rfl (.pick 0 rfl (.pick 0 rfl (.pick 0 rfl (.pick 0 rfl (.pick 0 rfl (.pick 0 rfl (.pick 0 rfl (.pick 0 rfl (.pick 0 rfl (.pick 0 rfl (.pick 0 rfl (.pick 0 rfl (.pick 0 rfl (.pick 0 rfl (.refl)))))))))))))))))
                · skip
                  refine P_x rfl (Wx_alloc zer39 rfl (fun g1440 => ?_)) ?_
                  rotate_left; exact P_stop
                  refine P_x rfl (Wx_val (Ev_load1 rfl (i := 14) rfl rfl one24) rfl ?_) ?_
                  · skip
                    refine P_x rfl (Wx_val (Ev_loadP0 rfl hp1131 (SubE.cons2 (i := 16) rfl (SubE.nil)) rfl one3) rfl ?_) ?_
                    · skip
                      have hw1448 := Has.low (E := []) ha1' hK
                      obtain ⟨b1441, o1442, j1443, hA1444, hj1445, hl1446, hp1447⟩ := Has.at_idx hw1448 h1093
                      refine P_p rfl rfl (Ev_index rfl rfl hA1444 (j := j1443) hj1445 hl1446 slc24) rfl ?_
                      refine P_p rfl rfl (Ev_field rfl fld41_1 rfl) rfl ?_
                      refine P_x rfl (Wx_val (Ev_loadPK (d := 1) rfl hp1447 (SubE.cons2 (i := 16) rfl (SubE.nil)) rfl agg39) rfl ?_) ?_
                      · skip
                        refine P_h rfl rfl (Wh_store rfl rfl rfl (.here) (.put (.put (.done))) rfl (List.cons_ne_nil _ _) agg39.2 ?_) ?_
                        rotate_left; exact P_stop
                        refine P_h rfl rfl (Wh_store rfl rfl rfl (.there (.here)) (.put (.put (.done))) rfl (List.cons_ne_nil _ _) agg39.2 ?_) ?_
                        rotate_left; exact P_stop
                        refine P_done ?_
                        exact T_metP (x1070.Z.Lo, x1070.Z.Hi, x1092.Z.Lo, x1092.Z.Hi) (g1440, g1385) hx1108 trivial (by exact .cons rfl (.cons rfl (.cons rfl (.cons rfl (.cons rfl (.cons rfl (.cons rfl (.cons rfl (.cons rfl (.cons rfl (.cons rfl (.nil)))))))))))) (by exact .pick 1 rfl (.pick 0 rfl (.pick 0 rfl (.pick 0 rfl (.pick 0 rfl (.pick 0 rfl (.pick 0 rfl (.pick 0 rfl (.pick 0 rfl (.pick 0 rfl (.pick 0 rfl (.pick 0 rfl (.pick 0 rfl (.pick 0 rfl (.pick 0 rfl (.pick 0 rfl (.refl)))))))))))))))))
                      · skip
                        refine P_h rfl rfl (Wh_store rfl rfl rfl (.here) (.put (.put (.done))) rfl (List.cons_ne_nil _ _) agg39.2 ?_) ?_
                        rotate_left; exact P_stop
                        refine P_x rfl (Wx_val (Ev_loadPK (d := 1) rfl hp1447 (SubE.cons2 (i := 16) rfl (SubE.nil)) rfl agg39) rfl ?_) ?_
                        rotate_left; exact P_stop
                        refine P_h rfl rfl (Wh_store rfl rfl rfl (.there (.here)) (.put (.put (.done))) rfl (List.cons_ne_nil _ _) agg39.2 ?_) ?_
                        rotate_left; exact P_stop
                        refine P_done ?_
                        exact T_metP (x1070.Z.Lo, x1070.Z.Hi, x1092.Z.Lo, x1092.Z.Hi) (g1440, g1385) hx1108 trivial (by exact .cons rfl (.cons rfl (.cons rfl (.cons rfl (.cons rfl (.cons rfl (.cons rfl (.cons rfl (.cons rfl (.cons rfl (.cons rfl (.nil)))))))))))) (by exact .pick 1 rfl (.pick 0 rfl (.pick 0 rfl (.pick 0 rfl (.pick 0 rfl (.pick 0 rfl (.pick 0 rfl (.pick 0 rfl (.pick 0 rfl (.pick 0 rfl (.pick 0 rfl (.pick 0 rfl (.pick 0 rfl (.pick 0 rfl (.pick 0 rfl (.pick 0 rfl (.refl)))))))))))))))))
                    · skip
                      refine P_h rfl rfl (Wh_store rfl rfl rfl (.here) (.put (.put (.done))) rfl (List.cons_ne_nil _ _) agg39.2 ?_) ?_
                      rotate_left; exact P_stop
                      refine P_x rfl (Wx_val (Ev_loadP0 rfl hp1131 (SubE.cons2 (i := 16) rfl (SubE.nil)) rfl one3) rfl ?_) ?_
                      rotate_left; exact P_stop
                      have hw1456 := Has.low (E := []) ha1' hK
                      obtain ⟨b1449, o1450, j1451, hA1452, hj1453, hl1454, hp1455⟩ := Has.at_idx hw1456 h1093
                      refine P_p rfl rfl (Ev_index rfl rfl hA1452 (j := j1451) hj1453 hl1454 slc24) rfl ?_
                      refine P_p rfl rfl (Ev_field rfl fld41_1 rfl) rfl ?_
                      refine P_x rfl (Wx_val (Ev_loadPK (d := 1) rfl hp1455 (SubE.cons2 (i := 16) rfl (SubE.nil)) rfl agg39) rfl ?_) ?_
                      rotate_left; exact P_stop
                      refine P_h rfl rfl (Wh_store rfl rfl rfl (.there (.here)) (.put (.put (.done))) rfl (List.cons_ne_nil _ _) agg39.2 ?_) ?_
                      rotate_left; exact P_stop
                      refine P_done ?_
                      exact T_metP (x1070.Z.Lo, x1070.Z.Hi, x1092.Z.Lo, x1092.Z.Hi) (g1440, g1385) hx1108 trivial (by exact .cons rfl (.cons rfl (.cons rfl (.cons rfl (.cons rfl (.cons rfl (.cons rfl (.cons rfl (.cons rfl (.cons rfl (.cons rfl (.nil)))))))))))) (by exact .pick 1 rfl (.pick 0 rfl (.pick 0 rfl (.pick 0 rfl (.pick 0 rfl (.pick 0 rfl (.pick 0 rfl (.pick 0 rfl (.pick 0 rfl (.pick 0 rfl (.pick 0 rfl (.pick 0 rfl (.pick 0 rfl (.pick 0 rfl (.pick 0 rfl (.pick 0 rfl (.refl)))))))))))))))))
                  · skip
                    refine P_x rfl (Wx_val (Ev_loadP0 rfl hp1131 (SubE.cons2 (i := 16) rfl (SubE.nil)) rfl one3) rfl ?_) ?_
                    · skip
                      refine P_x rfl (Wx_val (Ev_load1 rfl (i := 14) rfl rfl one24) rfl ?_) ?_
                      · skip
                        have hw1464 := Has.low (E := []) ha1' hK
                        obtain ⟨b1457, o1458, j1459, hA1460, hj1461, hl1462, hp1463⟩ := Has.at_idx hw1464 h1093
                        refine P_p rfl rfl (Ev_index rfl rfl hA1460 (j := j1459) hj1461 hl1462 slc24) rfl ?_
                        refine P_p rfl rfl (Ev_field rfl fld41_1 rfl) rfl ?_
                        refine P_x rfl (Wx_val (Ev_loadPK (d := 1) rfl hp1463 (SubE.cons2 (i := 16) rfl (SubE.nil)) rfl agg39) rfl ?_) ?_
                        · skip
                          refine P_h rfl rfl (Wh_store rfl rfl rfl (.here) (.put (.put (.done))) rfl (List.cons_ne_nil _ _) agg39.2 ?_) ?_
                          rotate_left; exact P_stop
                          refine P_h rfl rfl (Wh_store rfl rfl rfl (.there (.here)) (.put (.put (.done))) rfl (List.cons_ne_nil _ _) agg39.2 ?_) ?_
                          rotate_left; exact P_stop
                          refine P_done ?_
                          exact T_metP (x1070.Z.Lo, x1070.Z.Hi, x1092.Z.Lo, x1092.Z.Hi) (g1440, g1385) hx1108 trivial (by exact .cons rfl (.cons rfl (.cons rfl (.cons rfl (.cons rfl (.cons rfl (.cons rfl (.cons rfl (.cons rfl (.cons rfl (.cons rfl (.nil)))))))))))) (by exact .pick 1 rfl (.pick 0 rfl (.pick 0 rfl (.pick 0 rfl (.pick 0 rfl (.pick 0 rfl (.pick 0 rfl (.pick 0 rfl (.pick 0 rfl (.pick 0 rfl (.pick 0 rfl (.pick 0 rfl (.pick 0 rfl (.pick 0 rfl (.pick 0 rfl (.pick 0 rfl (.refl)))))))))))))))))
                        · skip
                          refine P_h rfl rfl (Wh_store rfl rfl rfl (.here) (.put (.put (.done))) rfl (List.cons_ne_nil _ _) agg39.2 ?_) ?_
                          rotate_left; exact P_stop
                          refine P_x rfl (Wx_val (Ev_loadPK (d := 1) rfl hp1463 (SubE.cons2 (i := 16) rfl (SubE.nil)) rfl agg39) rfl ?_) ?_
                          rotate_left; exact P_stop
                          refine P_h rfl rfl (Wh_store rfl rfl rfl (.there (.here)) (.put (.put (.done))) rfl (List.cons_ne_nil _ _) agg39.2 ?_) ?_
                          rotate_left; exact P_stop
                          refine P_done ?_
                          exact T_metP (x1070.Z.Lo, x1070.Z.Hi, x1092.Z.Lo, x1092.Z.Hi) (g1440, g1385) hx1108 trivial (by exact .cons rfl (.cons rfl (.cons rfl (.cons rfl (.cons rfl (.cons rfl (.cons rfl (.cons rfl (.cons rfl (.cons rfl (.cons rfl (.nil)))))))))))) (by exact .pick 1 rfl (.pick 0 rfl (.pick 0 rfl (.pick 0 rfl (.pick 0 rfl (.pick 0 rfl (.pick 0 rfl (.pick 0 rfl (.pick 0 rfl (.pick 0 rfl (.pick 0 rfl (.pick 0 rfl (.pick 0 rfl (.pick 0 rfl (.pick 0 rfl (.pick 0 rfl (.refl)))))))))))))))))
                      · skip
                        refine P_h rfl rfl (Wh_store rfl rfl rfl (.here) (.put (.put (.done))) rfl (List.cons_ne_nil _ _) agg39.2 ?_) ?_
                        rotate_left; exact P_stop
                        refine P_x rfl (Wx_val (Ev_load1 rfl (i := 14) rfl rfl one24) rfl ?_) ?_
                        rotate_left; exact P_stop
                        have hw1472 := Has.low (E := []) ha1' hK
                        obtain ⟨b1465, o1466, j1467, hA1468, hj1469, hl1470, hp1471⟩ := Has.at_idx hw1472 h1093
                        refine P_p rfl rfl (Ev_index rfl rfl hA1468 (j := j1467) hj1469 hl1470 slc24) rfl ?_
                        refine P_p rfl rfl (Ev_field rfl fld41_1 rfl) rfl ?_
                        refine P_x rfl (Wx_val (Ev_loadPK (d := 1) rfl hp1471 (SubE.cons2 (i := 16) rfl (SubE.nil)) rfl agg39) rfl ?_) ?_
                        rotate_left; exact P_stop
                        refine P_h rfl rfl (Wh_store rfl rfl rfl (.there (.here)) (.put (.put (.done))) rfl (List.cons_ne_nil _ _) agg39.2 ?_) ?_
                        rotate_left; exact P_stop
                        refine P_done ?_
                        exact T_metP (x1070.Z.Lo, x1070.Z.Hi, x1092.Z.Lo, x1092.Z.Hi) (g1440, g1385) hx1108 trivial (by exact .cons rfl (.cons rfl (.cons rfl (.cons rfl (.cons rfl (.cons rfl (.cons rfl (.cons rfl (.cons rfl (.cons rfl (.cons rfl (.nil)))))))))))) (by exact .pick 1 rfl (.pick 0 rfl (.pick 0 rfl (.pick 0 rfl (.pick 0 rfl (.pick 0 rfl (.pick 0 rfl (.pick 0 rfl (.pick 0 rfl (.pick 0 rfl (.pick 0 rfl (.pick 0 rfl (.pick 0 rfl (.pick 0 rfl (.pick 0 rfl (.pick 0 rfl (.refl)))))))))))))))))
                    · skip
                      refine P_h rfl rfl (Wh_store rfl rfl rfl (.here) (.put (.put (.done))) rfl (List.cons_ne_nil _ _) agg39.2 ?_) ?_
                      rotate_left; exact P_stop
                      refine P_x rfl (Wx_val (Ev_load1 rfl (i := 14) rfl rfl one24) rfl ?_) ?_
                      · skip
                        refine P_x rfl (Wx_val (Ev_loadP0 rfl hp1131 (SubE.cons2 (i := 16) rfl (SubE.nil)) rfl one3) rfl ?_) ?_
                        rotate_left; exact P_stop
                        have hw1480 := Has.low (E := []) ha1' hK
                        obtain ⟨b1473, o1474, j1475, hA1476, hj1477, hl1478, hp1479⟩ := Has.at_idx hw1480 h1093
                        refine P_p rfl rfl (Ev_index rfl rfl hA1476 (j := j1475) hj1477 hl1478 slc24) rfl ?_
                        refine P_p rfl rfl (Ev_field rfl fld41_1 rfl) rfl ?_
                        refine P_x rfl (Wx_val (Ev_loadPK (d := 1) rfl hp1479 (SubE.cons2 (i := 16) rfl (SubE.nil)) rfl agg39) rfl ?_) ?_
                        rotate_left; exact P_stop
                        refine P_h rfl rfl (Wh_store rfl rfl rfl (.there (.here)) (.put (.put (.done))) rfl (List.cons_ne_nil _ _) agg39.2 ?_) ?_
                        rotate_left; exact P_stop
                        refine P_done ?_
                        exact T_metP (x1070.Z.Lo, x1070.Z.Hi, x1092.Z.Lo, x1092.Z.Hi) (g1440, g1385) hx1108 trivial (by exact .cons rfl (.cons rfl (.cons rfl (.cons rfl (.cons rfl (.cons rfl (.cons rfl (.cons rfl (.cons rfl (.cons rfl (.cons rfl (.nil)))))))))))) (by exact .pick 1 rfl (.pick 0 rfl (.pick 0 rfl (.pick 0 rfl (.pick 0 rfl (.pick 0 rfl (.pick 0 rfl (.pick 0 rfl (.pick 0 rfl (.pick 0 rfl (.pick 0 rfl (.pick 0 rfl (.pick 0 rfl (.pick 0 rfl (.pick 0 rfl (.pick 0 rfl (.refl)))))))))))))))))
                      · skip
                        refine P_x rfl (Wx_val (Ev_loadP0 rfl hp1131 (SubE.cons2 (i := 16) rfl (SubE.nil)) rfl one3) rfl ?_) ?_
                        rotate_left; exact P_stop
                        refine P_x rfl (Wx_val (Ev_load1 rfl (i := 14) rfl rfl one24) rfl ?_) ?_
                        rotate_left; exact P_stop
                        have hw1488 := Has.low (E := []) ha1' hK
                        obtain ⟨b1481, o1482, j1483, hA1484, hj1485, hl1486, hp1487⟩ := Has.at_idx hw1488 h1093
                        refine P_p rfl rfl (Ev_index rfl rfl hA1484 (j := j1483) hj1485 hl1486 slc24) rfl ?_
                        refine P_p rfl rfl (Ev_field rfl fld41_1 rfl) rfl ?_
                        refine P_x rfl (Wx_val (Ev_loadPK (d := 1) rfl hp1487 (SubE.cons2 (i := 16) rfl (SubE.nil)) rfl agg39) rfl ?_) ?_
                        rotate_left; exact P_stop
                        refine P_h rfl rfl (Wh_store rfl rfl rfl (.there (.here)) (.put (.put (.done))) rfl (List.cons_ne_nil _ _) agg39.2 ?_) ?_
                        rotate_left; exact P_stop
                        refine P_done ?_
                        exact T_metP (x1070.Z.Lo, x1070.Z.Hi, x1092.Z.Lo, x1092.Z.Hi) (g1440, g1385) hx1108 trivial (by exact .cons rfl (.cons rfl (.cons rfl (.cons rfl (.cons rfl (.cons rfl (.cons rfl (.cons rfl (.cons rfl (.cons rfl (.cons rfl (.nil)))))))))))) (by exact .pick 1 rfl (.pick 0 rfl (.pick 0 rfl (.pick 0 rfl (.pick 0 rfl (.pick 0 rfl (.pick 0 rfl (.pick 0 rfl (.pick 0 rfl (.pick 0 rfl (.pick 0 rfl (.pick 0 rfl (.pick 0 rfl (.pick 0 rfl (.pick 0 rfl (.pick 0 rfl (.refl)))))))))))))))))
    · have hx1058 := ite_f h1056 hx1052
      refine T_condF rfl ?_
      refine T_exit ?_
      refine T_outX ?_
      obtain rfl := exit_eq ht1052 hx1058
      refine T_outX ?_
      refine T_here ?_
      exact T_metP (s1052.1, s1052.2.1, s1052.2.2.1, s1052.2.2.2.1, s1052.2.2.2.2.1, s1052.2.2.2.2.2.1) (y1052.1, y1052.2.1, y1052.2.2.1, y1052.2.2.2.1, y1052.2.2.2.2.1, y1052.2.2.2.2.2.1, y1052.2.2.2.2.2.2.1, y1052.2.2.2.2.2.2.2.1, y1052.2.2.2.2.2.2.2.2) ho1052 ((by exact ⟨lo1053, Has.len' hs1054, Has.len' hs1055, trivial⟩)) (by exact .cons rfl (.cons rfl (.cons rfl (.cons rfl (.nil))))) (by exact .pick 0 rfl (.pick 3 rfl (.pick 3 rfl (.pick 3 rfl (.pick 3 rfl (.pick 3 rfl (.pick 3 rfl (.pick 3 rfl (.pick 3 rfl (.drop 0 rfl (.drop 0 rfl (.drop 0 rfl (.drop 0 rfl (.drop 0 rfl (.refl)))))))))))))))
end Go.Proofs.Ytjhknbpiaikblaa
