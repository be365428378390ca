/- Walks of the program, with their plain functions: the law ModelHoles. -/
import Derived.Test.YtjhknbpiaikblaaN11
namespace Go.Proofs.Ytjhknbpiaikblaa
open Go Go.RowKit
theorem slc82 : SliceOf Try.prog 82 86 3 := .mk Try.underlying82 (show Try.prog.info? 86 = some Try.t86 from by kernel_rfl) (by kernel_rfl)
theorem fld86_0 : FieldOf Try.prog 86 0 0 := .mk Try.underlying86 rfl rfl (show Try.prog.info? 3 = some Try.t3 from by kernel_rfl) (show Try.t3.size = 1 from by kernel_rfl) rfl
theorem fld86_1 : FieldOf Try.prog 86 1 1 := .mk Try.underlying86 rfl rfl (show Try.prog.info? 27 = some Try.t27 from by kernel_rfl) (show Try.t27.size = 1 from by kernel_rfl) rfl
noncomputable def lidarlaw09_ModelHoles_l15 (r11 : (List S_api_Hole) × Int) (s323 : (List Bool) × Int × Int) (p0 : S_api_Grid) (x413 : Int) : ((List Bool) × Int) → Option (Sum ((List Bool) × Int) (Sum ((List Bool) × Int) Bool)) := fun s518 =>
 bnd (idx r11.1 s323.2.2) fun x519 =>
 if s518.2 < ((((x519.Nodes).length : Nat) : Int)) then (bnd (idx r11.1 s323.2.2) fun x538 =>
 bnd (idx x538.Nodes s518.2) fun x554 =>
 jn (fun (s55 : Bool) =>
 if s55 = true then (some (.inr (.inr (false))))
 else (bnd (idx s518.1 x554) fun x601 =>
 some (.inl (setI s518.1 x554 true, w64 (s518.2 + 1)))))
 (fun j55 => if x554 < 0 then (j55 true)
 else (if ((((s518.1).length : Nat) : Int)) ≤ x554 then (j55 true)
 else (bnd (idx s518.1 x554) fun x571 =>
 if x571 = true then (j55 true)
 else (bnd (idx p0.Cells x554) fun x585 =>
 j55 (!(x585.Void)))))))
 else (some (.inr (.inl (s518.1, x413))))
noncomputable def lidarlaw09_ModelHoles_l9 (r11 : (List S_api_Hole) × Int) (p0 : S_api_Grid) : ((List Bool) × Int × Int) → Option (Sum ((List Bool) × Int × Int) (Sum (List Bool) Bool)) := fun s323 =>
 if s323.2.2 < ((((r11.1).length : Nat) : Int)) then (jn (fun (s37 : (List Bool) × Int) =>
 some (.inl (s37.1, s37.2, w64 (s323.2.2 + 1))))
 (fun j37 => jn (fun (s39 : Bool) =>
 if s39 = true then (some (.inr (.inr (false))))
 else (bnd (idx r11.1 s323.2.2) fun x397 =>
 bnd (idx x397.Nodes 0) fun x413 =>
 bnd (lfix (lidarlaw09_ModelHoles_l15 r11 s323 p0 x413) (s323.1, 0)) fun t518 =>
 (match t518 with
 | (.inl z518) => j37 z518
 | (.inr (z518)) => some (.inr (.inr (z518)))
 )))
 (fun j39 => bnd (idx r11.1 s323.2.2) fun x327 =>
 if x327.Name = (w64 (s323.2.2 + 1)) then (bnd (idx r11.1 s323.2.2) fun x346 =>
 if ((((x346.Nodes).length : Nat) : Int)) = 0 then (j39 true)
 else (bnd (idx r11.1 s323.2.2) fun x365 =>
 bnd (idx x365.Nodes 0) fun x381 =>
 j39 (decide (x381 ≤ s323.2.1))))
 else (j39 true))))
 else (some (.inr (.inl s323.1)))
noncomputable def lidarlaw09_ModelHoles_l22 (s11 : List Bool) (p0 : S_api_Grid) : Int → Option (Sum Int (Sum Unit Bool)) := fun s647 =>
 if s647 < ((((s11).length : Nat) : Int)) then (bnd (idx p0.Cells s647) fun x651 =>
 bnd (idx s11 s647) fun x662 =>
 if ((x651.Void) == (x662)) = true then (some (.inl (w64 (s647 + 1))))
 else (some (.inr (.inr (false)))))
 else (some (.inr (.inl ())))
noncomputable def lidarlaw09_ModelHoles (p0 : S_api_Grid) : Option Bool :=
 bnd (lidarlaw09_good p0) fun r2 =>
 if r2 = true then (bnd (model_Voids p0) fun r11 =>
 if r11.2 = 0 then (gd ((0 : Int) ≤ ((((p0.Cells).length : Nat) : Int)) ∧ 1 * Int.toNat ((((p0.Cells).length : Nat) : Int)) ≤ 140737488355328) <|
 jn (fun (s11 : List Bool) =>
 jn (fun (s57 : Unit) =>
 bnd (lidarlaw09_first) fun r678 =>
 some r678)
 (fun j57 => bnd (lfix (lidarlaw09_ModelHoles_l22 s11 p0) 0) fun t647 =>
 (match t647 with
 | (.inl z647) => j57 z647
 | (.inr (z647)) => some z647
 )))
 (fun j11 => bnd (lfix (lidarlaw09_ModelHoles_l9 r11 p0) (List.replicate (Int.toNat ((((p0.Cells).length : Nat) : Int))) (false : Bool), -1, 0)) fun t323 =>
 (match t323 with
 | (.inl z323) => j11 z323
 | (.inr (z323)) => some z323
 )))
 else (some false))
 else (bnd (lidarlaw09_first) fun r7 =>
 some r7)
set_option maxRecDepth 100000 in
theorem lidarlaw09_ModelHoles_ok (p0 : S_api_Grid) {K : List Ent} {A0_0 : Option Addr} {c0_0 : Nat} (ha0 : Has K A0_0 (p0.Cells).length c0_0 3 e_api_Cell (p0.Cells)) {r : Bool} (hx : lidarlaw09_ModelHoles p0 = some r) (w : World) (hK : ∀ e ∈ K, Ent.ok w e) : CtL Try.prog 16 [.agg #[.int .i64 (p0.Raster.X0), .int .i64 (p0.Raster.Y0), .int .i64 (p0.Raster.Step), .int .i64 (p0.Raster.NX), .int .i64 (p0.Raster.NY), .slice (A0_0) ((p0.Cells).length) (c0_0)]] w fun v Ln => v = .bool (r) ∧ Ln = [] ∧ True := by
  have ha0' := Has.up0 ha0
  refine CtL.mk 129 Try.func16 rfl Try.ntmps16 (by kernel_rfl) rfl ?_
  show T 129 _ [(0, .agg #[.int .i64 (p0.Raster.X0), .int .i64 (p0.Raster.Y0), .int .i64 (p0.Raster.Step), .int .i64 (p0.Raster.NX), .int .i64 (p0.Raster.NY), .slice (A0_0) ((p0.Cells).length) (c0_0)])] _
  unfold lidarlaw09_ModelHoles at hx
  refine T_seq ?_
  refine T_reg ?_
  refine T_x (Wx_box rfl rfl rfl (fun g1 => ?_))
  refine T_val (Ev_assign rfl) rfl ?_
  refine T_nil ?_
  refine T_next ?_
  refine T_seq ?_
  refine T_seq ?_
  refine T_reg ?_
  refine T_val (Ev_loadK rfl (i := 0) rfl rfl agg26) rfl ?_
  obtain ⟨r2, h3, hx4⟩ := bnd_some hx
  refine T_x (Wx_callL rfl (fun w1 hw1 => lidarlaw09_good_ok p0 (Has.len' ha0') h3 w1 (okApp (K := K) (K2 := []) hK (by exact (SubE.cons2 (i := 1) rfl (SubE.nil))) (by exact (SubE.nil)) hw1)) rfl ?_)
  rintro _ _ hlo ⟨rfl, rfl, -⟩
  refine T_app0 ?_
  refine T_val (Ev_not rfl) rfl ?_
  refine T_nil ?_
  refine T_next ?_
  refine T_caseNB (s := 13) rfl (fun h5 => ?_) (fun h5 => ?_)
  · have hx6 := ite_bf h5 hx4
    refine T_condT rfl ?_
    refine T_seq ?_
    refine T_reg ?_
    obtain ⟨r7, h8, hx9⟩ := bnd_some hx6
    refine T_x (Wx_callL rfl (fun w1 hw1 => lidarlaw09_first_ok  h8 w1) rfl ?_)
    rintro _ _ hlo ⟨rfl, rfl, -⟩
    refine T_app0 ?_
    refine T_val (Ev_assign rfl) rfl ?_
    refine T_nil ?_
    refine T_next ?_
    refine T_retc ?_
    refine T_outR ?_
    obtain rfl := Option.some.inj hx9
    exact T_retP (rs := [.tmp 2]) Try.results16 (.tmp rfl (.nil)) (Ln := []) ⟨rfl, rfl, trivial⟩ (loNil) (by exact .drop 0 rfl (.refl))
  · have hx10 := ite_t h5 hx4
    refine T_condF rfl ?_
    refine T_skip ?_
    refine T_next ?_
    refine T_seq ?_
    refine T_reg ?_
    refine T_val (Ev_loadK rfl (i := 0) rfl rfl agg26) rfl ?_
    obtain ⟨r11, h12, hx13⟩ := bnd_some hx10
    refine T_x (Wx_callL rfl (fun w1 hw1 => model_Voids_ok p0 (Has.len' ha0') h12 w1 (okApp (K := K) (K2 := []) hK (by exact (SubE.cons2 (i := 1) rfl (SubE.nil))) (by exact (SubE.nil)) hw1)) rfl ?_)
    rintro _ _ hlo ⟨A14, c15, e16, e17, e18, rfl, rfl, hs19, -⟩
    have lo20 := hlo e16 (by simp)
    have lo21 := hlo e17 (by simp)
    have lo22 := hlo e18 (by simp)
    refine T_app3 ?_
    have hs23 : HasN (K ++ [e16, e17, e18]) _ _ _ _ _ _ := HasN.assoc hs19
    refine T_val (Ev_move rfl) rfl ?_
    refine T_val (Ev_extract rfl rfl) rfl ?_
    refine T_val (Ev_extract rfl rfl) rfl ?_
    refine T_val (Ev_assign rfl) rfl ?_
    refine T_val (Ev_assign rfl) rfl ?_
    refine T_nil ?_
    refine T_next ?_
    refine T_seq ?_
    refine T_seq ?_
    refine T_reg ?_
    refine T_val (Ev_move rfl) rfl ?_
    refine T_val (Ev_neq rfl rfl) rfl ?_
    refine T_nil ?_
    refine T_next ?_
    refine T_caseNP (s := 21) rfl (fun h24 => ?_) (fun h24 => ?_)
    · have hx25 := ite_f h24 hx13
      refine T_condT rfl ?_
      refine T_seq ?_
      refine T_reg ?_
      refine T_val (Ev_assign rfl) rfl ?_
      refine T_nil ?_
      refine T_next ?_
      refine T_retc ?_
      refine T_outR ?_
      obtain rfl := Option.some.inj hx25
      exact T_retP (rs := [.tmp 2]) Try.results16 (.tmp rfl (.nil)) (Ln := []) ⟨rfl, rfl, trivial⟩ (loNil) (by exact .drop 0 rfl (.drop 0 rfl (.drop 0 rfl (.drop 0 rfl (.refl)))))
    · have hx26 := ite_t h24 hx13
      refine T_condF rfl ?_
      refine T_skip ?_
      refine T_next ?_
      refine T_seq ?_
      refine T_reg ?_
      refine T_val (Ev_field rfl fld26_1 rfl) rfl ?_
      refine T_val (Ev_load1 rfl (i := 3) rfl rfl one24) rfl ?_
      refine T_val (Ev_len rfl 41 Try.underlying24) rfl ?_
      obtain ⟨h28, hx29⟩ := gd_some hx26
      refine T_x (Wx_makeP e_bool (false) (z := .bool (false)) rfl rfl rfl h28.1 Try.underlying37 (show Try.prog.info? 4 = some Try.t4 from by kernel_rfl) (by kernel_rfl) rfl rfl (by kernel_rfl) (show 1 * _ ≤ _ from h28.2) (by decide) rfl (fun A27 => ?_))
      refine T_val (Ev_assign rfl) rfl ?_
      refine T_nil ?_
      refine T_next ?_
      refine T_seq ?_
      refine T_reg ?_
      refine T_val (Ev_assign rfl) rfl ?_
      refine T_nil ?_
      refine T_next ?_
      obtain ⟨j11, hj11, hx29⟩ := jn_some hx29
      refine T_cutP (τ := List Bool) (γ := (Option Addr) × Nat) (J := j11) (out := r) (fun s11 y11 => [(1, .pointer (some ⟨g1, 0, none⟩)), (5, .slice (y11.1) ((s11).length) (y11.2))]) (fun s11 y11 => [.r (y11.1) ((s11).length) (y11.2) 4 1 ((s11).flatMap e_bool), .m g1 26 [.int .i64 (p0.Raster.X0), .int .i64 (p0.Raster.Y0), .int .i64 (p0.Raster.Step), .int .i64 (p0.Raster.NX), .int .i64 (p0.Raster.NY), .slice (A0_0) ((p0.Cells).length) (c0_0)]] ++ [.old w]) (fun s11 y11 => True) ?_ ?_
      · intro s11 y11 hx616 hG617
        subst hj11
        obtain ⟨j57, hj57, hx616⟩ := jn_some hx616
        refine T_cutP (τ := Unit) (γ := Unit) (J := j57) (out := r) (fun s57 y57 => []) (fun s57 y57 => [] ++ [.old w]) (fun s57 y57 => True) ?_ ?_
        · intro s57 y57 hx676 hG677
          subst hj57
          refine T_seq ?_
          refine T_reg ?_
          obtain ⟨r678, h679, hx680⟩ := bnd_some hx676
          refine T_x (Wx_callL rfl (fun w1 hw1 => lidarlaw09_first_ok  h679 w1) rfl ?_)
          rintro _ _ hlo ⟨rfl, rfl, -⟩
          refine T_app0 ?_
          refine T_val (Ev_assign rfl) rfl ?_
          refine T_nil ?_
          refine T_next ?_
          refine T_retc ?_
          obtain rfl := Option.some.inj hx680
          exact T_retP (rs := [.tmp 2]) Try.results16 (.tmp rfl (.nil)) (Ln := []) ⟨rfl, rfl, trivial⟩ (loNil) (by exact .refl)
        · skip
          refine T_seq ?_
          refine T_reg ?_
          refine T_val (Ev_assign rfl) rfl ?_
          refine T_nil ?_
          refine T_next ?_
          refine T_block ?_
          obtain ⟨t647, hl647, ho647⟩ := bnd_some hx616
          refine T_loopP (σ := Int) (γ := Unit) hl647 (fun s647 y647 => [(1, .pointer (some ⟨g1, 0, none⟩)), (5, .slice (y11.1) ((s11).length) (y11.2)), (10, .int .i64 (s647))]) (fun s647 y647 => [.r (y11.1) ((s11).length) (y11.2) 4 1 ((s11).flatMap e_bool), .m g1 26 [.int .i64 (p0.Raster.X0), .int .i64 (p0.Raster.Y0), .int .i64 (p0.Raster.Step), .int .i64 (p0.Raster.NX), .int .i64 (p0.Raster.NY), .slice (A0_0) ((p0.Cells).length) (c0_0)]] ++ [.old w]) (fun s647 y647 => True) () trivial (by exact .cons rfl (.cons rfl (.cons rfl (.nil)))) (by exact .pick 0 rfl (.pick 0 rfl (.refl))) ?_
          intro s647 y647 hG647 x647 hx647 ht647
          unfold lidarlaw09_ModelHoles_l22 at hx647
          refine T_seq ?_
          refine T_seq ?_
          refine T_reg ?_
          refine T_val (Ev_move rfl) rfl ?_
          refine T_val (Ev_move rfl) rfl ?_
          refine T_val (Ev_len rfl 4 Try.underlying37) rfl ?_
          refine T_val (Ev_lss rfl rfl) rfl ?_
          refine T_nil ?_
          refine T_next ?_
          refine T_caseP (s := 114) rfl (fun h648 => ?_) (fun h648 => ?_)
          · have hx649 := ite_t h648 hx647
            refine T_condT rfl ?_
            refine T_skip ?_
            refine T_next ?_
            refine T_seq ?_
            refine T_block ?_
            refine T_seq ?_
            refine T_draw [0, 1, 0, 0, 0, 1, 0, 0, 0, 1, 0] [[], [0], [], [0, 1, 2], [0, 1, 2, 3], [0, 1, 2, 3, 4], [], [], [6, 7], [6, 7, 8], [0, 1, 2, 3, 4, 5, 6, 7, 8, 9]] (.q 0 (.q 1 (.q 2 (.q 3 (.q 4 (.q 5 (.q 6 (.q 7 (.q 8 (.q 9 (.q 10 (.done)))))))))))) mixed (by kernel_rfl) (by kernel_rfl) ?_
            refine P_p rfl rfl (Ev_field rfl fld26_1 rfl) rfl ?_
            refine P_q rfl rfl (Ev_load1 rfl (i := 1) rfl rfl one24) rfl ?_
            refine P_p rfl rfl (Ev_move rfl) rfl ?_
            obtain ⟨x651, h652, hx653⟩ := bnd_some hx649
            have hw661 := Has.low (E := []) ha0' hK
            obtain ⟨b654, o655, j656, hA657, hj658, hl659, hp660⟩ := Has.at_idx hw661 h652
            refine P_p rfl rfl (Ev_index rfl rfl hA657 (j := j656) hj658 hl659 slc24) rfl ?_
            refine P_p rfl rfl (Ev_field rfl fld41_0 rfl) rfl ?_
            refine P_q rfl rfl (Ev_loadP1 (d := 0) rfl hp660 (SubE.cons2 (i := 2) rfl (SubE.nil)) rfl one4) rfl ?_
            refine P_p rfl rfl (Ev_move rfl) rfl ?_
            refine P_p rfl rfl (Ev_move rfl) rfl ?_
            obtain ⟨x662, h663, hx664⟩ := bnd_some hx653
            refine T_idxR (k := 0) rfl (by decide) (fun _ => rfl) h663 (fun b665 j667 hA668 hj669 hl670 hm672 hp671 => ?_)
            refine P_p rfl rfl (Ev_index rfl rfl hA668 (j := j667) hj669 hl670 slc37) rfl ?_
            refine P_q rfl rfl (Ev_loadP0 rfl hp671 (SubE.cons2 (i := 0) rfl (SubE.nil)) rfl one4) rfl ?_
            refine P_p rfl rfl (Ev_neqB rfl rfl (by kernel_rfl)) rfl ?_
            refine P_done ?_
            refine T_next ?_
            refine T_caseNB (s := 127) rfl (fun h673 => ?_) (fun h673 => ?_)
            · have hx674 := ite_bf h673 hx664
              refine T_condT rfl ?_
              refine T_seq ?_
              refine T_reg ?_
              refine T_val (Ev_assign rfl) rfl ?_
              refine T_nil ?_
              refine T_next ?_
              refine T_retc ?_
              refine T_inR ?_
              refine T_outR ?_
              obtain rfl := exit_eq ht647 hx674
              refine T_outR ?_
              refine T_inR ?_
              refine T_outR ?_
              obtain rfl := Option.some.inj ho647
              exact T_retP (rs := [.tmp 2]) Try.results16 (.tmp rfl (.nil)) (Ln := []) ⟨rfl, rfl, trivial⟩ (loNil) (by exact .drop 0 rfl (.drop 0 rfl (.refl)))
            · have hx675 := ite_t h673 hx664
              refine T_condF rfl ?_
              refine T_skip ?_
              refine T_inN ?_
              refine T_next ?_
              refine T_reg ?_
              refine T_val (Ev_move rfl) rfl ?_
              refine T_val (Ev_add_w64 rfl rfl) rfl ?_
              refine T_val (Ev_assign rfl) rfl ?_
              refine T_nil ?_
              exact T_roundP (w64 (s647 + 1)) () hx675 trivial (by exact .cons rfl (.cons rfl (.cons rfl (.nil)))) (by exact .pick 0 rfl (.pick 0 rfl (.refl)))
          · have hx650 := ite_f h648 hx647
            refine T_condF rfl ?_
            refine T_exit ?_
            refine T_outX ?_
            obtain rfl := exit_eq ht647 hx650
            refine T_outX ?_
            refine T_here ?_
            exact T_metP () () ho647 trivial (by exact .nil) (by exact .drop 0 rfl (.drop 0 rfl (.refl)))
      · skip
        refine T_seq ?_
        refine T_reg ?_
        refine T_val (Ev_assign rfl) rfl ?_
        refine T_nil ?_
        refine T_next ?_
        refine T_block ?_
        obtain ⟨t323, hl323, ho323⟩ := bnd_some hx29
        refine T_loopP (σ := (List Bool) × Int × Int) (γ := (Option Addr) × Nat) hl323 (fun s323 y323 => [(1, .pointer (some ⟨g1, 0, none⟩)), (3, .slice (A14) ((r11.1).length) (c15)), (5, .slice (y323.1) ((s323.1).length) (y323.2)), (6, .int .i64 (s323.2.1)), (7, .int .i64 (s323.2.2))]) (fun s323 y323 => [.r (y323.1) ((s323.1).length) (y323.2) 4 1 ((s323.1).flatMap e_bool), e16, e17, e18, .m g1 26 [.int .i64 (p0.Raster.X0), .int .i64 (p0.Raster.Y0), .int .i64 (p0.Raster.Step), .int .i64 (p0.Raster.NX), .int .i64 (p0.Raster.NY), .slice (A0_0) ((p0.Cells).length) (c0_0)]] ++ [.old w]) (fun s323 y323 => True) (A27, (List.replicate (Int.toNat ((((p0.Cells).length : Nat) : Int))) (false : Bool)).length) trivial (by exact .cons rfl (.cons rfl (.cons rfl (.cons rfl (.cons rfl (.nil)))))) (by exact .pick 0 rfl (.pick 0 rfl (.pick 0 rfl (.pick 0 rfl (.pick 0 rfl (.refl)))))) ?_
        intro s323 y323 hG323 x323 hx323 ht323
        unfold lidarlaw09_ModelHoles_l9 at hx323
        refine T_seq ?_
        refine T_seq ?_
        refine T_reg ?_
        refine T_val (Ev_move rfl) rfl ?_
        refine T_val (Ev_move rfl) rfl ?_
        refine T_val (Ev_len rfl 86 Try.underlying82) rfl ?_
        refine T_val (Ev_lss rfl rfl) rfl ?_
        refine T_nil ?_
        refine T_next ?_
        refine T_caseP (s := 29) rfl (fun h324 => ?_) (fun h324 => ?_)
        · have hx325 := ite_t h324 hx323
          refine T_condT rfl ?_
          refine T_skip ?_
          refine T_next ?_
          obtain ⟨j37, hj37, hx325⟩ := jn_some hx325
          refine T_cutP (τ := (List Bool) × Int) (γ := (Option Addr) × Nat) (J := j37) (out := x323) (fun s37 y37 => [(1, .pointer (some ⟨g1, 0, none⟩)), (3, .slice (A14) ((r11.1).length) (c15)), (5, .slice (y37.1) ((s37.1).length) (y37.2)), (6, .int .i64 (s37.2)), (7, .int .i64 (s323.2.2))]) (fun s37 y37 => [.r (y37.1) ((s37.1).length) (y37.2) 4 1 ((s37.1).flatMap e_bool), e16, e17, e18, .m g1 26 [.int .i64 (p0.Raster.X0), .int .i64 (p0.Raster.Y0), .int .i64 (p0.Raster.Step), .int .i64 (p0.Raster.NX), .int .i64 (p0.Raster.NY), .slice (A0_0) ((p0.Cells).length) (c0_0)]] ++ [.old w]) (fun s37 y37 => True) ?_ ?_
          · intro s37 y37 hx614 hG615
            subst hj37
            refine T_reg ?_
            refine T_val (Ev_move rfl) rfl ?_
            refine T_val (Ev_add_w64 rfl rfl) rfl ?_
            refine T_val (Ev_assign rfl) rfl ?_
            refine T_nil ?_
            exact T_roundP (s37.1, s37.2, w64 (s323.2.2 + 1)) (y37.1, y37.2) hx614 trivial (by exact .cons rfl (.cons rfl (.cons rfl (.cons rfl (.cons rfl (.nil)))))) (by exact .pick 0 rfl (.pick 0 rfl (.pick 0 rfl (.pick 0 rfl (.pick 0 rfl (.refl))))))
          · skip
            refine T_block ?_
            refine T_seq ?_
            obtain ⟨j39, hj39, hx325⟩ := jn_some hx325
            refine T_cutP (τ := Bool) (γ := Unit) (J := j39) (out := x323) (fun s39 y39 => [(1, .pointer (some ⟨g1, 0, none⟩)), (3, .slice (A14) ((r11.1).length) (c15)), (5, .slice (y323.1) ((s323.1).length) (y323.2)), (7, .int .i64 (s323.2.2)), (59, .bool (s39))]) (fun s39 y39 => [.r (y323.1) ((s323.1).length) (y323.2) 4 1 ((s323.1).flatMap e_bool), e16, e17, e18, .m g1 26 [.int .i64 (p0.Raster.X0), .int .i64 (p0.Raster.Y0), .int .i64 (p0.Raster.Step), .int .i64 (p0.Raster.NX), .int .i64 (p0.Raster.NY), .slice (A0_0) ((p0.Cells).length) (c0_0)]] ++ [.old w]) (fun s39 y39 => True) ?_ ?_
            · intro s39 y39 hx392 hG393
              subst hj39
              refine T_caseB (s := 59) rfl (fun h394 => ?_) (fun h394 => ?_)
              · have hx395 := ite_t h394 hx392
                refine T_condT rfl ?_
                refine T_seq ?_
                refine T_reg ?_
                refine T_val (Ev_assign rfl) rfl ?_
                refine T_nil ?_
                refine T_next ?_
                refine T_retc ?_
                refine T_outR ?_
                refine T_inR ?_
                refine T_outR ?_
                obtain rfl := exit_eq ht323 hx395
                refine T_outR ?_
                refine T_inR ?_
                refine T_outR ?_
                obtain rfl := Option.some.inj ho323
                exact T_retP (rs := [.tmp 2]) Try.results16 (.tmp rfl (.nil)) (Ln := []) ⟨rfl, rfl, trivial⟩ (loNil) (by exact .drop 0 rfl (.drop 0 rfl (.drop 0 rfl (.drop 0 rfl (.drop 0 rfl (.refl))))))
              · have hx396 := ite_bf h394 hx392
                refine T_condF rfl ?_
                refine T_skip ?_
                refine T_next ?_
                refine T_seq ?_
                refine T_reg ?_
                refine T_val (Ev_move rfl) rfl ?_
                refine T_val (Ev_move rfl) rfl ?_
                obtain ⟨x397, h398, hx399⟩ := bnd_some hx396
                obtain ⟨b400, o401, j402, ys410, hA403, hj404, hl405, hp406, hr411⟩ := HasN.at_idx hs23 h398
                obtain ⟨A407, c408, rfl, hs409⟩ := hr411
                have hp412 := Pt.low (E := [e16, e17, e18]) hp406 hK
                refine T_val (Ev_index rfl rfl hA403 (j := j402) hj404 hl405 slc82) rfl ?_
                refine T_val (Ev_field rfl fld86_1 rfl) rfl ?_
                refine T_val (Ev_loadP1 (d := 1) rfl hp412 (SubE.cons2 (i := 5) rfl (SubE.cons2 (i := 1) rfl (SubE.cons2 (i := 2) rfl (SubE.cons2 (i := 3) rfl (SubE.nil))))) rfl one27) rfl ?_
                obtain ⟨x413, h414, hx415⟩ := bnd_some hx399
                have hw423 := Has.low (E := [e16, e17, e18]) hs409 hK
                obtain ⟨b416, o417, j418, hA419, hj420, hl421, hp422⟩ := Has.at_idx hw423 h414
                refine T_val (Ev_index rfl rfl hA419 (j := j418) hj420 hl421 slc27) rfl ?_
                refine T_val (Ev_loadP0 rfl hp422 (SubE.cons2 (i := 5) rfl (SubE.cons2 (i := 1) rfl (SubE.cons2 (i := 2) rfl (SubE.cons2 (i := 3) rfl (SubE.nil))))) rfl one3) rfl ?_
                refine T_val (Ev_assign rfl) rfl ?_
                refine T_nil ?_
                refine T_next ?_
                refine T_seq ?_
                refine T_reg ?_
                refine T_val (Ev_assign rfl) rfl ?_
                refine T_nil ?_
                refine T_next ?_
                refine T_block ?_
                obtain ⟨t518, hl518, ho518⟩ := bnd_some hx415
                refine T_loopP (σ := (List Bool) × Int) (γ := (Option Addr) × Nat) hl518 (fun s518 y518 => [(1, .pointer (some ⟨g1, 0, none⟩)), (3, .slice (A14) ((r11.1).length) (c15)), (5, .slice (y518.1) ((s518.1).length) (y518.2)), (6, .int .i64 (x413)), (7, .int .i64 (s323.2.2)), (8, .int .i64 (s518.2))]) (fun s518 y518 => [.r (y518.1) ((s518.1).length) (y518.2) 4 1 ((s518.1).flatMap e_bool), e16, e17, e18, .m g1 26 [.int .i64 (p0.Raster.X0), .int .i64 (p0.Raster.Y0), .int .i64 (p0.Raster.Step), .int .i64 (p0.Raster.NX), .int .i64 (p0.Raster.NY), .slice (A0_0) ((p0.Cells).length) (c0_0)]] ++ [.old w]) (fun s518 y518 => True) (y323.1, y323.2) trivial (by exact .cons rfl (.cons rfl (.cons rfl (.cons rfl (.cons rfl (.cons rfl (.nil))))))) (by exact .pick 0 rfl (.pick 0 rfl (.pick 0 rfl (.pick 0 rfl (.pick 0 rfl (.refl)))))) ?_
                intro s518 y518 hG518 x518 hx518 ht518
                unfold lidarlaw09_ModelHoles_l15 at hx518
                refine T_seq ?_
                refine T_seq ?_
                refine T_reg ?_
                refine T_val (Ev_move rfl) rfl ?_
                refine T_val (Ev_move rfl) rfl ?_
                refine T_val (Ev_move rfl) rfl ?_
                obtain ⟨x519, h520, hx521⟩ := bnd_some hx518
                obtain ⟨b522, o523, j524, ys532, hA525, hj526, hl527, hp528, hr533⟩ := HasN.at_idx hs23 h520
                obtain ⟨A529, c530, rfl, hs531⟩ := hr533
                have hp534 := Pt.low (E := [e16, e17, e18]) hp528 hK
                refine T_val (Ev_index rfl rfl hA525 (j := j524) hj526 hl527 slc82) rfl ?_
                refine T_val (Ev_field rfl fld86_1 rfl) rfl ?_
                refine T_val (Ev_loadP1 (d := 1) rfl hp534 (SubE.cons2 (i := 5) rfl (SubE.cons2 (i := 1) rfl (SubE.cons2 (i := 2) rfl (SubE.cons2 (i := 3) rfl (SubE.nil))))) rfl one27) rfl ?_
                refine T_val (Ev_len rfl 3 Try.underlying27) rfl ?_
                refine T_val (Ev_lss rfl rfl) rfl ?_
                refine T_nil ?_
                refine T_next ?_
                refine T_caseP (s := 74) rfl (fun h535 => ?_) (fun h535 => ?_)
                · have hx536 := ite_t h535 hx521
                  refine T_condT rfl ?_
                  refine T_skip ?_
                  refine T_next ?_
                  refine T_seq ?_
                  refine T_block ?_
                  refine T_seq ?_
                  refine T_reg ?_
                  refine T_val (Ev_move rfl) rfl ?_
                  refine T_val (Ev_move rfl) rfl ?_
                  obtain ⟨x538, h539, hx540⟩ := bnd_some hx536
                  obtain ⟨b541, o542, j543, ys551, hA544, hj545, hl546, hp547, hr552⟩ := HasN.at_idx hs23 h539
                  obtain ⟨A548, c549, rfl, hs550⟩ := hr552
                  have hp553 := Pt.low (E := [e16, e17, e18]) hp547 hK
                  refine T_val (Ev_index rfl rfl hA544 (j := j543) hj545 hl546 slc82) rfl ?_
                  refine T_val (Ev_field rfl fld86_1 rfl) rfl ?_
                  refine T_val (Ev_loadP1 (d := 1) rfl hp553 (SubE.cons2 (i := 5) rfl (SubE.cons2 (i := 1) rfl (SubE.cons2 (i := 2) rfl (SubE.cons2 (i := 3) rfl (SubE.nil))))) rfl one27) rfl ?_
                  refine T_val (Ev_move rfl) rfl ?_
                  obtain ⟨x554, h555, hx556⟩ := bnd_some hx540
                  have hw564 := Has.low (E := [e16, e17, e18]) hs550 hK
                  obtain ⟨b557, o558, j559, hA560, hj561, hl562, hp563⟩ := Has.at_idx hw564 h555
                  refine T_val (Ev_index rfl rfl hA560 (j := j559) hj561 hl562 slc27) rfl ?_
                  refine T_val (Ev_loadP0 rfl hp563 (SubE.cons2 (i := 5) rfl (SubE.cons2 (i := 1) rfl (SubE.cons2 (i := 2) rfl (SubE.cons2 (i := 3) rfl (SubE.nil))))) rfl one3) rfl ?_
                  refine T_val (Ev_assign rfl) rfl ?_
                  refine T_nil ?_
                  refine T_next ?_
                  refine T_seq ?_
                  obtain ⟨j55, hj55, hx556⟩ := jn_some hx556
                  refine T_cutP (τ := Bool) (γ := Unit) (J := j55) (out := x518) (fun s55 y55 => [(1, .pointer (some ⟨g1, 0, none⟩)), (3, .slice (A14) ((r11.1).length) (c15)), (5, .slice (y518.1) ((s518.1).length) (y518.2)), (6, .int .i64 (x413)), (7, .int .i64 (s323.2.2)), (8, .int .i64 (s518.2)), (9, .int .i64 (x554)), (107, .bool (s55))]) (fun s55 y55 => [.r (y518.1) ((s518.1).length) (y518.2) 4 1 ((s518.1).flatMap e_bool), e16, e17, e18, .m g1 26 [.int .i64 (p0.Raster.X0), .int .i64 (p0.Raster.Y0), .int .i64 (p0.Raster.Step), .int .i64 (p0.Raster.NX), .int .i64 (p0.Raster.NY), .slice (A0_0) ((p0.Cells).length) (c0_0)]] ++ [.old w]) (fun s55 y55 => True) ?_ ?_
                  · intro s55 y55 hx596 hG597
                    subst hj55
                    refine T_caseB (s := 107) rfl (fun h598 => ?_) (fun h598 => ?_)
                    · have hx599 := ite_t h598 hx596
                      refine T_condT rfl ?_
                      refine T_seq ?_
                      refine T_reg ?_
                      refine T_val (Ev_assign rfl) rfl ?_
                      refine T_nil ?_
                      refine T_next ?_
                      refine T_retc ?_
                      refine T_outR ?_
                      refine T_inR ?_
                      refine T_outR ?_
                      obtain rfl := exit_eq ht518 hx599
                      refine T_outR ?_
                      refine T_inR ?_
                      refine T_inR ?_
                      refine T_outR ?_
                      obtain rfl := exit_eq ht323 ho518
                      refine T_outR ?_
                      refine T_inR ?_
                      refine T_outR ?_
                      obtain rfl := Option.some.inj ho323
                      exact T_retP (rs := [.tmp 2]) Try.results16 (.tmp rfl (.nil)) (Ln := []) ⟨rfl, rfl, trivial⟩ (loNil) (by exact .drop 0 rfl (.drop 0 rfl (.drop 0 rfl (.drop 0 rfl (.drop 0 rfl (.refl))))))
                    · have hx600 := ite_bf h598 hx596
                      refine T_condF rfl ?_
                      refine T_skip ?_
                      refine T_next ?_
                      refine T_reg ?_
                      refine T_val (Ev_move rfl) rfl ?_
                      refine T_val (Ev_move rfl) rfl ?_
                      obtain ⟨x601, h602, hx603⟩ := bnd_some hx600
                      refine T_idxR (k := 0) rfl (by decide) (fun _ => rfl) h602 (fun b604 j606 hA607 hj608 hl609 hm611 hp610 => ?_)
                      refine T_val (Ev_index rfl rfl hA607 (j := j606) hj608 hl609 slc37) rfl ?_
                      refine T_h (Wh_storeP e_bool (s518.1) (x554) (true) rfl rfl rfl (.here) hA607 rfl hj608 hl609 (fun _ => rfl) (by decide) rfl one4.2 ?_)
                      refine T_nil ?_
                      refine T_inN ?_
                      refine T_next ?_
                      refine T_reg ?_
                      refine T_val (Ev_move rfl) rfl ?_
                      refine T_val (Ev_add_w64 rfl rfl) rfl ?_
                      refine T_val (Ev_assign rfl) rfl ?_
                      refine T_nil ?_
                      have hn612 : (s518.1).length = (setI s518.1 x554 true).length := by simp [setI_len, cpy_len, List.length_append] <;> omega
                      refine T_ent (.here) (e' := .r (y518.1) ((setI s518.1 x554 true).length) (y518.2) 4 1 ((setI s518.1 x554 true).flatMap e_bool)) (by first | (rw [← hn612]; done) | rfl) ?_
                      refine T_slot (s := 5) (v' := .slice (y518.1) ((setI s518.1 x554 true).length) (y518.2)) rfl (by have hn613 : ((s518.1).length) = (setI s518.1 x554 true).length := (by simp [setI_len, cpy_len, List.length_append] <;> omega); first | (rw [← hn613]; done) | rfl) ?_
                      exact T_roundP (setI s518.1 x554 true, w64 (s518.2 + 1)) (y518.1, y518.2) hx603 trivial (by exact .cons rfl (.cons rfl (.cons rfl (.cons rfl (.cons rfl (.cons rfl (.nil))))))) (by exact .pick 0 rfl (.pick 0 rfl (.pick 0 rfl (.pick 0 rfl (.pick 0 rfl (.refl))))))
                  · skip
                    refine T_reg ?_
                    refine T_val (Ev_move rfl) rfl ?_
                    refine T_val (Ev_lss rfl rfl) rfl ?_
                    refine T_val (Ev_move rfl) rfl ?_
                    refine T_caseP (s := 87) rfl (fun h565 => ?_) (fun h565 => ?_)
                    · have hx566 := ite_t h565 hx556
                      refine T_skipG rfl rfl rfl rfl rfl ?_
                      refine T_skipG rfl rfl rfl rfl rfl ?_
                      refine T_skipG rfl rfl rfl rfl rfl ?_
                      refine T_skipG rfl rfl rfl rfl rfl ?_
                      refine T_val (Ev_pickT rfl rfl) rfl ?_
                      refine T_val (Ev_move rfl) rfl ?_
                      refine T_skipG rfl rfl rfl rfl rfl ?_
                      refine T_skipG rfl rfl rfl rfl rfl ?_
                      refine T_skipG rfl rfl rfl rfl rfl ?_
                      refine T_skipG rfl rfl rfl rfl rfl ?_
                      refine T_val (Ev_pickT rfl rfl) rfl ?_
                      refine T_val (Ev_move rfl) rfl ?_
                      refine T_skipG rfl rfl rfl rfl rfl ?_
                      refine T_skipG rfl rfl rfl rfl rfl ?_
                      refine T_skipG rfl rfl rfl rfl rfl ?_
                      refine T_skipG rfl rfl rfl rfl rfl ?_
                      refine T_skipG rfl rfl rfl rfl rfl ?_
                      refine T_skipG rfl rfl rfl rfl rfl ?_
                      refine T_skipG rfl rfl rfl rfl rfl ?_
                      refine T_val (Ev_pickT rfl rfl) rfl ?_
                      refine T_nil ?_
                      exact T_metP true () hx566 trivial (by exact .cons rfl (.cons rfl (.cons rfl (.cons rfl (.cons rfl (.cons rfl (.cons rfl (.cons rfl (.nil))))))))) (by exact .pick 0 rfl (.pick 0 rfl (.pick 0 rfl (.pick 0 rfl (.pick 0 rfl (.refl))))))
                    · have hx567 := ite_f h565 hx556
                      refine T_valG rfl rfl rfl (Ev_move rfl) rfl ?_
                      refine T_valG rfl rfl rfl (Ev_move rfl) rfl ?_
                      refine T_valG rfl rfl rfl (Ev_len rfl 4 Try.underlying37) rfl ?_
                      refine T_valG rfl rfl rfl (Ev_geq rfl rfl) rfl ?_
                      refine T_val (Ev_pickF rfl rfl) rfl ?_
                      refine T_val (Ev_move rfl) rfl ?_
                      refine T_caseP (s := 93) rfl (fun h568 => ?_) (fun h568 => ?_)
                      · have hx569 := ite_t h568 hx567
                        refine T_skipG rfl rfl rfl rfl rfl ?_
                        refine T_skipG rfl rfl rfl rfl rfl ?_
                        refine T_skipG rfl rfl rfl rfl rfl ?_
                        refine T_skipG rfl rfl rfl rfl rfl ?_
                        refine T_val (Ev_pickT rfl rfl) rfl ?_
                        refine T_val (Ev_move rfl) rfl ?_
                        refine T_skipG rfl rfl rfl rfl rfl ?_
                        refine T_skipG rfl rfl rfl rfl rfl ?_
                        refine T_skipG rfl rfl rfl rfl rfl ?_
                        refine T_skipG rfl rfl rfl rfl rfl ?_
                        refine T_skipG rfl rfl rfl rfl rfl ?_
                        refine T_skipG rfl rfl rfl rfl rfl ?_
                        refine T_skipG rfl rfl rfl rfl rfl ?_
                        refine T_val (Ev_pickT rfl rfl) rfl ?_
                        refine T_nil ?_
                        exact T_metP true () hx569 trivial (by exact .cons rfl (.cons rfl (.cons rfl (.cons rfl (.cons rfl (.cons rfl (.cons rfl (.cons rfl (.nil))))))))) (by exact .pick 0 rfl (.pick 0 rfl (.pick 0 rfl (.pick 0 rfl (.pick 0 rfl (.refl))))))
                      · have hx570 := ite_f h568 hx567
                        refine T_valG rfl rfl rfl (Ev_move rfl) rfl ?_
                        refine T_valG rfl rfl rfl (Ev_move rfl) rfl ?_
                        obtain ⟨x571, h572, hx573⟩ := bnd_some hx570
                        refine T_idxR (k := 0) rfl (by decide) (fun _ => rfl) h572 (fun b574 j576 hA577 hj578 hl579 hm581 hp580 => ?_)
                        refine T_valG rfl rfl rfl (Ev_index rfl rfl hA577 (j := j576) hj578 hl579 slc37) rfl ?_
                        refine T_valG rfl rfl rfl (Ev_loadP0 rfl hp580 (SubE.cons2 (i := 0) rfl (SubE.nil)) rfl one4) rfl ?_
                        refine T_val (Ev_pickF rfl rfl) rfl ?_
                        refine T_val (Ev_move rfl) rfl ?_
                        refine T_caseB (s := 99) rfl (fun h582 => ?_) (fun h582 => ?_)
                        · have hx583 := ite_t h582 hx573
                          refine T_skipG rfl rfl rfl rfl rfl ?_
                          refine T_skipG rfl rfl rfl rfl rfl ?_
                          refine T_skipG rfl rfl rfl rfl rfl ?_
                          refine T_skipG rfl rfl rfl rfl rfl ?_
                          refine T_skipG rfl rfl rfl rfl rfl ?_
                          refine T_skipG rfl rfl rfl rfl rfl ?_
                          refine T_skipG rfl rfl rfl rfl rfl ?_
                          refine T_val (Ev_pickT rfl rfl) rfl ?_
                          refine T_nil ?_
                          exact T_metP true () hx583 trivial (by exact .cons rfl (.cons rfl (.cons rfl (.cons rfl (.cons rfl (.cons rfl (.cons rfl (.cons rfl (.nil))))))))) (by exact .pick 0 rfl (.pick 0 rfl (.pick 0 rfl (.pick 0 rfl (.pick 0 rfl (.refl))))))
                        · have hx584 := ite_bf h582 hx573
                          refine T_valG rfl rfl rfl (Ev_field rfl fld26_1 rfl) rfl ?_
                          refine T_valG rfl rfl rfl (Ev_load1 rfl (i := 4) rfl rfl one24) rfl ?_
                          refine T_valG rfl rfl rfl (Ev_move rfl) rfl ?_
                          obtain ⟨x585, h586, hx587⟩ := bnd_some hx584
                          have hw595 := Has.low (E := []) ha0' hK
                          obtain ⟨b588, o589, j590, hA591, hj592, hl593, hp594⟩ := Has.at_idx hw595 h586
                          refine T_valG rfl rfl rfl (Ev_index rfl rfl hA591 (j := j590) hj592 hl593 slc24) rfl ?_
                          refine T_valG rfl rfl rfl (Ev_field rfl fld41_0 rfl) rfl ?_
                          refine T_valG rfl rfl rfl (Ev_loadP1 (d := 0) rfl hp594 (SubE.cons2 (i := 5) rfl (SubE.nil)) rfl one4) rfl ?_
                          refine T_valG rfl rfl rfl (Ev_not rfl) rfl ?_
                          refine T_val (Ev_pickF rfl rfl) rfl ?_
                          refine T_nil ?_
                          exact T_metP (!(x585.Void)) () hx587 trivial (by exact .cons rfl (.cons rfl (.cons rfl (.cons rfl (.cons rfl (.cons rfl (.cons rfl (.cons rfl (.nil))))))))) (by exact .pick 0 rfl (.pick 0 rfl (.pick 0 rfl (.pick 0 rfl (.pick 0 rfl (.refl))))))
                · have hx537 := ite_f h535 hx521
                  refine T_condF rfl ?_
                  refine T_exit ?_
                  refine T_outX ?_
                  obtain rfl := exit_eq ht518 hx537
                  refine T_outX ?_
                  refine T_here ?_
                  refine T_inN ?_
                  exact T_metP (s518.1, x413) (y518.1, y518.2) ho518 trivial (by exact .cons rfl (.cons rfl (.cons rfl (.cons rfl (.cons rfl (.nil)))))) (by exact .pick 0 rfl (.pick 0 rfl (.pick 0 rfl (.pick 0 rfl (.pick 0 rfl (.refl))))))
            · skip
              refine T_reg ?_
              refine T_val (Ev_move rfl) rfl ?_
              refine T_val (Ev_move rfl) rfl ?_
              obtain ⟨x327, h328, hx329⟩ := bnd_some hx325
              obtain ⟨b330, o331, j332, ys340, hA333, hj334, hl335, hp336, hr341⟩ := HasN.at_idx hs23 h328
              obtain ⟨A337, c338, rfl, hs339⟩ := hr341
              have hp342 := Pt.low (E := [e16, e17, e18]) hp336 hK
              refine T_val (Ev_index rfl rfl hA333 (j := j332) hj334 hl335 slc82) rfl ?_
              refine T_val (Ev_field rfl fld86_0 rfl) rfl ?_
              refine T_val (Ev_loadP1 (d := 0) rfl hp342 (SubE.cons2 (i := 5) rfl (SubE.cons2 (i := 1) rfl (SubE.cons2 (i := 2) rfl (SubE.cons2 (i := 3) rfl (SubE.nil))))) rfl one3) rfl ?_
              refine T_val (Ev_move rfl) rfl ?_
              refine T_val (Ev_add_w64 rfl rfl) rfl ?_
              refine T_val (Ev_neq rfl rfl) rfl ?_
              refine T_val (Ev_move rfl) rfl ?_
              refine T_caseNP (s := 40) rfl (fun h343 => ?_) (fun h343 => ?_)
              · have hx344 := ite_f h343 hx329
                refine T_skipG rfl rfl rfl rfl rfl ?_
                refine T_skipG rfl rfl rfl rfl rfl ?_
                refine T_skipG rfl rfl rfl rfl rfl ?_
                refine T_skipG rfl rfl rfl rfl rfl ?_
                refine T_skipG rfl rfl rfl rfl rfl ?_
                refine T_skipG rfl rfl rfl rfl rfl ?_
                refine T_skipG rfl rfl rfl rfl rfl ?_
                refine T_val (Ev_pickT rfl rfl) rfl ?_
                refine T_val (Ev_move rfl) rfl ?_
                refine T_skipG rfl rfl rfl rfl rfl ?_
                refine T_skipG rfl rfl rfl rfl rfl ?_
                refine T_skipG rfl rfl rfl rfl rfl ?_
                refine T_skipG rfl rfl rfl rfl rfl ?_
                refine T_skipG rfl rfl rfl rfl rfl ?_
                refine T_skipG rfl rfl rfl rfl rfl ?_
                refine T_skipG rfl rfl rfl rfl rfl ?_
                refine T_skipG rfl rfl rfl rfl rfl ?_
                refine T_skipG rfl rfl rfl rfl rfl ?_
                refine T_val (Ev_pickT rfl rfl) rfl ?_
                refine T_nil ?_
                exact T_metP true () hx344 trivial (by exact .cons rfl (.cons rfl (.cons rfl (.cons rfl (.cons rfl (.nil)))))) (by exact .pick 0 rfl (.pick 0 rfl (.pick 0 rfl (.pick 0 rfl (.pick 0 rfl (.refl))))))
              · have hx345 := ite_t h343 hx329
                refine T_valG rfl rfl rfl (Ev_move rfl) rfl ?_
                refine T_valG rfl rfl rfl (Ev_move rfl) rfl ?_
                obtain ⟨x346, h347, hx348⟩ := bnd_some hx345
                obtain ⟨b349, o350, j351, ys359, hA352, hj353, hl354, hp355, hr360⟩ := HasN.at_idx hs23 h347
                obtain ⟨A356, c357, rfl, hs358⟩ := hr360
                have hp361 := Pt.low (E := [e16, e17, e18]) hp355 hK
                refine T_valG rfl rfl rfl (Ev_index rfl rfl hA352 (j := j351) hj353 hl354 slc82) rfl ?_
                refine T_valG rfl rfl rfl (Ev_field rfl fld86_1 rfl) rfl ?_
                refine T_valG rfl rfl rfl (Ev_loadP1 (d := 1) rfl hp361 (SubE.cons2 (i := 5) rfl (SubE.cons2 (i := 1) rfl (SubE.cons2 (i := 2) rfl (SubE.cons2 (i := 3) rfl (SubE.nil))))) rfl one27) rfl ?_
                refine T_valG rfl rfl rfl (Ev_len rfl 3 Try.underlying27) rfl ?_
                refine T_valG rfl rfl rfl (Ev_eql rfl rfl) rfl ?_
                refine T_val (Ev_pickF rfl rfl) rfl ?_
                refine T_val (Ev_move rfl) rfl ?_
                refine T_caseP (s := 49) rfl (fun h362 => ?_) (fun h362 => ?_)
                · have hx363 := ite_t h362 hx348
                  refine T_skipG rfl rfl rfl rfl rfl ?_
                  refine T_skipG rfl rfl rfl rfl rfl ?_
                  refine T_skipG rfl rfl rfl rfl rfl ?_
                  refine T_skipG rfl rfl rfl rfl rfl ?_
                  refine T_skipG rfl rfl rfl rfl rfl ?_
                  refine T_skipG rfl rfl rfl rfl rfl ?_
                  refine T_skipG rfl rfl rfl rfl rfl ?_
                  refine T_skipG rfl rfl rfl rfl rfl ?_
                  refine T_skipG rfl rfl rfl rfl rfl ?_
                  refine T_val (Ev_pickT rfl rfl) rfl ?_
                  refine T_nil ?_
                  exact T_metP true () hx363 trivial (by exact .cons rfl (.cons rfl (.cons rfl (.cons rfl (.cons rfl (.nil)))))) (by exact .pick 0 rfl (.pick 0 rfl (.pick 0 rfl (.pick 0 rfl (.pick 0 rfl (.refl))))))
                · have hx364 := ite_f h362 hx348
                  refine T_valG rfl rfl rfl (Ev_move rfl) rfl ?_
                  refine T_valG rfl rfl rfl (Ev_move rfl) rfl ?_
                  obtain ⟨x365, h366, hx367⟩ := bnd_some hx364
                  obtain ⟨b368, o369, j370, ys378, hA371, hj372, hl373, hp374, hr379⟩ := HasN.at_idx hs23 h366
                  obtain ⟨A375, c376, rfl, hs377⟩ := hr379
                  have hp380 := Pt.low (E := [e16, e17, e18]) hp374 hK
                  refine T_valG rfl rfl rfl (Ev_index rfl rfl hA371 (j := j370) hj372 hl373 slc82) rfl ?_
                  refine T_valG rfl rfl rfl (Ev_field rfl fld86_1 rfl) rfl ?_
                  refine T_valG rfl rfl rfl (Ev_loadP1 (d := 1) rfl hp380 (SubE.cons2 (i := 5) rfl (SubE.cons2 (i := 1) rfl (SubE.cons2 (i := 2) rfl (SubE.cons2 (i := 3) rfl (SubE.nil))))) rfl one27) rfl ?_
                  obtain ⟨x381, h382, hx383⟩ := bnd_some hx367
                  have hw391 := Has.low (E := [e16, e17, e18]) hs377 hK
                  obtain ⟨b384, o385, j386, hA387, hj388, hl389, hp390⟩ := Has.at_idx hw391 h382
                  refine T_valG rfl rfl rfl (Ev_index rfl rfl hA387 (j := j386) hj388 hl389 slc27) rfl ?_
                  refine T_valG rfl rfl rfl (Ev_loadP0 rfl hp390 (SubE.cons2 (i := 5) rfl (SubE.cons2 (i := 1) rfl (SubE.cons2 (i := 2) rfl (SubE.cons2 (i := 3) rfl (SubE.nil))))) rfl one3) rfl ?_
                  refine T_valG rfl rfl rfl (Ev_move rfl) rfl ?_
                  refine T_valG rfl rfl rfl (Ev_leq rfl rfl) rfl ?_
                  refine T_val (Ev_pickF rfl rfl) rfl ?_
                  refine T_nil ?_
                  exact T_metP (decide (x381 ≤ s323.2.1)) () hx383 trivial (by exact .cons rfl (.cons rfl (.cons rfl (.cons rfl (.cons rfl (.nil)))))) (by exact .pick 0 rfl (.pick 0 rfl (.pick 0 rfl (.pick 0 rfl (.pick 0 rfl (.refl))))))
        · have hx326 := ite_f h324 hx323
          refine T_condF rfl ?_
          refine T_exit ?_
          refine T_outX ?_
          obtain rfl := exit_eq ht323 hx326
          refine T_outX ?_
          refine T_here ?_
          exact T_metP s323.1 (y323.1, y323.2) ho323 trivial (by exact .cons rfl (.cons rfl (.nil))) (by exact .pick 0 rfl (.pick 3 rfl (.drop 0 rfl (.drop 0 rfl (.drop 0 rfl (.refl))))))
end Go.Proofs.Ytjhknbpiaikblaa
