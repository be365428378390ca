/- Walks of the program, with their plain functions: the reference's groups of nodes. -/
import Derived.Test.YtjhknbpiaikblaaM11
namespace Go.Proofs.Ytjhknbpiaikblaa
open Go Go.RowKit
theorem bls27_2_0i641i64 (x0 : Int) (x1 : Int) : BuildSliceOf Try.prog 27 2 [(0, .int .i64 x0), (1, .int .i64 x1)] 3 [.int .i64 x0, .int .i64 x1] := fun w => by kernel_rfl
noncomputable def lidarref09_groups_l3 (p1 : List Int) : ((List Int) × Int) → Option (Sum ((List Int) × Int) (List Int)) := fun s20 =>
 if s20.2 < ((((p1).length : Nat) : Int)) then (bnd (idx s20.1 s20.2) fun x24 =>
 some (.inl (setI s20.1 s20.2 s20.2, w64 (s20.2 + 1))))
 else (some (.inr s20.1))
noncomputable def lidarref09_groups_l18 (s90 : List Int) (s740 : (List Int) × Bool × Int) (p1 : List Int) : ((List Int) × Bool × Int) → Option (Sum ((List Int) × Bool × Int) ((List Int) × Bool)) := fun s868 =>
 if s868.2.2 < ((((s90).length : Nat) : Int)) then (jn (fun (s101 : (List Int) × Bool) =>
 some (.inl (s101.1, s101.2, w64 (s868.2.2 + 1))))
 (fun j101 => bnd (idx s90 s868.2.2) fun x872 =>
 jn (fun (s103 : Bool) =>
 if s103 = true then (bnd (idx s868.1 x872) fun x940 =>
 bnd (idx s868.1 s740.2.2) fun x951 =>
 j101 (setI s868.1 s740.2.2 x940, true))
 else (j101 (s868.1, s868.2.1)))
 (fun j103 => if 0 ≤ x872 then (if x872 < ((((p1).length : Nat) : Int)) then (bnd (idx p1 x872) fun x887 =>
 bnd (idx p1 s740.2.2) fun x898 =>
 if x887 = x898 then (bnd (idx s868.1 x872) fun x911 =>
 bnd (idx s868.1 s740.2.2) fun x922 =>
 j103 (decide (x911 < x922)))
 else (j103 false))
 else (j103 false))
 else (j103 false))))
 else (some (.inr (s868.1, s868.2.1)))
noncomputable def lidarref09_groups_l10 (p1 : List Int) (p0 : S_api_Raster) : ((List Int) × Bool × Int) → Option (Sum ((List Int) × Bool × Int) ((List Int) × Bool)) := fun s740 =>
 if s740.2.2 < ((((p1).length : Nat) : Int)) then (jn (fun (s86 : (List Int) × Bool) =>
 some (.inl (s86.1, s86.2, w64 (s740.2.2 + 1))))
 (fun j86 => jn (fun (s88 : List Int) =>
 jn (fun (s90 : List Int) =>
 bnd (lfix (lidarref09_groups_l18 s90 s740 p1) (s740.1, s740.2.1, 0)) fun t868 =>
 j86 t868)
 (fun j90 => gd (p0.NX ≠ 0) <|
 if (Int.tmod s740.2.2 p0.NX) < (w64 (p0.NX - 1)) then (gd (((s88).length + 1) * 8 ≤ 140737488355328) <|
 j90 (s88 ++ [w64 (s740.2.2 + 1)]))
 else (j90 s88)))
 (fun j88 => gd (p0.NX ≠ 0) <|
 if 0 < (Int.tmod s740.2.2 p0.NX) then (gd ((([w64 (s740.2.2 - p0.NX), w64 (s740.2.2 + p0.NX)]).length + 1) * 8 ≤ 140737488355328) <|
 j88 (([w64 (s740.2.2 - p0.NX), w64 (s740.2.2 + p0.NX)]) ++ [w64 (s740.2.2 - 1)]))
 else (j88 ([w64 (s740.2.2 - p0.NX), w64 (s740.2.2 + p0.NX)])))))
 else (some (.inr (s740.1, s740.2.1)))
noncomputable def lidarref09_groups_l7 (p1 : List Int) (p0 : S_api_Raster) : ((List Int) × Bool) → Option (Sum ((List Int) × Bool) (List Int)) := fun s505 =>
 if s505.2 = true then (bnd (lfix (lidarref09_groups_l10 p1 p0) (s505.1, false, 0)) fun t740 =>
 some (.inl t740))
 else (some (.inr s505.1))
noncomputable def lidarref09_groups_l31 (p1 : List Int) (s11 : List Int) (s1077 : (List (List Int)) × Int) : ((List Int) × Int) → Option (Sum ((List Int) × Int) (List Int)) := fun s1139 =>
 if s1139.2 < ((((p1).length : Nat) : Int)) then (jn (fun (s138 : List Int) =>
 some (.inl (s138, w64 (s1139.2 + 1))))
 (fun j138 => bnd (idx s11 s1139.2) fun x1144 =>
 if x1144 = s1077.2 then (gd (((s1139.1).length + 1) * 8 ≤ 140737488355328) <|
 j138 (s1139.1 ++ [s1139.2]))
 else (j138 s1139.1)))
 else (some (.inr s1139.1))
noncomputable def lidarref09_groups_l26 (p1 : List Int) (s11 : List Int) : ((List (List Int)) × Int) → Option (Sum ((List (List Int)) × Int) (List (List Int))) := fun s1077 =>
 if s1077.2 < ((((p1).length : Nat) : Int)) then (jn (fun (s126 : List (List Int)) =>
 some (.inl (s126, w64 (s1077.2 + 1))))
 (fun j126 => jn (fun (s128 : Bool) =>
 if s128 = true then (j126 s1077.1)
 else (jn (fun (s130 : List Int) =>
 gd (((s1077.1).length + 1) * 24 ≤ 140737488355328) <|
 j126 (s1077.1 ++ [s130]))
 (fun j130 => bnd (lfix (lidarref09_groups_l31 p1 s11 s1077) (([] : List Int), s1077.2)) fun t1139 =>
 j130 t1139)))
 (fun j128 => bnd (idx p1 s1077.2) fun x1083 =>
 if x1083 = 0 then (j128 true)
 else (bnd (idx s11 s1077.2) fun x1097 =>
 j128 (!(decide (x1097 = s1077.2)))))))
 else (some (.inr s1077.1))
noncomputable def lidarref09_groups (p0 : S_api_Raster) (p1 : List Int) : Option (List (List Int)) :=
 gd ((0 : Int) ≤ ((((p1).length : Nat) : Int)) ∧ 8 * Int.toNat ((((p1).length : Nat) : Int)) ≤ 140737488355328) <|
 jn (fun (s3 : List Int) =>
 jn (fun (s11 : List Int) =>
 jn (fun (s106 : List (List Int)) =>
 some s106)
 (fun j106 => bnd (lfix (lidarref09_groups_l26 p1 s11) (([] : List (List Int)), 0)) fun t1077 =>
 j106 t1077))
 (fun j11 => bnd (lfix (lidarref09_groups_l7 p1 p0) (s3, true)) fun t505 =>
 j11 t505))
 (fun j3 => bnd (lfix (lidarref09_groups_l3 p1) (List.replicate (Int.toNat ((((p1).length : Nat) : Int))) (0 : Int), 0)) fun t20 =>
 j3 t20)
set_option maxRecDepth 100000 in
theorem lidarref09_groups_ok (p0 : S_api_Raster) (p1 : List Int) {K : List Ent} {A0_0 : Option Addr} {c0_0 : Nat} (ha0 : Has K A0_0 (p1).length c0_0 1 e_i64 (p1)) {r : List (List Int)} (hx : lidarref09_groups p0 p1 = some r) (w : World) (hK : ∀ e ∈ K, Ent.ok w e) : CtL Try.prog 92 [.agg #[.int .i64 (p0.X0), .int .i64 (p0.Y0), .int .i64 (p0.Step), .int .i64 (p0.NX), .int .i64 (p0.NY)], .slice (A0_0) ((p1).length) (c0_0)] w fun v Ln => ∃ (A0 : Option Addr) (c0 : Nat) (e0 : Ent) (e1 : Ent), v = .slice (A0) ((r).length) (c0) ∧ Ln = [e0, e1] ∧ HasN (K ++ [e0, e1]) A0 (r).length c0 1 n_List_Int (r) ∧ True := by
  have ha0' := Has.up0 ha0
  refine CtL.mk 156 Try.func92 rfl Try.ntmps92 (by kernel_rfl) rfl ?_
  show T 156 _ [(0, .agg #[.int .i64 (p0.X0), .int .i64 (p0.Y0), .int .i64 (p0.Step), .int .i64 (p0.NX), .int .i64 (p0.NY)]), (1, .slice (A0_0) ((p1).length) (c0_0))] _
  unfold lidarref09_groups at hx
  refine T_seq ?_
  refine T_reg ?_
  refine T_x (Wx_box rfl rfl rfl (fun g1 => ?_))
  refine T_val (Ev_assign rfl) rfl ?_
  refine T_nil ?_
  refine T_next ?_
  refine T_seq ?_
  refine T_reg ?_
  refine T_val (Ev_move rfl) rfl ?_
  refine T_val (Ev_len rfl 3 Try.underlying27) rfl ?_
  obtain ⟨h3, hx4⟩ := gd_some hx
  refine T_x (Wx_makeP e_i64 (0) (z := .int .i64 (0)) rfl rfl rfl h3.1 Try.underlying27 (show Try.prog.info? 3 = some Try.t3 from by kernel_rfl) (by kernel_rfl) rfl rfl (by kernel_rfl) (show 8 * _ ≤ _ from h3.2) (by decide) rfl (fun A2 => ?_))
  refine T_val (Ev_assign rfl) rfl ?_
  refine T_nil ?_
  refine T_next ?_
  obtain ⟨j3, hj3, hx4⟩ := jn_some hx4
  refine T_cutP (τ := List Int) (γ := (Option Addr) × Nat) (J := j3) (out := r) (fun s3 y3 => [(1, .slice (A0_0) ((p1).length) (c0_0)), (2, .pointer (some ⟨g1, 0, none⟩)), (5, .slice (y3.1) ((s3).length) (y3.2))]) (fun s3 y3 => [.r (y3.1) ((s3).length) (y3.2) 3 1 ((s3).flatMap e_i64), .m g1 23 [.int .i64 (p0.X0), .int .i64 (p0.Y0), .int .i64 (p0.Step), .int .i64 (p0.NX), .int .i64 (p0.NY)]] ++ [.old w]) (fun s3 y3 => True) ?_ ?_
  · intro s3 y3 hx37 hG38
    subst hj3
    obtain ⟨j11, hj11, hx37⟩ := jn_some hx37
    refine T_cutP (τ := List Int) (γ := (Option Addr) × Nat) (J := j11) (out := r) (fun s11 y11 => [(1, .slice (A0_0) ((p1).length) (c0_0)), (5, .slice (y11.1) ((s11).length) (y11.2))]) (fun s11 y11 => [.r (y11.1) ((s11).length) (y11.2) 3 1 ((s11).flatMap e_i64)] ++ [.old w]) (fun s11 y11 => True) ?_ ?_
    · intro s11 y11 hx971 hG972
      subst hj11
      refine T_seq ?_
      refine T_reg ?_
      refine T_val (Ev_assign rfl) rfl ?_
      refine T_nil ?_
      refine T_next ?_
      obtain ⟨j106, hj106, hx971⟩ := jn_some hx971
      refine T_cutP (τ := List (List Int)) (γ := (List (Vec 1)) × (Option Addr) × Nat × Ent) (J := j106) (out := r) (fun s106 y106 => [(12, .slice (y106.2.1) ((s106).length) (y106.2.2.1))]) (fun s106 y106 => [y106.2.2.2, .r (y106.2.1) ((s106).length) (y106.2.2.1) 27 1 ((y106.1).flatMap cellsV)] ++ [.old w]) (fun s106 y106 => y106.2.2.2.low = 0 ∧ RowN ([y106.2.2.2] : List Ent) n_List_Int (y106.1) (s106) ∧ True) ?_ ?_
      · intro s106 y106 hx1181 hG1182
        obtain ⟨lo1183, hr1184, -⟩ := hG1182
        subst hj106
        refine T_seq ?_
        refine T_reg ?_
        refine T_val (Ev_move rfl) rfl ?_
        refine T_val (Ev_assign rfl) rfl ?_
        refine T_nil ?_
        refine T_next ?_
        refine T_retc ?_
        refine T_rowP (k := 1) rfl (by decide) (fun x => x.2) (fun hn1185 hs1186 => ?_)
        have hs1187 : HasN ([.r (y106.2.1) ((s106).length) (y106.2.2.1) 27 1 ((y106.1).flatMap cellsV), y106.2.2.2] : List Ent) _ _ _ _ _ _ := HasN.ofRowN (Has.up (L := ([.r (y106.2.1) ((s106).length) (y106.2.2.1) 27 1 ((y106.1).flatMap cellsV), y106.2.2.2] : List Ent)) hs1186 (SubE.cons2 (i := 0) rfl (SubE.nil))) (RowN.up (R := n_List_Int) (L := ([.r (y106.2.1) ((s106).length) (y106.2.2.1) 27 1 ((y106.1).flatMap cellsV), y106.2.2.2] : List Ent)) n_List_Int_mono hr1184 (SubE.cons2 (i := 1) rfl (SubE.nil)))
        obtain rfl := Option.some.inj hx1181
        exact T_retP (rs := [.tmp 4]) Try.results92 (.tmp rfl (.nil)) (Ln := [.r (y106.2.1) ((s106).length) (y106.2.2.1) 27 1 ((y106.1).flatMap cellsV), y106.2.2.2]) ⟨y106.2.1, y106.2.2.1, (.r (y106.2.1) ((s106).length) (y106.2.2.1) 27 1 ((y106.1).flatMap cellsV)), y106.2.2.2, rfl, rfl, HasN.len' (HasN.up (L := (K ++ [.r (y106.2.1) ((s106).length) (y106.2.2.1) 27 1 ((y106.1).flatMap cellsV), y106.2.2.2])) n_List_Int_mono hs1187 (SubE.appR2 (SubE.cons2 (i := 0) rfl (SubE.cons2 (i := 1) rfl (SubE.nil))))), trivial⟩ (loCons rfl (loCons lo1183 (loNil))) (by exact .pick 1 rfl (.pick 0 rfl (.refl)))
      · skip
        refine T_seq ?_
        refine T_reg ?_
        refine T_val (Ev_assign rfl) rfl ?_
        refine T_nil ?_
        refine T_next ?_
        refine T_block ?_
        obtain ⟨t1077, hl1077, ho1077⟩ := bnd_some hx971
        refine T_none 0 1 ?_
        refine T_none 27 1 ?_
        refine T_loopP (σ := (List (List Int)) × Int) (γ := (List (Vec 1)) × (Option Addr) × Nat × Ent) hl1077 (fun s1077 y1077 => [(1, .slice (A0_0) ((p1).length) (c0_0)), (5, .slice (y11.1) ((s11).length) (y11.2)), (12, .slice (y1077.2.1) ((s1077.1).length) (y1077.2.2.1)), (13, .int .i64 (s1077.2))]) (fun s1077 y1077 => [y1077.2.2.2, .r (y1077.2.1) ((s1077.1).length) (y1077.2.2.1) 27 1 ((y1077.1).flatMap cellsV), .r (y11.1) ((s11).length) (y11.2) 3 1 ((s11).flatMap e_i64)] ++ [.old w]) (fun s1077 y1077 => y1077.2.2.2.low = 0 ∧ RowN ([y1077.2.2.2] : List Ent) n_List_Int (y1077.1) (s1077.1) ∧ True) (([] : List (Vec 1)), none, 0, .r none 0 0 0 1 []) ((by exact ⟨rfl, RowN.nil, trivial⟩)) (by exact .cons rfl (.cons rfl (.cons rfl (.cons rfl (.nil))))) (by exact .pick 1 rfl (.pick 0 rfl (.pick 0 rfl (.refl)))) ?_
        intro s1077 y1077 hG1077 x1077 hx1077 ht1077
        unfold lidarref09_groups_l26 at hx1077
        obtain ⟨lo1078, hr1079, -⟩ := hG1077
        refine T_seq ?_
        refine T_seq ?_
        refine T_reg ?_
        refine T_val (Ev_move rfl) rfl ?_
        refine T_val (Ev_move rfl) rfl ?_
        refine T_val (Ev_len rfl 3 Try.underlying27) rfl ?_
        refine T_val (Ev_lss rfl rfl) rfl ?_
        refine T_nil ?_
        refine T_next ?_
        refine T_caseP (s := 118) rfl (fun h1080 => ?_) (fun h1080 => ?_)
        · have hx1081 := ite_t h1080 hx1077
          refine T_condT rfl ?_
          refine T_skip ?_
          refine T_next ?_
          obtain ⟨j126, hj126, hx1081⟩ := jn_some hx1081
          refine T_cutP (τ := List (List Int)) (γ := (List (Vec 1)) × (Option Addr) × Nat × Ent) (J := j126) (out := x1077) (fun s126 y126 => [(1, .slice (A0_0) ((p1).length) (c0_0)), (5, .slice (y11.1) ((s11).length) (y11.2)), (12, .slice (y126.2.1) ((s126).length) (y126.2.2.1)), (13, .int .i64 (s1077.2))]) (fun s126 y126 => [y126.2.2.2, y1077.2.2.2, .r (y126.2.1) ((s126).length) (y126.2.2.1) 27 1 ((y126.1).flatMap cellsV), .r (y11.1) ((s11).length) (y11.2) 3 1 ((s11).flatMap e_i64)] ++ [.old w]) (fun s126 y126 => y126.2.2.2.low = 0 ∧ RowN ([y1077.2.2.2, y126.2.2.2] : List Ent) n_List_Int (y126.1) (s126) ∧ True) ?_ ?_
          · intro s126 y126 hx1175 hG1176
            obtain ⟨lo1177, hr1178, -⟩ := hG1176
            subst hj126
            refine T_reg ?_
            refine T_val (Ev_move rfl) rfl ?_
            refine T_val (Ev_add_w64 rfl rfl) rfl ?_
            refine T_val (Ev_assign rfl) rfl ?_
            refine T_nil ?_
            refine T_bundle (es := [y1077.2.2.2, y126.2.2.2]) (by exact .pick 1 rfl (.pick 0 rfl (.refl))) (loCons lo1078 (loCons lo1177 (loNil))) ?_
            exact T_roundP (s126, w64 (s1077.2 + 1)) (y126.1, y126.2.1, y126.2.2.1, bun [y1077.2.2.2, y126.2.2.2]) hx1175 ((by exact ⟨rfl, (RowN.up (R := n_List_Int) (L := ([(bun [y1077.2.2.2, y126.2.2.2])] : List Ent)) n_List_Int_mono hr1178 (SubE.consB (i := 0) (j := 0) rfl rfl (SubE.consB (i := 0) (j := 1) rfl rfl (SubE.nil)))), trivial⟩)) (by exact .cons rfl (.cons rfl (.cons rfl (.cons rfl (.nil))))) (by exact .pick 0 rfl (.pick 0 rfl (.pick 0 rfl (.refl))))
          · skip
            refine T_block ?_
            refine T_seq ?_
            obtain ⟨j128, hj128, hx1081⟩ := jn_some hx1081
            refine T_cutP (τ := Bool) (γ := Unit) (J := j128) (out := x1077) (fun s128 y128 => [(1, .slice (A0_0) ((p1).length) (c0_0)), (5, .slice (y11.1) ((s11).length) (y11.2)), (12, .slice (y1077.2.1) ((s1077.1).length) (y1077.2.2.1)), (13, .int .i64 (s1077.2)), (133, .bool (s128))]) (fun s128 y128 => [y1077.2.2.2, .r (y1077.2.1) ((s1077.1).length) (y1077.2.2.1) 27 1 ((y1077.1).flatMap cellsV), .r (y11.1) ((s11).length) (y11.2) 3 1 ((s11).flatMap e_i64)] ++ [.old w]) (fun s128 y128 => True) ?_ ?_
            · intro s128 y128 hx1108 hG1109
              subst hj128
              refine T_caseB (s := 133) rfl (fun h1110 => ?_) (fun h1110 => ?_)
              · have hx1111 := ite_t h1110 hx1108
                refine T_condT rfl ?_
                refine T_exit ?_
                refine T_outX ?_
                refine T_here ?_
                refine T_none 0 1 ?_
                exact T_metP s1077.1 (y1077.1, y1077.2.1, y1077.2.2.1, .r none 0 0 0 1 []) hx1111 ((by exact ⟨rfl, (RowN.up (R := n_List_Int) (L := ([y1077.2.2.2, .r none 0 0 0 1 []] : List Ent)) n_List_Int_mono hr1079 (SubE.cons2 (i := 0) rfl (SubE.nil))), trivial⟩)) (by exact .cons rfl (.cons rfl (.cons rfl (.cons rfl (.nil))))) (by exact .pick 0 rfl (.pick 0 rfl (.pick 0 rfl (.pick 0 rfl (.refl)))))
              · have hx1112 := ite_bf h1110 hx1108
                refine T_condF rfl ?_
                refine T_skip ?_
                refine T_next ?_
                refine T_seq ?_
                refine T_reg ?_
                refine T_val (Ev_assign rfl) rfl ?_
                refine T_nil ?_
                refine T_next ?_
                obtain ⟨j130, hj130, hx1112⟩ := jn_some hx1112
                refine T_cutP (τ := List Int) (γ := (Option Addr) × Nat) (J := j130) (out := x1077) (fun s130 y130 => [(1, .slice (A0_0) ((p1).length) (c0_0)), (5, .slice (y11.1) ((s11).length) (y11.2)), (12, .slice (y1077.2.1) ((s1077.1).length) (y1077.2.2.1)), (13, .int .i64 (s1077.2)), (14, .slice (y130.1) ((s130).length) (y130.2))]) (fun s130 y130 => [.r (y130.1) ((s130).length) (y130.2) 3 1 ((s130).flatMap e_i64), y1077.2.2.2, .r (y1077.2.1) ((s1077.1).length) (y1077.2.2.1) 27 1 ((y1077.1).flatMap cellsV), .r (y11.1) ((s11).length) (y11.2) 3 1 ((s11).flatMap e_i64)] ++ [.old w]) (fun s130 y130 => True) ?_ ?_
                · intro s130 y130 hx1165 hG1166
                  subst hj130
                  refine T_reg ?_
                  refine T_val (Ev_move rfl) rfl ?_
                  refine T_val (Ev_move rfl) rfl ?_
                  refine T_x (Wx_buildSlice rfl (bls91_1_0s _ _ _) rfl (fun g1167 => ?_))
                  refine T_rowP (k := 1) rfl (by decide) (fun _ => rfl) (fun hn1168 hs1169 => ?_)
                  have hr1170 : RowN ([y1077.2.2.2, .r (y130.1) ((s130).length) (y130.2) 3 1 ((s130).flatMap e_i64)] : List Ent) n_List_Int (y1077.1 ++ [(⟨[.slice (y130.1) ((s130).length) (y130.2)], rfl⟩ : Vec 1)]) (s1077.1 ++ [s130]) := RowN.snoc (RowN.up (R := n_List_Int) (L := ([y1077.2.2.2, .r (y130.1) ((s130).length) (y130.2) 3 1 ((s130).flatMap e_i64)] : List Ent)) n_List_Int_mono hr1079 (SubE.cons2 (i := 0) rfl (SubE.nil))) ⟨y130.1, y130.2, rfl, Has.len' (Has.up (L := ([y1077.2.2.2, .r (y130.1) ((s130).length) (y130.2) 3 1 ((s130).flatMap e_i64)] : List Ent)) hs1169 (SubE.cons2 (i := 1) rfl (SubE.nil)))⟩
                  obtain ⟨h1171, hx1172⟩ := gd_some hx1165
                  refine T_h (Wh_appendP cellsV (y1077.1) [(⟨[.slice (y130.1) ((s130).length) (y130.2)], rfl⟩ : Vec 1)] rfl rfl rfl elm91 (fun x => x.2) (i' := 0) rfl rfl rfl rfl (by have := RowN.len (hr1079); have := h1171; simp only [List.length_singleton, List.length_nil] at *; omega) rfl (fun _ _ => .there (.there (.there (.here)))) (fun _ _ => .drop .refl) (by decide) (fun A1173 c1174 => ?_))
                  refine T_val (Ev_assign rfl) rfl ?_
                  refine T_nil ?_
                  refine T_inN ?_
                  have hn1179 : (y1077.1 ++ [(⟨[.slice (y130.1) ((s130).length) (y130.2)], rfl⟩ : Vec 1)]).length = (s1077.1 ++ [s130]).length := RowN.len hr1170
                  refine T_ent (.there (.there (.here))) (e' := .r (A1173) ((s1077.1 ++ [s130]).length) (c1174) 27 1 ((y1077.1 ++ [(⟨[.slice (y130.1) ((s130).length) (y130.2)], rfl⟩ : Vec 1)]).flatMap cellsV)) (by first | (rw [← hn1179]; done) | rfl) ?_
                  refine T_slot (s := 12) (v' := .slice (A1173) ((s1077.1 ++ [s130]).length) (c1174)) rfl (by have hn1180 : ((y1077.1 ++ [(⟨[.slice (y130.1) ((s130).length) (y130.2)], rfl⟩ : Vec 1)]).length) = (s1077.1 ++ [s130]).length := (RowN.len hr1170); first | (rw [← hn1180]; done) | rfl) ?_
                  exact T_metP (s1077.1 ++ [s130]) (y1077.1 ++ [(⟨[.slice (y130.1) ((s130).length) (y130.2)], rfl⟩ : Vec 1)], A1173, c1174, .r (y130.1) ((s130).length) (y130.2) 3 1 ((s130).flatMap e_i64)) hx1172 ((by exact ⟨rfl, (RowN.up (R := n_List_Int) (L := ([y1077.2.2.2, .r (y130.1) ((s130).length) (y130.2) 3 1 ((s130).flatMap e_i64)] : List Ent)) n_List_Int_mono hr1170 (SubE.cons2 (i := 0) rfl (SubE.cons2 (i := 1) rfl (SubE.nil)))), trivial⟩)) (by exact .cons rfl (.cons rfl (.cons rfl (.cons rfl (.nil))))) (by exact .pick 0 rfl (.pick 0 rfl (.pick 0 rfl (.pick 0 rfl (.refl)))))
                · skip
                  refine T_seq ?_
                  refine T_reg ?_
                  refine T_val (Ev_move rfl) rfl ?_
                  refine T_val (Ev_assign rfl) rfl ?_
                  refine T_nil ?_
                  refine T_next ?_
                  refine T_block ?_
                  obtain ⟨t1139, hl1139, ho1139⟩ := bnd_some hx1112
                  refine T_none 3 1 ?_
                  have hn1140 : 0 = (([] : List Int)).length := by simp [setI_len, cpy_len, List.length_append] <;> omega
                  refine T_ent (.here) (e' := .r (none) ((([] : List Int)).length) (0) 3 1 ((([] : List Int)).flatMap e_i64)) (by first | (rw [← hn1140]; done) | rfl) ?_
                  refine T_loopP (σ := (List Int) × Int) (γ := (Option Addr) × Nat) hl1139 (fun s1139 y1139 => [(1, .slice (A0_0) ((p1).length) (c0_0)), (5, .slice (y11.1) ((s11).length) (y11.2)), (12, .slice (y1077.2.1) ((s1077.1).length) (y1077.2.2.1)), (13, .int .i64 (s1077.2)), (14, .slice (y1139.1) ((s1139.1).length) (y1139.2)), (15, .int .i64 (s1139.2))]) (fun s1139 y1139 => [.r (y1139.1) ((s1139.1).length) (y1139.2) 3 1 ((s1139.1).flatMap e_i64), y1077.2.2.2, .r (y1077.2.1) ((s1077.1).length) (y1077.2.2.1) 27 1 ((y1077.1).flatMap cellsV), .r (y11.1) ((s11).length) (y11.2) 3 1 ((s11).flatMap e_i64)] ++ [.old w]) (fun s1139 y1139 => True) (none, 0) trivial (by exact .cons rfl (.cons rfl (.cons rfl (.cons rfl (.cons rfl (.cons rfl (.nil))))))) (by exact .pick 0 rfl (.pick 0 rfl (.pick 0 rfl (.pick 0 rfl (.refl))))) ?_
                  intro s1139 y1139 hG1139 x1139 hx1139 ht1139
                  unfold lidarref09_groups_l31 at hx1139
                  refine T_seq ?_
                  refine T_seq ?_
                  refine T_reg ?_
                  refine T_val (Ev_move rfl) rfl ?_
                  refine T_val (Ev_move rfl) rfl ?_
                  refine T_val (Ev_len rfl 3 Try.underlying27) rfl ?_
                  refine T_val (Ev_lss rfl rfl) rfl ?_
                  refine T_nil ?_
                  refine T_next ?_
                  refine T_caseP (s := 138) rfl (fun h1141 => ?_) (fun h1141 => ?_)
                  · have hx1142 := ite_t h1141 hx1139
                    refine T_condT rfl ?_
                    refine T_skip ?_
                    refine T_next ?_
                    obtain ⟨j138, hj138, hx1142⟩ := jn_some hx1142
                    refine T_cutP (τ := List Int) (γ := (Option Addr) × Nat) (J := j138) (out := x1139) (fun s138 y138 => [(1, .slice (A0_0) ((p1).length) (c0_0)), (5, .slice (y11.1) ((s11).length) (y11.2)), (12, .slice (y1077.2.1) ((s1077.1).length) (y1077.2.2.1)), (13, .int .i64 (s1077.2)), (14, .slice (y138.1) ((s138).length) (y138.2)), (15, .int .i64 (s1139.2))]) (fun s138 y138 => [.r (y138.1) ((s138).length) (y138.2) 3 1 ((s138).flatMap e_i64), y1077.2.2.2, .r (y1077.2.1) ((s1077.1).length) (y1077.2.2.1) 27 1 ((y1077.1).flatMap cellsV), .r (y11.1) ((s11).length) (y11.2) 3 1 ((s11).flatMap e_i64)] ++ [.old w]) (fun s138 y138 => True) ?_ ?_
                    · intro s138 y138 hx1163 hG1164
                      subst hj138
                      refine T_reg ?_
                      refine T_val (Ev_move rfl) rfl ?_
                      refine T_val (Ev_add_w64 rfl rfl) rfl ?_
                      refine T_val (Ev_assign rfl) rfl ?_
                      refine T_nil ?_
                      exact T_roundP (s138, w64 (s1139.2 + 1)) (y138.1, y138.2) hx1163 trivial (by exact .cons rfl (.cons rfl (.cons rfl (.cons rfl (.cons rfl (.cons rfl (.nil))))))) (by exact .pick 0 rfl (.pick 0 rfl (.pick 0 rfl (.pick 0 rfl (.refl)))))
                    · skip
                      refine T_block ?_
                      refine T_seq ?_
                      refine T_reg ?_
                      refine T_val (Ev_move rfl) rfl ?_
                      refine T_val (Ev_move rfl) rfl ?_
                      obtain ⟨x1144, h1145, hx1146⟩ := bnd_some hx1142
                      refine T_idxR (k := 3) rfl (by decide) (fun _ => rfl) h1145 (fun b1147 j1149 hA1150 hj1151 hl1152 hm1154 hp1153 => ?_)
                      refine T_val (Ev_index rfl rfl hA1150 (j := j1149) hj1151 hl1152 slc27) rfl ?_
                      refine T_val (Ev_loadP0 rfl hp1153 (SubE.cons2 (i := 3) rfl (SubE.nil)) rfl one3) rfl ?_
                      refine T_val (Ev_move rfl) rfl ?_
                      refine T_val (Ev_eql rfl rfl) rfl ?_
                      refine T_nil ?_
                      refine T_next ?_
                      refine T_caseP (s := 146) rfl (fun h1155 => ?_) (fun h1155 => ?_)
                      · have hx1156 := ite_t h1155 hx1146
                        refine T_condT rfl ?_
                        refine T_reg ?_
                        refine T_val (Ev_move rfl) rfl ?_
                        refine T_val (Ev_move rfl) rfl ?_
                        refine T_x (Wx_buildSlice rfl (bls27_1_0i64 _) rfl (fun g1157 => ?_))
                        obtain ⟨h1158, hx1159⟩ := gd_some hx1156
                        refine T_h (Wh_appendP e_i64 (s1139.1) [s1139.2] rfl rfl rfl elm27 (fun _ => rfl) (i' := 0) rfl rfl rfl rfl h1158 rfl (fun _ _ => .there (.here)) (fun _ _ => .drop .refl) (by decide) (fun A1160 c1161 => ?_))
                        refine T_val (Ev_assign rfl) rfl ?_
                        refine T_nil ?_
                        refine T_inN ?_
                        exact T_metP (s1139.1 ++ [s1139.2]) (A1160, c1161) hx1159 trivial (by exact .cons rfl (.cons rfl (.cons rfl (.cons rfl (.cons rfl (.cons rfl (.nil))))))) (by exact .pick 0 rfl (.pick 0 rfl (.pick 0 rfl (.pick 0 rfl (.refl)))))
                      · have hx1162 := ite_f h1155 hx1146
                        refine T_condF rfl ?_
                        refine T_skip ?_
                        refine T_inN ?_
                        exact T_metP s1139.1 (y1139.1, y1139.2) hx1162 trivial (by exact .cons rfl (.cons rfl (.cons rfl (.cons rfl (.cons rfl (.cons rfl (.nil))))))) (by exact .pick 0 rfl (.pick 0 rfl (.pick 0 rfl (.pick 0 rfl (.refl)))))
                  · have hx1143 := ite_f h1141 hx1139
                    refine T_condF rfl ?_
                    refine T_exit ?_
                    refine T_outX ?_
                    obtain rfl := exit_eq ht1139 hx1143
                    refine T_outX ?_
                    refine T_here ?_
                    exact T_metP s1139.1 (y1139.1, y1139.2) ho1139 trivial (by exact .cons rfl (.cons rfl (.cons rfl (.cons rfl (.cons rfl (.nil)))))) (by exact .pick 0 rfl (.pick 0 rfl (.pick 0 rfl (.pick 0 rfl (.refl)))))
            · skip
              refine T_reg ?_
              refine T_val (Ev_move rfl) rfl ?_
              refine T_val (Ev_move rfl) rfl ?_
              obtain ⟨x1083, h1084, hx1085⟩ := bnd_some hx1081
              have hw1093 := Has.low (E := []) ha0' hK
              obtain ⟨b1086, o1087, j1088, hA1089, hj1090, hl1091, hp1092⟩ := Has.at_idx hw1093 h1084
              refine T_val (Ev_index rfl rfl hA1089 (j := j1088) hj1090 hl1091 slc27) rfl ?_
              refine T_val (Ev_loadP0 rfl hp1092 (SubE.cons2 (i := 3) rfl (SubE.nil)) rfl one3) rfl ?_
              refine T_val (Ev_eql rfl rfl) rfl ?_
              refine T_val (Ev_move rfl) rfl ?_
              refine T_caseP (s := 126) rfl (fun h1094 => ?_) (fun h1094 => ?_)
              · have hx1095 := ite_t h1094 hx1085
                refine T_skipG rfl rfl rfl rfl rfl ?_
                refine T_skipG rfl rfl rfl rfl rfl ?_
                refine T_skipG rfl rfl rfl rfl rfl ?_
                refine T_skipG rfl rfl rfl rfl rfl ?_
                refine T_skipG rfl rfl rfl rfl rfl ?_
                refine T_skipG rfl rfl rfl rfl rfl ?_
                refine T_val (Ev_pickT rfl rfl) rfl ?_
                refine T_nil ?_
                exact T_metP true () hx1095 trivial (by exact .cons rfl (.cons rfl (.cons rfl (.cons rfl (.cons rfl (.nil)))))) (by exact .pick 0 rfl (.pick 0 rfl (.pick 0 rfl (.refl))))
              · have hx1096 := ite_f h1094 hx1085
                refine T_valG rfl rfl rfl (Ev_move rfl) rfl ?_
                refine T_valG rfl rfl rfl (Ev_move rfl) rfl ?_
                obtain ⟨x1097, h1098, hx1099⟩ := bnd_some hx1096
                refine T_idxR (k := 2) rfl (by decide) (fun _ => rfl) h1098 (fun b1100 j1102 hA1103 hj1104 hl1105 hm1107 hp1106 => ?_)
                refine T_valG rfl rfl rfl (Ev_index rfl rfl hA1103 (j := j1102) hj1104 hl1105 slc27) rfl ?_
                refine T_valG rfl rfl rfl (Ev_loadP0 rfl hp1106 (SubE.cons2 (i := 2) rfl (SubE.nil)) rfl one3) rfl ?_
                refine T_valG rfl rfl rfl (Ev_move rfl) rfl ?_
                refine T_valG rfl rfl rfl (Ev_neq rfl rfl) rfl ?_
                refine T_val (Ev_pickF rfl rfl) rfl ?_
                refine T_nil ?_
                exact T_metP (!(decide (x1097 = s1077.2))) () hx1099 trivial (by exact .cons rfl (.cons rfl (.cons rfl (.cons rfl (.cons rfl (.nil)))))) (by exact .pick 0 rfl (.pick 0 rfl (.pick 0 rfl (.refl))))
        · have hx1082 := ite_f h1080 hx1077
          refine T_condF rfl ?_
          refine T_exit ?_
          refine T_outX ?_
          obtain rfl := exit_eq ht1077 hx1082
          refine T_outX ?_
          refine T_here ?_
          exact T_metP s1077.1 (y1077.1, y1077.2.1, y1077.2.2.1, y1077.2.2.2) ho1077 ((by exact ⟨lo1078, (RowN.up (R := n_List_Int) (L := ([y1077.2.2.2] : List Ent)) n_List_Int_mono hr1079 (SubE.cons2 (i := 0) rfl (SubE.nil))), trivial⟩)) (by exact .cons rfl (.nil)) (by exact .pick 0 rfl (.pick 0 rfl (.drop 0 rfl (.refl))))
    · skip
      refine T_seq ?_
      refine T_reg ?_
      refine T_val (Ev_assign rfl) rfl ?_
      refine T_nil ?_
      refine T_next ?_
      refine T_block ?_
      obtain ⟨t505, hl505, ho505⟩ := bnd_some hx37
      refine T_loopP (σ := (List Int) × Bool) (γ := (Option Addr) × Nat) hl505 (fun s505 y505 => [(1, .slice (A0_0) ((p1).length) (c0_0)), (2, .pointer (some ⟨g1, 0, none⟩)), (5, .slice (y505.1) ((s505.1).length) (y505.2)), (7, .bool (s505.2))]) (fun s505 y505 => [.r (y505.1) ((s505.1).length) (y505.2) 3 1 ((s505.1).flatMap e_i64), .m g1 23 [.int .i64 (p0.X0), .int .i64 (p0.Y0), .int .i64 (p0.Step), .int .i64 (p0.NX), .int .i64 (p0.NY)]] ++ [.old w]) (fun s505 y505 => True) (y3.1, y3.2) trivial (by exact .cons rfl (.cons rfl (.cons rfl (.cons rfl (.nil))))) (by exact .pick 0 rfl (.pick 0 rfl (.refl))) ?_
      intro s505 y505 hG505 x505 hx505 ht505
      unfold lidarref09_groups_l7 at hx505
      refine T_seq ?_
      refine T_seq ?_
      refine T_reg ?_
      refine T_val (Ev_move rfl) rfl ?_
      refine T_nil ?_
      refine T_next ?_
      refine T_caseB (s := 29) rfl (fun h506 => ?_) (fun h506 => ?_)
      · have hx507 := ite_t h506 hx505
        refine T_condT rfl ?_
        refine T_skip ?_
        refine T_next ?_
        refine T_block ?_
        refine T_seq ?_
        refine T_reg ?_
        refine T_val (Ev_assign rfl) rfl ?_
        refine T_nil ?_
        refine T_next ?_
        refine T_seq ?_
        refine T_reg ?_
        refine T_val (Ev_assign rfl) rfl ?_
        refine T_nil ?_
        refine T_next ?_
        refine T_block ?_
        obtain ⟨t740, hl740, ho740⟩ := bnd_some hx507
        refine T_loopP (σ := (List Int) × Bool × Int) (γ := (Option Addr) × Nat) hl740 (fun s740 y740 => [(1, .slice (A0_0) ((p1).length) (c0_0)), (2, .pointer (some ⟨g1, 0, none⟩)), (5, .slice (y740.1) ((s740.1).length) (y740.2)), (7, .bool (s740.2.1)), (8, .int .i64 (s740.2.2))]) (fun s740 y740 => [.r (y740.1) ((s740.1).length) (y740.2) 3 1 ((s740.1).flatMap e_i64), .m g1 23 [.int .i64 (p0.X0), .int .i64 (p0.Y0), .int .i64 (p0.Step), .int .i64 (p0.NX), .int .i64 (p0.NY)]] ++ [.old w]) (fun s740 y740 => True) (y505.1, y505.2) trivial (by exact .cons rfl (.cons rfl (.cons rfl (.cons rfl (.cons rfl (.nil)))))) (by exact .pick 0 rfl (.pick 0 rfl (.refl))) ?_
        intro s740 y740 hG740 x740 hx740 ht740
        unfold lidarref09_groups_l10 at hx740
        refine T_seq ?_
        refine T_seq ?_
        refine T_reg ?_
        refine T_val (Ev_move rfl) rfl ?_
        refine T_val (Ev_move rfl) rfl ?_
        refine T_val (Ev_len rfl 3 Try.underlying27) rfl ?_
        refine T_val (Ev_lss rfl rfl) rfl ?_
        refine T_nil ?_
        refine T_next ?_
        refine T_caseP (s := 33) rfl (fun h741 => ?_) (fun h741 => ?_)
        · have hx742 := ite_t h741 hx740
          refine T_condT rfl ?_
          refine T_skip ?_
          refine T_next ?_
          obtain ⟨j86, hj86, hx742⟩ := jn_some hx742
          refine T_cutP (τ := (List Int) × Bool) (γ := (Option Addr) × Nat) (J := j86) (out := x740) (fun s86 y86 => [(1, .slice (A0_0) ((p1).length) (c0_0)), (2, .pointer (some ⟨g1, 0, none⟩)), (5, .slice (y86.1) ((s86.1).length) (y86.2)), (7, .bool (s86.2)), (8, .int .i64 (s740.2.2))]) (fun s86 y86 => [.r (y86.1) ((s86.1).length) (y86.2) 3 1 ((s86.1).flatMap e_i64), .m g1 23 [.int .i64 (p0.X0), .int .i64 (p0.Y0), .int .i64 (p0.Step), .int .i64 (p0.NX), .int .i64 (p0.NY)]] ++ [.old w]) (fun s86 y86 => True) ?_ ?_
          · intro s86 y86 hx969 hG970
            subst hj86
            refine T_reg ?_
            refine T_val (Ev_move rfl) rfl ?_
            refine T_val (Ev_add_w64 rfl rfl) rfl ?_
            refine T_val (Ev_assign rfl) rfl ?_
            refine T_nil ?_
            exact T_roundP (s86.1, s86.2, w64 (s740.2.2 + 1)) (y86.1, y86.2) hx969 trivial (by exact .cons rfl (.cons rfl (.cons rfl (.cons rfl (.cons rfl (.nil)))))) (by exact .pick 0 rfl (.pick 0 rfl (.refl)))
          · skip
            refine T_block ?_
            refine T_seq ?_
            refine T_reg ?_
            refine T_val (Ev_move rfl) rfl ?_
            refine T_val (Ev_field rfl fld23_3 rfl) rfl ?_
            refine T_val (Ev_load1 rfl (i := 1) rfl rfl one3) rfl ?_
            refine T_val (Ev_sub_w64 rfl rfl) rfl ?_
            refine T_val (Ev_move rfl) rfl ?_
            refine T_val (Ev_field rfl fld23_3 rfl) rfl ?_
            refine T_val (Ev_load1 rfl (i := 1) rfl rfl one3) rfl ?_
            refine T_val (Ev_add_w64 rfl rfl) rfl ?_
            refine T_x (Wx_buildSlice rfl (bls27_2_0i641i64 _ _) rfl (fun g744 => ?_))
            refine T_val (Ev_assign rfl) rfl ?_
            refine T_nil ?_
            refine T_next ?_
            obtain ⟨j88, hj88, hx742⟩ := jn_some hx742
            refine T_cutP (τ := List Int) (γ := (Option Addr) × Nat) (J := j88) (out := x740) (fun s88 y88 => [(1, .slice (A0_0) ((p1).length) (c0_0)), (2, .pointer (some ⟨g1, 0, none⟩)), (5, .slice (y740.1) ((s740.1).length) (y740.2)), (7, .bool (s740.2.1)), (8, .int .i64 (s740.2.2)), (9, .slice (y88.1) ((s88).length) (y88.2))]) (fun s88 y88 => [.r (y88.1) ((s88).length) (y88.2) 3 1 ((s88).flatMap e_i64), .r (y740.1) ((s740.1).length) (y740.2) 3 1 ((s740.1).flatMap e_i64), .m g1 23 [.int .i64 (p0.X0), .int .i64 (p0.Y0), .int .i64 (p0.Step), .int .i64 (p0.NX), .int .i64 (p0.NY)]] ++ [.old w]) (fun s88 y88 => True) ?_ ?_
            · intro s88 y88 hx755 hG756
              subst hj88
              obtain ⟨j90, hj90, hx755⟩ := jn_some hx755
              refine T_cutP (τ := List Int) (γ := (Option Addr) × Nat) (J := j90) (out := x740) (fun s90 y90 => [(1, .slice (A0_0) ((p1).length) (c0_0)), (2, .pointer (some ⟨g1, 0, none⟩)), (5, .slice (y740.1) ((s740.1).length) (y740.2)), (7, .bool (s740.2.1)), (8, .int .i64 (s740.2.2)), (9, .slice (y90.1) ((s90).length) (y90.2))]) (fun s90 y90 => [.r (y90.1) ((s90).length) (y90.2) 3 1 ((s90).flatMap e_i64), .r (y740.1) ((s740.1).length) (y740.2) 3 1 ((s740.1).flatMap e_i64), .m g1 23 [.int .i64 (p0.X0), .int .i64 (p0.Y0), .int .i64 (p0.Step), .int .i64 (p0.NX), .int .i64 (p0.NY)]] ++ [.old w]) (fun s90 y90 => True) ?_ ?_
              · intro s90 y90 hx767 hG768
                subst hj90
                refine T_seq ?_
                refine T_reg ?_
                refine T_val (Ev_assign rfl) rfl ?_
                refine T_nil ?_
                refine T_next ?_
                refine T_block ?_
                obtain ⟨t868, hl868, ho868⟩ := bnd_some hx767
                refine T_loopP (σ := (List Int) × Bool × Int) (γ := (Option Addr) × Nat) hl868 (fun s868 y868 => [(1, .slice (A0_0) ((p1).length) (c0_0)), (2, .pointer (some ⟨g1, 0, none⟩)), (5, .slice (y868.1) ((s868.1).length) (y868.2)), (7, .bool (s868.2.1)), (8, .int .i64 (s740.2.2)), (9, .slice (y90.1) ((s90).length) (y90.2)), (10, .int .i64 (s868.2.2))]) (fun s868 y868 => [.r (y90.1) ((s90).length) (y90.2) 3 1 ((s90).flatMap e_i64), .r (y868.1) ((s868.1).length) (y868.2) 3 1 ((s868.1).flatMap e_i64), .m g1 23 [.int .i64 (p0.X0), .int .i64 (p0.Y0), .int .i64 (p0.Step), .int .i64 (p0.NX), .int .i64 (p0.NY)]] ++ [.old w]) (fun s868 y868 => True) (y740.1, y740.2) trivial (by exact .cons rfl (.cons rfl (.cons rfl (.cons rfl (.cons rfl (.cons rfl (.cons rfl (.nil)))))))) (by exact .pick 0 rfl (.pick 0 rfl (.pick 0 rfl (.refl)))) ?_
                intro s868 y868 hG868 x868 hx868 ht868
                unfold lidarref09_groups_l18 at hx868
                refine T_seq ?_
                refine T_seq ?_
                refine T_reg ?_
                refine T_val (Ev_move rfl) rfl ?_
                refine T_val (Ev_move rfl) rfl ?_
                refine T_val (Ev_len rfl 3 Try.underlying27) rfl ?_
                refine T_val (Ev_lss rfl rfl) rfl ?_
                refine T_nil ?_
                refine T_next ?_
                refine T_caseP (s := 71) rfl (fun h869 => ?_) (fun h869 => ?_)
                · have hx870 := ite_t h869 hx868
                  refine T_condT rfl ?_
                  refine T_skip ?_
                  refine T_next ?_
                  obtain ⟨j101, hj101, hx870⟩ := jn_some hx870
                  refine T_cutP (τ := (List Int) × Bool) (γ := (Option Addr) × Nat) (J := j101) (out := x868) (fun s101 y101 => [(1, .slice (A0_0) ((p1).length) (c0_0)), (2, .pointer (some ⟨g1, 0, none⟩)), (5, .slice (y101.1) ((s101.1).length) (y101.2)), (7, .bool (s101.2)), (8, .int .i64 (s740.2.2)), (9, .slice (y90.1) ((s90).length) (y90.2)), (10, .int .i64 (s868.2.2))]) (fun s101 y101 => [.r (y90.1) ((s90).length) (y90.2) 3 1 ((s90).flatMap e_i64), .r (y101.1) ((s101.1).length) (y101.2) 3 1 ((s101.1).flatMap e_i64), .m g1 23 [.int .i64 (p0.X0), .int .i64 (p0.Y0), .int .i64 (p0.Step), .int .i64 (p0.NX), .int .i64 (p0.NY)]] ++ [.old w]) (fun s101 y101 => True) ?_ ?_
                  · intro s101 y101 hx963 hG964
                    subst hj101
                    refine T_reg ?_
                    refine T_val (Ev_move rfl) rfl ?_
                    refine T_val (Ev_add_w64 rfl rfl) rfl ?_
                    refine T_val (Ev_assign rfl) rfl ?_
                    refine T_nil ?_
                    exact T_roundP (s101.1, s101.2, w64 (s868.2.2 + 1)) (y101.1, y101.2) hx963 trivial (by exact .cons rfl (.cons rfl (.cons rfl (.cons rfl (.cons rfl (.cons rfl (.cons rfl (.nil)))))))) (by exact .pick 0 rfl (.pick 0 rfl (.pick 0 rfl (.refl))))
                  · skip
                    refine T_block ?_
                    refine T_seq ?_
                    refine T_reg ?_
                    refine T_val (Ev_move rfl) rfl ?_
                    refine T_val (Ev_move rfl) rfl ?_
                    obtain ⟨x872, h873, hx874⟩ := bnd_some hx870
                    refine T_idxR (k := 0) rfl (by decide) (fun _ => rfl) h873 (fun b875 j877 hA878 hj879 hl880 hm882 hp881 => ?_)
                    refine T_val (Ev_index rfl rfl hA878 (j := j877) hj879 hl880 slc27) rfl ?_
                    refine T_val (Ev_loadP0 rfl hp881 (SubE.cons2 (i := 0) rfl (SubE.nil)) rfl one3) rfl ?_
                    refine T_val (Ev_assign rfl) rfl ?_
                    refine T_nil ?_
                    refine T_next ?_
                    obtain ⟨j103, hj103, hx874⟩ := jn_some hx874
                    refine T_cutP (τ := Bool) (γ := Unit) (J := j103) (out := x868) (fun s103 y103 => [(1, .slice (A0_0) ((p1).length) (c0_0)), (2, .pointer (some ⟨g1, 0, none⟩)), (5, .slice (y868.1) ((s868.1).length) (y868.2)), (7, .bool (s868.2.1)), (8, .int .i64 (s740.2.2)), (9, .slice (y90.1) ((s90).length) (y90.2)), (10, .int .i64 (s868.2.2)), (11, .int .i64 (x872)), (107, .bool (s103))]) (fun s103 y103 => [.r (y90.1) ((s90).length) (y90.2) 3 1 ((s90).flatMap e_i64), .r (y868.1) ((s868.1).length) (y868.2) 3 1 ((s868.1).flatMap e_i64), .m g1 23 [.int .i64 (p0.X0), .int .i64 (p0.Y0), .int .i64 (p0.Step), .int .i64 (p0.NX), .int .i64 (p0.NY)]] ++ [.old w]) (fun s103 y103 => True) ?_ ?_
                    · intro s103 y103 hx936 hG937
                      subst hj103
                      refine T_caseB (s := 107) rfl (fun h938 => ?_) (fun h938 => ?_)
                      · have hx939 := ite_t h938 hx936
                        refine T_condT rfl ?_
                        refine T_seq ?_
                        refine T_reg ?_
                        refine T_val (Ev_move rfl) rfl ?_
                        refine T_val (Ev_move rfl) rfl ?_
                        refine T_val (Ev_move rfl) rfl ?_
                        refine T_val (Ev_move rfl) rfl ?_
                        obtain ⟨x940, h941, hx942⟩ := bnd_some hx939
                        refine T_idxR (k := 1) rfl (by decide) (fun _ => rfl) h941 (fun b943 j945 hA946 hj947 hl948 hm950 hp949 => ?_)
                        refine T_val (Ev_index rfl rfl hA946 (j := j945) hj947 hl948 slc27) rfl ?_
                        refine T_val (Ev_loadP0 rfl hp949 (SubE.cons2 (i := 1) rfl (SubE.nil)) rfl one3) rfl ?_
                        obtain ⟨x951, h952, hx953⟩ := bnd_some hx942
                        refine T_idxR (k := 1) rfl (by decide) (fun _ => rfl) h952 (fun b954 j956 hA957 hj958 hl959 hm961 hp960 => ?_)
                        refine T_val (Ev_index rfl rfl hA957 (j := j956) hj958 hl959 slc27) rfl ?_
                        refine T_h (Wh_storeP e_i64 (s868.1) (s740.2.2) (x940) rfl rfl rfl (.there (.here)) hA957 rfl hj958 hl959 (fun _ => rfl) (by decide) rfl one3.2 ?_)
                        refine T_nil ?_
                        refine T_next ?_
                        refine T_reg ?_
                        refine T_val (Ev_assign rfl) rfl ?_
                        refine T_nil ?_
                        refine T_inN ?_
                        have hn965 : (s868.1).length = (setI s868.1 s740.2.2 x940).length := by simp [setI_len, cpy_len, List.length_append] <;> omega
                        refine T_ent (.there (.here)) (e' := .r (y868.1) ((setI s868.1 s740.2.2 x940).length) (y868.2) 3 1 ((setI s868.1 s740.2.2 x940).flatMap e_i64)) (by first | (rw [← hn965]; done) | rfl) ?_
                        refine T_slot (s := 5) (v' := .slice (y868.1) ((setI s868.1 s740.2.2 x940).length) (y868.2)) rfl (by have hn966 : ((s868.1).length) = (setI s868.1 s740.2.2 x940).length := (by simp [setI_len, cpy_len, List.length_append] <;> omega); first | (rw [← hn966]; done) | rfl) ?_
                        exact T_metP (setI s868.1 s740.2.2 x940, true) (y868.1, y868.2) hx953 trivial (by exact .cons rfl (.cons rfl (.cons rfl (.cons rfl (.cons rfl (.cons rfl (.cons rfl (.nil)))))))) (by exact .pick 0 rfl (.pick 0 rfl (.pick 0 rfl (.refl))))
                      · have hx962 := ite_bf h938 hx936
                        refine T_condF rfl ?_
                        refine T_skip ?_
                        refine T_inN ?_
                        exact T_metP (s868.1, s868.2.1) (y868.1, y868.2) hx962 trivial (by exact .cons rfl (.cons rfl (.cons rfl (.cons rfl (.cons rfl (.cons rfl (.cons rfl (.nil)))))))) (by exact .pick 0 rfl (.pick 0 rfl (.pick 0 rfl (.refl))))
                    · skip
                      refine T_draw [0, 0, 0, 0, 0, 0, 0, 0, 0, 0, 0, 0, 1, 0, 0, 0, 1, 0, 0, 0, 0, 0, 0, 1, 0, 0, 0, 1, 0, 0] [[], [0], [0, 1], [0, 1, 2], [0, 1, 2], [0, 1, 2, 4], [0, 1, 2, 3, 4, 5], [0, 1, 2, 3, 4, 5, 6], [0, 1, 2, 3, 4, 5, 6, 7], [0, 1, 2, 3, 4, 5, 6, 7, 8], [0, 1, 2, 3, 4, 5, 6, 7, 8], [0, 1, 2, 3, 4, 5, 6, 7, 8, 9, 10], [0, 1, 2, 3, 4, 5, 6, 7, 8, 9, 10, 11], [0, 1, 2, 3, 4, 5, 6, 7, 8], [0, 1, 2, 3, 4, 5, 6, 7, 8], [0, 1, 2, 3, 4, 5, 6, 7, 8, 13, 14], [0, 1, 2, 3, 4, 5, 6, 7, 8, 13, 14, 15], [0, 1, 2, 3, 4, 5, 6, 7, 8, 9, 10, 11, 12, 13, 14, 15, 16], [0, 1, 2, 3, 4, 5, 6, 7, 8, 9, 10, 11, 12, 13, 14, 15, 16, 17], [0, 1, 2, 3, 4, 5, 6, 7, 8, 9, 10, 11, 12, 13, 14, 15, 16, 17, 18], [0, 1, 2, 3, 4, 5, 6, 7, 8, 9, 10, 11, 12, 13, 14, 15, 16, 17, 18, 19], [0, 1, 2, 3, 4, 5, 6, 7, 8, 9, 10, 11, 12, 13, 14, 15, 16, 17, 18, 19], [0, 1, 2, 3, 4, 5, 6, 7, 8, 9, 10, 11, 12, 13, 14, 15, 16, 17, 18, 19, 20, 21], [0, 1, 2, 3, 4, 5, 6, 7, 8, 9, 10, 11, 12, 13, 14, 15, 16, 17, 18, 19, 20, 21, 22], [0, 1, 2, 3, 4, 5, 6, 7, 8, 9, 10, 11, 12, 13, 14, 15, 16, 17, 18, 19], [0, 1, 2, 3, 4, 5, 6, 7, 8, 9, 10, 11, 12, 13, 14, 15, 16, 17, 18, 19], [0, 1, 2, 3, 4, 5, 6, 7, 8, 9, 10, 11, 12, 13, 14, 15, 16, 17, 18, 19, 24, 25], [0, 1, 2, 3, 4, 5, 6, 7, 8, 9, 10, 11, 12, 13, 14, 15, 16, 17, 18, 19, 24, 25, 26], [0, 1, 2, 3, 4, 5, 6, 7, 8, 9, 10, 11, 12, 13, 14, 15, 16, 17, 18, 19, 20, 21, 22, 23, 24, 25, 26, 27], [0, 1, 2, 3, 4, 5, 6, 7, 8, 9, 10, 11, 12, 13, 14, 15, 16, 17, 18, 19, 20, 21, 22, 23, 24, 25, 26, 27, 28]] (.q 0 (.q 1 (.q 2 (.q 3 (.q 4 (.q 5 (.q 6 (.q 7 (.q 8 (.q 9 (.q 10 (.q 11 (.q 12 (.q 13 (.q 14 (.q 15 (.q 16 (.q 17 (.q 18 (.q 19 (.q 20 (.q 21 (.q 22 (.q 23 (.q 24 (.q 25 (.q 26 (.q 27 (.q 28 (.q 29 (.done))))))))))))))))))))))))))))))) mixed (by kernel_rfl) (by kernel_rfl) ?_
                      refine P_p rfl rfl (Ev_move rfl) rfl ?_
                      refine P_p rfl rfl (Ev_geq rfl rfl) rfl ?_
                      refine P_p rfl rfl (Ev_move rfl) rfl ?_
                      refine T_caseP (s := 80) rfl (fun h883 => ?_) (fun h883 => ?_)
                      · have hx884 := ite_t h883 hx874
                        refine P_pG rfl rfl rfl rfl rfl (Ev_move rfl) rfl ?_
                        refine P_pG rfl rfl rfl rfl rfl (Ev_move rfl) rfl ?_
                        refine P_pG rfl rfl rfl rfl rfl (Ev_len rfl 3 Try.underlying27) rfl ?_
                        refine P_pG rfl rfl rfl rfl rfl (Ev_lss rfl rfl) rfl ?_
                        refine P_p rfl rfl (Ev_pickT rfl rfl) rfl ?_
                        refine P_p rfl rfl (Ev_move rfl) rfl ?_
                        refine T_caseP (s := 86) rfl (fun h885 => ?_) (fun h885 => ?_)
                        · have hx886 := ite_t h885 hx884
                          refine P_pG rfl rfl rfl rfl rfl (Ev_move rfl) rfl ?_
                          refine P_pG rfl rfl rfl rfl rfl (Ev_move rfl) rfl ?_
                          obtain ⟨x887, h888, hx889⟩ := bnd_some hx886
                          have hw897 := Has.low (E := []) ha0' hK
                          obtain ⟨b890, o891, j892, hA893, hj894, hl895, hp896⟩ := Has.at_idx hw897 h888
                          refine P_pG rfl rfl rfl rfl rfl (Ev_index rfl rfl hA893 (j := j892) hj894 hl895 slc27) rfl ?_
                          refine P_qG rfl rfl rfl rfl rfl (Ev_loadP0 rfl hp896 (SubE.cons2 (i := 3) rfl (SubE.nil)) rfl one3) rfl ?_
                          refine P_pG rfl rfl rfl rfl rfl (Ev_move rfl) rfl ?_
                          refine P_pG rfl rfl rfl rfl rfl (Ev_move rfl) rfl ?_
                          obtain ⟨x898, h899, hx900⟩ := bnd_some hx889
                          have hw908 := Has.low (E := []) ha0' hK
                          obtain ⟨b901, o902, j903, hA904, hj905, hl906, hp907⟩ := Has.at_idx hw908 h899
                          refine P_pG rfl rfl rfl rfl rfl (Ev_index rfl rfl hA904 (j := j903) hj905 hl906 slc27) rfl ?_
                          refine P_qG rfl rfl rfl rfl rfl (Ev_loadP0 rfl hp907 (SubE.cons2 (i := 3) rfl (SubE.nil)) rfl one3) rfl ?_
                          refine P_pG rfl rfl rfl rfl rfl (Ev_eql rfl rfl) rfl ?_
                          refine P_p rfl rfl (Ev_pickT rfl rfl) rfl ?_
                          refine P_p rfl rfl (Ev_move rfl) rfl ?_
                          refine T_caseP (s := 97) rfl (fun h909 => ?_) (fun h909 => ?_)
                          · have hx910 := ite_t h909 hx900
                            refine P_pG rfl rfl rfl rfl rfl (Ev_move rfl) rfl ?_
                            refine P_pG rfl rfl rfl rfl rfl (Ev_move rfl) rfl ?_
                            obtain ⟨x911, h912, hx913⟩ := bnd_some hx910
                            refine T_idxR (k := 1) rfl (by decide) (fun _ => rfl) h912 (fun b914 j916 hA917 hj918 hl919 hm921 hp920 => ?_)
                            refine P_pG rfl rfl rfl rfl rfl (Ev_index rfl rfl hA917 (j := j916) hj918 hl919 slc27) rfl ?_
                            refine P_qG rfl rfl rfl rfl rfl (Ev_loadP0 rfl hp920 (SubE.cons2 (i := 1) rfl (SubE.nil)) rfl one3) rfl ?_
                            refine P_pG rfl rfl rfl rfl rfl (Ev_move rfl) rfl ?_
                            refine P_pG rfl rfl rfl rfl rfl (Ev_move rfl) rfl ?_
                            obtain ⟨x922, h923, hx924⟩ := bnd_some hx913
                            refine T_idxR (k := 1) rfl (by decide) (fun _ => rfl) h923 (fun b925 j927 hA928 hj929 hl930 hm932 hp931 => ?_)
                            refine P_pG rfl rfl rfl rfl rfl (Ev_index rfl rfl hA928 (j := j927) hj929 hl930 slc27) rfl ?_
                            refine P_qG rfl rfl rfl rfl rfl (Ev_loadP0 rfl hp931 (SubE.cons2 (i := 1) rfl (SubE.nil)) rfl one3) rfl ?_
                            refine P_pG rfl rfl rfl rfl rfl (Ev_lss rfl rfl) rfl ?_
                            refine P_p rfl rfl (Ev_pickT rfl rfl) rfl ?_
                            refine P_done ?_
                            exact T_metP (decide (x911 < x922)) () hx924 trivial (by exact .cons rfl (.cons rfl (.cons rfl (.cons rfl (.cons rfl (.cons rfl (.cons rfl (.cons rfl (.cons rfl (.nil)))))))))) (by exact .pick 0 rfl (.pick 0 rfl (.pick 0 rfl (.refl))))
                          · have hx933 := ite_f h909 hx900
                            refine P_skip rfl rfl rfl rfl rfl rfl ?_
                            refine P_skip rfl rfl rfl rfl rfl rfl ?_
                            refine P_skip rfl rfl rfl rfl rfl rfl ?_
                            refine P_skip rfl rfl rfl rfl rfl rfl ?_
                            refine P_skip rfl rfl rfl rfl rfl rfl ?_
                            refine P_skip rfl rfl rfl rfl rfl rfl ?_
                            refine P_skip rfl rfl rfl rfl rfl rfl ?_
                            refine P_skip rfl rfl rfl rfl rfl rfl ?_
                            refine P_skip rfl rfl rfl rfl rfl rfl ?_
                            refine P_p rfl rfl (Ev_pickF rfl rfl) rfl ?_
                            refine P_done ?_
                            exact T_metP false () hx933 trivial (by exact .cons rfl (.cons rfl (.cons rfl (.cons rfl (.cons rfl (.cons rfl (.cons rfl (.cons rfl (.cons rfl (.nil)))))))))) (by exact .pick 0 rfl (.pick 0 rfl (.pick 0 rfl (.refl))))
                        · have hx934 := ite_f h885 hx884
                          refine P_skip rfl rfl rfl rfl rfl rfl ?_
                          refine P_skip rfl rfl rfl rfl rfl rfl ?_
                          refine P_skip rfl rfl rfl rfl rfl rfl ?_
                          refine P_skip rfl rfl rfl rfl rfl rfl ?_
                          refine P_skip rfl rfl rfl rfl rfl rfl ?_
                          refine P_skip rfl rfl rfl rfl rfl rfl ?_
                          refine P_skip rfl rfl rfl rfl rfl rfl ?_
                          refine P_skip rfl rfl rfl rfl rfl rfl ?_
                          refine P_skip rfl rfl rfl rfl rfl rfl ?_
                          refine P_p rfl rfl (Ev_pickF rfl rfl) rfl ?_
                          refine P_p rfl rfl (Ev_move rfl) rfl ?_
                          refine P_skip rfl rfl rfl rfl rfl rfl ?_
                          refine P_skip rfl rfl rfl rfl rfl rfl ?_
                          refine P_skip rfl rfl rfl rfl rfl rfl ?_
                          refine P_skip rfl rfl rfl rfl rfl rfl ?_
                          refine P_skip rfl rfl rfl rfl rfl rfl ?_
                          refine P_skip rfl rfl rfl rfl rfl rfl ?_
                          refine P_skip rfl rfl rfl rfl rfl rfl ?_
                          refine P_skip rfl rfl rfl rfl rfl rfl ?_
                          refine P_skip rfl rfl rfl rfl rfl rfl ?_
                          refine P_p rfl rfl (Ev_pickF rfl rfl) rfl ?_
                          refine P_done ?_
                          exact T_metP false () hx934 trivial (by exact .cons rfl (.cons rfl (.cons rfl (.cons rfl (.cons rfl (.cons rfl (.cons rfl (.cons rfl (.cons rfl (.nil)))))))))) (by exact .pick 0 rfl (.pick 0 rfl (.pick 0 rfl (.refl))))
                      · have hx935 := ite_f h883 hx874
                        refine P_skip rfl rfl rfl rfl rfl rfl ?_
                        refine P_skip rfl rfl rfl rfl rfl rfl ?_
                        refine P_skip rfl rfl rfl rfl rfl rfl ?_
                        refine P_skip rfl rfl rfl rfl rfl rfl ?_
                        refine P_p rfl rfl (Ev_pickF rfl rfl) rfl ?_
                        refine P_p rfl rfl (Ev_move rfl) rfl ?_
                        refine P_skip rfl rfl rfl rfl rfl rfl ?_
                        refine P_skip rfl rfl rfl rfl rfl rfl ?_
                        refine P_skip rfl rfl rfl rfl rfl rfl ?_
                        refine P_skip rfl rfl rfl rfl rfl rfl ?_
                        refine P_skip rfl rfl rfl rfl rfl rfl ?_
                        refine P_skip rfl rfl rfl rfl rfl rfl ?_
                        refine P_skip rfl rfl rfl rfl rfl rfl ?_
                        refine P_skip rfl rfl rfl rfl rfl rfl ?_
                        refine P_skip rfl rfl rfl rfl rfl rfl ?_
                        refine P_p rfl rfl (Ev_pickF rfl rfl) rfl ?_
                        refine P_p rfl rfl (Ev_move rfl) rfl ?_
                        refine P_skip rfl rfl rfl rfl rfl rfl ?_
                        refine P_skip rfl rfl rfl rfl rfl rfl ?_
                        refine P_skip rfl rfl rfl rfl rfl rfl ?_
                        refine P_skip rfl rfl rfl rfl rfl rfl ?_
                        refine P_skip rfl rfl rfl rfl rfl rfl ?_
                        refine P_skip rfl rfl rfl rfl rfl rfl ?_
                        refine P_skip rfl rfl rfl rfl rfl rfl ?_
                        refine P_skip rfl rfl rfl rfl rfl rfl ?_
                        refine P_skip rfl rfl rfl rfl rfl rfl ?_
                        refine P_p rfl rfl (Ev_pickF rfl rfl) rfl ?_
                        refine P_done ?_
                        exact T_metP false () hx935 trivial (by exact .cons rfl (.cons rfl (.cons rfl (.cons rfl (.cons rfl (.cons rfl (.cons rfl (.cons rfl (.cons rfl (.nil)))))))))) (by exact .pick 0 rfl (.pick 0 rfl (.pick 0 rfl (.refl))))
                · have hx871 := ite_f h869 hx868
                  refine T_condF rfl ?_
                  refine T_exit ?_
                  refine T_outX ?_
                  obtain rfl := exit_eq ht868 hx871
                  refine T_outX ?_
                  refine T_here ?_
                  refine T_inN ?_
                  exact T_metP (s868.1, s868.2.1) (y868.1, y868.2) ho868 trivial (by exact .cons rfl (.cons rfl (.cons rfl (.cons rfl (.cons rfl (.nil)))))) (by exact .pick 1 rfl (.pick 1 rfl (.drop 0 rfl (.refl))))
              · skip
                refine T_seq ?_
                refine T_draw [0, 0, 1, 0, 0, 1, 0, 0] [[], [], [1], [0, 1, 2], [], [4], [4, 5], [0, 1, 2, 3, 4, 5, 6]] (.q 0 (.q 1 (.q 2 (.q 3 (.q 4 (.q 5 (.q 6 (.q 7 (.done))))))))) mixed (by kernel_rfl) (by kernel_rfl) ?_
                refine P_p rfl rfl (Ev_move rfl) rfl ?_
                refine P_p rfl rfl (Ev_field rfl fld23_3 rfl) rfl ?_
                refine P_q rfl rfl (Ev_load1 rfl (i := 2) rfl rfl one3) rfl ?_
                obtain ⟨h757, hx758⟩ := gd_some hx755
                refine P_p rfl rfl (Ev_rem rfl rfl h757) rfl ?_
                refine P_p rfl rfl (Ev_field rfl fld23_3 rfl) rfl ?_
                refine P_q rfl rfl (Ev_load1 rfl (i := 2) rfl rfl one3) rfl ?_
                refine P_p rfl rfl (Ev_sub_w64 rfl rfl) rfl ?_
                refine P_p rfl rfl (Ev_lss rfl rfl) rfl ?_
                refine P_done ?_
                refine T_next ?_
                refine T_caseP (s := 62) rfl (fun h759 => ?_) (fun h759 => ?_)
                · have hx760 := ite_t h759 hx758
                  refine T_condT rfl ?_
                  refine T_reg ?_
                  refine T_val (Ev_move rfl) rfl ?_
                  refine T_val (Ev_move rfl) rfl ?_
                  refine T_val (Ev_add_w64 rfl rfl) rfl ?_
                  refine T_x (Wx_buildSlice rfl (bls27_1_0i64 _) rfl (fun g761 => ?_))
                  obtain ⟨h762, hx763⟩ := gd_some hx760
                  refine T_h (Wh_appendP e_i64 (s88) [w64 (s740.2.2 + 1)] rfl rfl rfl elm27 (fun _ => rfl) (i' := 0) rfl rfl rfl rfl h762 rfl (fun _ _ => .there (.here)) (fun _ _ => .drop .refl) (by decide) (fun A764 c765 => ?_))
                  refine T_val (Ev_assign rfl) rfl ?_
                  refine T_nil ?_
                  exact T_metP (s88 ++ [w64 (s740.2.2 + 1)]) (A764, c765) hx763 trivial (by exact .cons rfl (.cons rfl (.cons rfl (.cons rfl (.cons rfl (.cons rfl (.nil))))))) (by exact .pick 0 rfl (.pick 0 rfl (.pick 0 rfl (.refl))))
                · have hx766 := ite_f h759 hx758
                  refine T_condF rfl ?_
                  refine T_skip ?_
                  exact T_metP s88 (y88.1, y88.2) hx766 trivial (by exact .cons rfl (.cons rfl (.cons rfl (.cons rfl (.cons rfl (.cons rfl (.nil))))))) (by exact .pick 0 rfl (.pick 0 rfl (.pick 0 rfl (.refl))))
            · skip
              refine T_seq ?_
              refine T_reg ?_
              refine T_val (Ev_move rfl) rfl ?_
              refine T_val (Ev_field rfl fld23_3 rfl) rfl ?_
              refine T_val (Ev_load1 rfl (i := 2) rfl rfl one3) rfl ?_
              obtain ⟨h745, hx746⟩ := gd_some hx742
              refine T_val (Ev_rem rfl rfl h745) rfl ?_
              refine T_val (Ev_gtr rfl rfl) rfl ?_
              refine T_nil ?_
              refine T_next ?_
              refine T_caseP (s := 49) rfl (fun h747 => ?_) (fun h747 => ?_)
              · have hx748 := ite_t h747 hx746
                refine T_condT rfl ?_
                refine T_reg ?_
                refine T_val (Ev_move rfl) rfl ?_
                refine T_val (Ev_move rfl) rfl ?_
                refine T_val (Ev_sub_w64 rfl rfl) rfl ?_
                refine T_x (Wx_buildSlice rfl (bls27_1_0i64 _) rfl (fun g749 => ?_))
                refine T_mr (enc := e_i64) (sz := 1) ([w64 (s740.2.2 - p0.NX), w64 (s740.2.2 + p0.NX)]) (.there (.here)) rfl rfl (fun _ => rfl) (by show 2 ≤ maxLen; decide) ?_
                obtain ⟨h750, hx751⟩ := gd_some hx748
                refine T_h (Wh_appendP e_i64 ([w64 (s740.2.2 - p0.NX), w64 (s740.2.2 + p0.NX)]) [w64 (s740.2.2 - 1)] rfl rfl rfl elm27 (fun _ => rfl) (i' := 0) rfl rfl rfl rfl h750 rfl (fun _ _ => .there (.here)) (fun _ _ => .drop .refl) (by decide) (fun A752 c753 => ?_))
                refine T_val (Ev_assign rfl) rfl ?_
                refine T_nil ?_
                exact T_metP (([w64 (s740.2.2 - p0.NX), w64 (s740.2.2 + p0.NX)]) ++ [w64 (s740.2.2 - 1)]) (A752, c753) hx751 trivial (by exact .cons rfl (.cons rfl (.cons rfl (.cons rfl (.cons rfl (.cons rfl (.nil))))))) (by exact .pick 0 rfl (.pick 0 rfl (.pick 0 rfl (.refl))))
              · have hx754 := ite_f h747 hx746
                refine T_condF rfl ?_
                refine T_skip ?_
                refine T_mr (enc := e_i64) (sz := 1) ([w64 (s740.2.2 - p0.NX), w64 (s740.2.2 + p0.NX)]) (.here) rfl rfl (fun _ => rfl) (by show 2 ≤ maxLen; decide) ?_
                have hn967 : 2 = ([w64 (s740.2.2 - p0.NX), w64 (s740.2.2 + p0.NX)]).length := by simp [setI_len, cpy_len, List.length_append] <;> omega
                refine T_ent (.here) (e' := .r (some ⟨g744, 0, none⟩) (([w64 (s740.2.2 - p0.NX), w64 (s740.2.2 + p0.NX)]).length) (2) 3 1 (([w64 (s740.2.2 - p0.NX), w64 (s740.2.2 + p0.NX)]).flatMap e_i64)) (by first | (rw [← hn967]; done) | rfl) ?_
                refine T_slot (s := 9) (v' := .slice (some ⟨g744, 0, none⟩) (([w64 (s740.2.2 - p0.NX), w64 (s740.2.2 + p0.NX)]).length) (2)) rfl (by have hn968 : (2) = ([w64 (s740.2.2 - p0.NX), w64 (s740.2.2 + p0.NX)]).length := (by simp [setI_len, cpy_len, List.length_append] <;> omega); first | (rw [← hn968]; done) | rfl) ?_
                exact T_metP ([w64 (s740.2.2 - p0.NX), w64 (s740.2.2 + p0.NX)]) (some ⟨g744, 0, none⟩, 2) hx754 trivial (by exact .cons rfl (.cons rfl (.cons rfl (.cons rfl (.cons rfl (.cons rfl (.nil))))))) (by exact .pick 0 rfl (.pick 0 rfl (.pick 0 rfl (.refl))))
        · have hx743 := ite_f h741 hx740
          refine T_condF rfl ?_
          refine T_exit ?_
          refine T_outX ?_
          obtain rfl := exit_eq ht740 hx743
          refine T_outX ?_
          refine T_here ?_
          refine T_inN ?_
          exact T_roundP (s740.1, s740.2.1) (y740.1, y740.2) ho740 trivial (by exact .cons rfl (.cons rfl (.cons rfl (.cons rfl (.nil))))) (by exact .pick 0 rfl (.pick 0 rfl (.refl)))
      · have hx508 := ite_bf h506 hx505
        refine T_condF rfl ?_
        refine T_exit ?_
        refine T_outX ?_
        obtain rfl := exit_eq ht505 hx508
        refine T_outX ?_
        refine T_here ?_
        exact T_metP s505.1 (y505.1, y505.2) ho505 trivial (by exact .cons rfl (.cons rfl (.nil))) (by exact .pick 0 rfl (.drop 0 rfl (.refl)))
  · skip
    refine T_seq ?_
    refine T_reg ?_
    refine T_val (Ev_assign rfl) rfl ?_
    refine T_nil ?_
    refine T_next ?_
    refine T_block ?_
    obtain ⟨t20, hl20, ho20⟩ := bnd_some hx4
    refine T_loopP (σ := (List Int) × Int) (γ := (Option Addr) × Nat) hl20 (fun s20 y20 => [(1, .slice (A0_0) ((p1).length) (c0_0)), (2, .pointer (some ⟨g1, 0, none⟩)), (5, .slice (y20.1) ((s20.1).length) (y20.2)), (6, .int .i64 (s20.2))]) (fun s20 y20 => [.r (y20.1) ((s20.1).length) (y20.2) 3 1 ((s20.1).flatMap e_i64), .m g1 23 [.int .i64 (p0.X0), .int .i64 (p0.Y0), .int .i64 (p0.Step), .int .i64 (p0.NX), .int .i64 (p0.NY)]] ++ [.old w]) (fun s20 y20 => True) (A2, (List.replicate (Int.toNat ((((p1).length : Nat) : Int))) (0 : Int)).length) trivial (by exact .cons rfl (.cons rfl (.cons rfl (.cons rfl (.nil))))) (by exact .pick 0 rfl (.pick 0 rfl (.refl))) ?_
    intro s20 y20 hG20 x20 hx20 ht20
    unfold lidarref09_groups_l3 at hx20
    refine T_seq ?_
    refine T_seq ?_
    refine T_reg ?_
    refine T_val (Ev_move rfl) rfl ?_
    refine T_val (Ev_move rfl) rfl ?_
    refine T_val (Ev_len rfl 3 Try.underlying27) rfl ?_
    refine T_val (Ev_lss rfl rfl) rfl ?_
    refine T_nil ?_
    refine T_next ?_
    refine T_caseP (s := 22) rfl (fun h21 => ?_) (fun h21 => ?_)
    · have hx22 := ite_t h21 hx20
      refine T_condT rfl ?_
      refine T_skip ?_
      refine T_next ?_
      refine T_seq ?_
      refine T_block ?_
      refine T_reg ?_
      refine T_val (Ev_move rfl) rfl ?_
      refine T_val (Ev_move rfl) rfl ?_
      refine T_val (Ev_move rfl) rfl ?_
      obtain ⟨x24, h25, hx26⟩ := bnd_some hx22
      refine T_idxR (k := 0) rfl (by decide) (fun _ => rfl) h25 (fun b27 j29 hA30 hj31 hl32 hm34 hp33 => ?_)
      refine T_val (Ev_index rfl rfl hA30 (j := j29) hj31 hl32 slc27) rfl ?_
      refine T_h (Wh_storeP e_i64 (s20.1) (s20.2) (s20.2) rfl rfl rfl (.here) hA30 rfl hj31 hl32 (fun _ => rfl) (by decide) rfl one3.2 ?_)
      refine T_nil ?_
      refine T_inN ?_
      refine T_next ?_
      refine T_reg ?_
      refine T_val (Ev_move rfl) rfl ?_
      refine T_val (Ev_add_w64 rfl rfl) rfl ?_
      refine T_val (Ev_assign rfl) rfl ?_
      refine T_nil ?_
      have hn35 : (s20.1).length = (setI s20.1 s20.2 s20.2).length := by simp [setI_len, cpy_len, List.length_append] <;> omega
      refine T_ent (.here) (e' := .r (y20.1) ((setI s20.1 s20.2 s20.2).length) (y20.2) 3 1 ((setI s20.1 s20.2 s20.2).flatMap e_i64)) (by first | (rw [← hn35]; done) | rfl) ?_
      refine T_slot (s := 5) (v' := .slice (y20.1) ((setI s20.1 s20.2 s20.2).length) (y20.2)) rfl (by have hn36 : ((s20.1).length) = (setI s20.1 s20.2 s20.2).length := (by simp [setI_len, cpy_len, List.length_append] <;> omega); first | (rw [← hn36]; done) | rfl) ?_
      exact T_roundP (setI s20.1 s20.2 s20.2, w64 (s20.2 + 1)) (y20.1, y20.2) hx26 trivial (by exact .cons rfl (.cons rfl (.cons rfl (.cons rfl (.nil))))) (by exact .pick 0 rfl (.pick 0 rfl (.refl)))
    · have hx23 := ite_f h21 hx20
      refine T_condF rfl ?_
      refine T_exit ?_
      refine T_outX ?_
      obtain rfl := exit_eq ht20 hx23
      refine T_outX ?_
      refine T_here ?_
      exact T_metP s20.1 (y20.1, y20.2) ho20 trivial (by exact .cons rfl (.cons rfl (.cons rfl (.nil)))) (by exact .pick 0 rfl (.pick 0 rfl (.refl)))
end Go.Proofs.Ytjhknbpiaikblaa
