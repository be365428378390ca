/- Walks of the program, with their plain functions: cuts. -/
import Derived.Test.YtjhknbpiaikblaaN7
namespace Go.Proofs.Ytjhknbpiaikblaa
open Go Go.RowKit
theorem bld26_0ai64i64i64i64i64 (x0 : Int) (x1 : Int) (x2 : Int) (x3 : Int) (x4 : Int) : BuildOf Try.prog 26 [(0, .agg #[.int .i64 x0, .int .i64 x1, .int .i64 x2, .int .i64 x3, .int .i64 x4])] [.int .i64 x0, .int .i64 x1, .int .i64 x2, .int .i64 x3, .int .i64 x4, .slice (none) (0) (0)] := fun w => by kernel_rfl
theorem bls24_1_0abi64i64 (x0 : Bool) (x1 : Int) (x2 : Int) : BuildSliceOf Try.prog 24 1 [(0, .agg #[.bool x0, .int .i64 x1, .int .i64 x2])] 41 [.bool x0, .int .i64 x1, .int .i64 x2] := fun w => by kernel_rfl
theorem elm24 : ElemOf Try.prog 24 41 3 24 := ⟨Try.underlying24, ⟨Try.t41, .agg #[.bool (false), .int .i64 (0), .int .i64 (0)], by kernel_rfl, by kernel_rfl, by kernel_rfl, by kernel_rfl, rfl⟩, by decide⟩
noncomputable def model_Cut_l7 (p0 : S_api_Grid) (p1 : Int) : (Int × Int × Int) → Option (Sum (Int × Int × Int) (Int × Int)) := fun s37 =>
 if s37.2.2 < ((((p0.Cells).length : Nat) : Int)) then (jn (fun (s19 : Int × Int) =>
 some (.inl (s19.1, s19.2, w64 (s37.2.2 + 1))))
 (fun j19 => bnd (idx p0.Cells s37.2.2) fun x41 =>
 if x41.Void = true then (j19 (s37.1, s37.2.1))
 else (j19 (w64 (s37.1 + (w64 (x41.Z.Lo - p1))), w64 (s37.2.1 + (w64 (x41.Z.Hi - p1)))))))
 else (some (.inr (s37.1, s37.2.1)))
noncomputable def model_Cut (p0 : S_api_Grid) (p1 : Int) : Option (S_api_Rat × S_api_Rat × Int) :=
 bnd (model_Valid p0) fun r4 =>
 if r4 = true then (bnd (model_validCoord p1) fun r10 =>
 if r10 = true then (jn (fun (s9 : Int × Int) =>
 bnd (model_times p0.Raster s9.1) fun r60 =>
 bnd (model_times p0.Raster s9.2) fun r71 =>
 some (r60, r71, 0))
 (fun j9 => bnd (lfix (model_Cut_l7 p0 p1) (0, 0, 0)) fun t37 =>
 j9 t37))
 else (some ((⟨false, ([] : List Int), ([] : List Int)⟩ : S_api_Rat), (⟨false, ([] : List Int), ([] : List Int)⟩ : S_api_Rat), 2)))
 else (some ((⟨false, ([] : List Int), ([] : List Int)⟩ : S_api_Rat), (⟨false, ([] : List Int), ([] : List Int)⟩ : S_api_Rat), 90))
noncomputable def lidarlaw09_ModelCuts_l11 (p0 : S_api_Grid) (p1 : Int) : ((List S_api_Cell) × (List Int) × Int) → Option (Sum ((List S_api_Cell) × (List Int) × Int) ((List S_api_Cell) × (List Int))) := fun s114 =>
 if s114.2.2 < ((((p0.Cells).length : Nat) : Int)) then (jn (fun (s22 : (List S_api_Cell) × (List Int)) =>
 some (.inl (s22.1, s22.2, w64 (s114.2.2 + 1))))
 (fun j22 => bnd (lidarlaw09_known p1 p1) fun r120 =>
 gd (((s114.1).length + 1) * 24 ≤ 140737488355328) <|
 bnd (idx p0.Cells s114.2.2) fun x128 =>
 if x128.Void = true then (j22 (s114.1 ++ [r120], s114.2.1))
 else (gd (((s114.2.1).length + 1) * 8 ≤ 140737488355328) <|
 j22 (s114.1 ++ [r120], s114.2.1 ++ [s114.2.2]))))
 else (some (.inr (s114.1, s114.2.1)))
noncomputable def lidarlaw09_ModelCuts (p0 : S_api_Grid) (p1 : Int) : Option Bool :=
 bnd (lidarlaw09_heavy p0) fun r2 =>
 if r2 = true then (bnd (lidarlaw09_first) fun r7 =>
 some r7)
 else (bnd (model_Cut p0 p1) fun r11 =>
 bnd (lidarref09_Valid p0) fun r36 =>
 if r36 = true then (jn (fun (s9 : Bool) =>
 if s9 = true then (jn (fun (s10 : Bool) =>
 some s10)
 (fun j10 => if r11.2.2 = 2 then (if ((((r11.1.Num).length : Nat) : Int)) = 0 then (if ((((r11.2.1.Num).length : Nat) : Int)) = 0 then (bnd (lidarlaw09_first) fun r69 =>
 j10 r69)
 else (j10 false))
 else (j10 false))
 else (j10 false)))
 else (jn (fun (s13 : (List S_api_Cell) × (List Int)) =>
 bnd (lidarref09_Amount (⟨p0.Raster, s13.1⟩ : S_api_Grid) p0 s13.2) fun r155 =>
 jn (fun (s26 : Bool) =>
 some s26)
 (fun j26 => if r11.2.2 = 0 then (bnd (lidarref01_Same r11.1 r155.1) fun r182 =>
 if r182 = true then (bnd (lidarref01_Same r11.2.1 r155.2) fun r189 =>
 if r189 = true then (bnd (lidarlaw09_first) fun r194 =>
 j26 r194)
 else (j26 false))
 else (j26 false))
 else (j26 false)))
 (fun j13 => bnd (lfix (lidarlaw09_ModelCuts_l11 p0 p1) (([] : List S_api_Cell), ([] : List Int), 0)) fun t114 =>
 j13 t114)))
 (fun j9 => if p1 < (-268435456) then (j9 true)
 else (j9 (decide (268435456 < p1)))))
 else (jn (fun (s8 : Bool) =>
 some s8)
 (fun j8 => if r11.2.2 = 90 then (if ((((r11.1.Num).length : Nat) : Int)) = 0 then (if ((((r11.2.1.Num).length : Nat) : Int)) = 0 then (bnd (lidarlaw09_first) fun r47 =>
 j8 r47)
 else (j8 false))
 else (j8 false))
 else (j8 false))))
set_option maxRecDepth 100000 in
theorem model_Cut_ok (p0 : S_api_Grid) (p1 : Int) {K : List Ent} {A0_0 : Option Addr} {c0_0 : Nat} (ha0 : Has K A0_0 (p0.Cells).length c0_0 3 e_api_Cell (p0.Cells)) {r : S_api_Rat × S_api_Rat × Int} (hx : model_Cut p0 p1 = some r) (w : World) (hK : ∀ e ∈ K, Ent.ok w e) : CtL Try.prog 27 [.agg #[.int .i64 (p0.Raster.X0), .int .i64 (p0.Raster.Y0), .int .i64 (p0.Raster.Step), .int .i64 (p0.Raster.NX), .int .i64 (p0.Raster.NY), .slice (A0_0) ((p0.Cells).length) (c0_0)], .int .i64 (p1)] w fun v Ln => ∃ (A0 : Option Addr) (c0 : Nat) (A2 : Option Addr) (c2 : Nat) (A4 : Option Addr) (c4 : Nat) (A6 : Option Addr) (c6 : Nat) (e0 : Ent) (e1 : Ent), v = .tuple #[.agg #[.bool (r.1.Neg), .slice (A0) ((r.1.Num).length) (c0), .slice (A2) ((r.1.Den).length) (c2)], .agg #[.bool (r.2.1.Neg), .slice (A4) ((r.2.1.Num).length) (c4), .slice (A6) ((r.2.1.Den).length) (c6)], .int .i64 (r.2.2)] ∧ Ln = [e0, e1] ∧ Has (K ++ [e0, e1]) A0 (r.1.Num).length c0 1 e_u32 (r.1.Num) ∧ Has (K ++ [e0, e1]) A2 (r.1.Den).length c2 1 e_u32 (r.1.Den) ∧ Has (K ++ [e0, e1]) A4 (r.2.1.Num).length c4 1 e_u32 (r.2.1.Num) ∧ Has (K ++ [e0, e1]) A6 (r.2.1.Den).length c6 1 e_u32 (r.2.1.Den) ∧ True := by
  have ha0' := Has.up0 ha0
  refine CtL.mk 54 Try.func27 rfl Try.ntmps27 (by kernel_rfl) rfl ?_
  show T 54 _ [(0, .agg #[.int .i64 (p0.Raster.X0), .int .i64 (p0.Raster.Y0), .int .i64 (p0.Raster.Step), .int .i64 (p0.Raster.NX), .int .i64 (p0.Raster.NY), .slice (A0_0) ((p0.Cells).length) (c0_0)]), (1, .int .i64 (p1))] _
  unfold model_Cut at hx
  refine T_seq ?_
  refine T_reg ?_
  refine T_x (Wx_box rfl rfl rfl (fun g1 => ?_))
  refine T_x (Wx_alloc zer32 rfl (fun g2 => ?_))
  refine T_x (Wx_alloc zer32 rfl (fun g3 => ?_))
  refine T_val (Ev_assign rfl) rfl ?_
  refine T_nil ?_
  refine T_next ?_
  refine T_seq ?_
  refine T_seq ?_
  refine T_reg ?_
  refine T_val (Ev_loadK rfl (i := 2) rfl rfl agg26) rfl ?_
  obtain ⟨r4, h5, hx6⟩ := bnd_some hx
  refine T_x (Wx_callL rfl (fun w1 hw1 => model_Valid_ok p0 (Has.len' ha0') h5 w1 (okApp (K := K) (K2 := []) hK (by exact (SubE.cons2 (i := 3) rfl (SubE.nil))) (by exact (SubE.nil)) hw1)) rfl ?_)
  rintro _ _ hlo ⟨rfl, rfl, -⟩
  refine T_app0 ?_
  refine T_val (Ev_not rfl) rfl ?_
  refine T_nil ?_
  refine T_next ?_
  refine T_caseNB (s := 13) rfl (fun h7 => ?_) (fun h7 => ?_)
  · have hx8 := ite_bf h7 hx6
    refine T_condT rfl ?_
    refine T_seq ?_
    refine T_reg ?_
    refine T_val (Ev_build rfl (bld32_)) rfl ?_
    refine T_val (Ev_build rfl (bld32_)) rfl ?_
    refine T_h (Wh_store rfl rfl rfl (.there (.here)) (.put (.put (.put (.done)))) rfl (List.cons_ne_nil _ _) agg32.2 ?_)
    refine T_h (Wh_store rfl rfl rfl (.here) (.put (.put (.put (.done)))) rfl (List.cons_ne_nil _ _) agg32.2 ?_)
    refine T_val (Ev_assign rfl) rfl ?_
    refine T_nil ?_
    refine T_next ?_
    refine T_retc ?_
    refine T_outR ?_
    refine T_none 0 1 ?_
    refine T_none 0 1 ?_
    obtain rfl := Option.some.inj hx8
    exact T_retP (rs := [.cell 4 32, .cell 5 32, .tmp 6]) Try.results27 (.cell rfl (i := 3) rfl rfl agg32 (.cell rfl (i := 2) rfl rfl agg32 (.tmp rfl (.nil)))) (Ln := [.r none 0 0 0 1 [], .r none 0 0 0 1 []]) ⟨none, 0, none, 0, none, 0, none, 0, (.r none 0 0 0 1 []), (.r none 0 0 0 1 []), rfl, rfl, Has.nil, Has.nil, Has.nil, Has.nil, trivial⟩ (loCons rfl (loCons rfl (loNil))) (by exact .pick 1 rfl (.pick 0 rfl (.drop 0 rfl (.drop 0 rfl (.drop 0 rfl (.refl))))))
  · have hx9 := ite_t h7 hx6
    refine T_condF rfl ?_
    refine T_skip ?_
    refine T_next ?_
    refine T_seq ?_
    refine T_seq ?_
    refine T_reg ?_
    refine T_val (Ev_move rfl) rfl ?_
    obtain ⟨r10, h11, hx12⟩ := bnd_some hx9
    refine T_x (Wx_callL rfl (fun w1 hw1 => model_validCoord_ok p1  h11 w1) rfl ?_)
    rintro _ _ hlo ⟨rfl, rfl, -⟩
    refine T_app0 ?_
    refine T_val (Ev_not rfl) rfl ?_
    refine T_nil ?_
    refine T_next ?_
    refine T_caseNB (s := 18) rfl (fun h13 => ?_) (fun h13 => ?_)
    · have hx14 := ite_bf h13 hx12
      refine T_condT rfl ?_
      refine T_seq ?_
      refine T_reg ?_
      refine T_val (Ev_build rfl (bld32_)) rfl ?_
      refine T_val (Ev_build rfl (bld32_)) rfl ?_
      refine T_h (Wh_store rfl rfl rfl (.there (.here)) (.put (.put (.put (.done)))) rfl (List.cons_ne_nil _ _) agg32.2 ?_)
      refine T_h (Wh_store rfl rfl rfl (.here) (.put (.put (.put (.done)))) rfl (List.cons_ne_nil _ _) agg32.2 ?_)
      refine T_val (Ev_assign rfl) rfl ?_
      refine T_nil ?_
      refine T_next ?_
      refine T_retc ?_
      refine T_outR ?_
      refine T_none 0 1 ?_
      refine T_none 0 1 ?_
      obtain rfl := Option.some.inj hx14
      exact T_retP (rs := [.cell 4 32, .cell 5 32, .tmp 6]) Try.results27 (.cell rfl (i := 3) rfl rfl agg32 (.cell rfl (i := 2) rfl rfl agg32 (.tmp rfl (.nil)))) (Ln := [.r none 0 0 0 1 [], .r none 0 0 0 1 []]) ⟨none, 0, none, 0, none, 0, none, 0, (.r none 0 0 0 1 []), (.r none 0 0 0 1 []), rfl, rfl, Has.nil, Has.nil, Has.nil, Has.nil, trivial⟩ (loCons rfl (loCons rfl (loNil))) (by exact .pick 1 rfl (.pick 0 rfl (.drop 0 rfl (.drop 0 rfl (.drop 0 rfl (.refl))))))
    · have hx15 := ite_t h13 hx12
      refine T_condF rfl ?_
      refine T_skip ?_
      refine T_next ?_
      refine T_seq ?_
      refine T_reg ?_
      refine T_val (Ev_assign rfl) rfl ?_
      refine T_val (Ev_assign rfl) rfl ?_
      refine T_nil ?_
      refine T_next ?_
      obtain ⟨j9, hj9, hx15⟩ := jn_some hx15
      refine T_cutP (τ := Int × Int) (γ := Unit) (J := j9) (out := r) (fun s9 y9 => [(2, .pointer (some ⟨g1, 0, none⟩)), (4, .pointer (some ⟨g2, 0, none⟩)), (5, .pointer (some ⟨g3, 0, none⟩)), (7, .int .i64 (s9.1)), (8, .int .i64 (s9.2))]) (fun s9 y9 => [.m g3 32 [.bool (false), .slice (none) (0) (0), .slice (none) (0) (0)], .m g2 32 [.bool (false), .slice (none) (0) (0), .slice (none) (0) (0)], .m g1 26 [.int .i64 (p0.Raster.X0), .int .i64 (p0.Raster.Y0), .int .i64 (p0.Raster.Step), .int .i64 (p0.Raster.NX), .int .i64 (p0.Raster.NY), .slice (A0_0) ((p0.Cells).length) (c0_0)]] ++ [.old w]) (fun s9 y9 => True) ?_ ?_
      · intro s9 y9 hx58 hG59
        subst hj9
        refine T_seq ?_
        refine T_draw [0, 1, 0, 2, 0, 1, 0, 2, 3, 3, 2] [[], [0], [], [0, 1, 2], [], [4], [], [0, 1, 2, 3, 4, 5, 6], [0, 1, 2, 3, 4, 5, 6, 7], [0, 1, 2, 3, 4, 5, 6, 7, 8], [0, 1, 2, 3, 4, 5, 6, 7, 8, 9]] (.q 0 (.q 1 (.q 2 (.q 4 (.q 5 (.q 6 (.e 3 (.e 7 (.e 8 (.e 9 (.e 10 (.done) (.stop)) (.stop)) (.stop)) (.stop)) (.stop)))))))) mixed (by kernel_rfl) (by kernel_rfl) ?_
        refine P_p rfl rfl (Ev_field rfl fld26_0 rfl) rfl ?_
        refine P_q rfl rfl (Ev_loadK rfl (i := 2) rfl rfl agg23) rfl ?_
        refine P_p rfl rfl (Ev_move rfl) rfl ?_
        refine P_p rfl rfl (Ev_field rfl fld26_0 rfl) rfl ?_
        refine P_q rfl rfl (Ev_loadK rfl (i := 2) rfl rfl agg23) rfl ?_
        refine P_p rfl rfl (Ev_move rfl) rfl ?_
        obtain ⟨r60, h61, hx62⟩ := bnd_some hx58
        refine P_x rfl (Wx_callL rfl (fun w1 hw1 => model_times_ok p0.Raster s9.1  h61 w1) rfl ?_) ?_
        rotate_left; exact P_stop
        rintro _ _ hlo ⟨A63, c64, A65, c66, e67, rfl, rfl, hs68, hs69, -⟩
        have lo70 := hlo e67 (by simp)
        refine T_app1 ?_
        obtain ⟨r71, h72, hx73⟩ := bnd_some hx62
        refine P_x rfl (Wx_callL rfl (fun w1 hw1 => model_times_ok p0.Raster s9.2  h72 w1) rfl ?_) ?_
        rotate_left; exact P_stop
        rintro _ _ hlo ⟨A74, c75, A76, c77, e78, rfl, rfl, hs79, hs80, -⟩
        have lo81 := hlo e78 (by simp)
        refine T_app1 ?_
        refine P_h rfl rfl (Wh_store rfl rfl rfl (.there (.there (.there (.here)))) (.put (.put (.put (.done)))) rfl (List.cons_ne_nil _ _) agg32.2 ?_) ?_
        rotate_left; exact P_stop
        refine P_h rfl rfl (Wh_store rfl rfl rfl (.there (.there (.here))) (.put (.put (.put (.done)))) rfl (List.cons_ne_nil _ _) agg32.2 ?_) ?_
        rotate_left; exact P_stop
        refine P_x rfl (Wx_val (Ev_assign rfl) rfl ?_) ?_
        rotate_left; exact P_stop
        refine P_done ?_
        refine T_next ?_
        refine T_retc ?_
        obtain rfl := Option.some.inj hx73
        exact T_retP (rs := [.cell 4 32, .cell 5 32, .tmp 6]) Try.results27 (.cell rfl (i := 3) rfl rfl agg32 (.cell rfl (i := 2) rfl rfl agg32 (.tmp rfl (.nil)))) (Ln := [e67, e78]) ⟨A63, c64, A65, c66, A74, c75, A76, c77, e67, e78, rfl, rfl, Has.len' (Has.up (L := (K ++ [e67, e78])) hs68 (SubE.appR2 (SubE.cons2 (i := 0) rfl (SubE.nil)))), Has.len' (Has.up (L := (K ++ [e67, e78])) hs69 (SubE.appR2 (SubE.cons2 (i := 0) rfl (SubE.nil)))), Has.len' (Has.up (L := (K ++ [e67, e78])) hs79 (SubE.appR2 (SubE.cons2 (i := 1) rfl (SubE.nil)))), Has.len' (Has.up (L := (K ++ [e67, e78])) hs80 (SubE.appR2 (SubE.cons2 (i := 1) rfl (SubE.nil)))), trivial⟩ (loCons lo70 (loCons lo81 (loNil))) (by exact .pick 1 rfl (.pick 0 rfl (.drop 0 rfl (.drop 0 rfl (.drop 0 rfl (.refl))))))
      · skip
        refine T_seq ?_
        refine T_reg ?_
        refine T_val (Ev_field rfl fld26_1 rfl) rfl ?_
        refine T_val (Ev_load1 rfl (i := 2) rfl rfl one24) rfl ?_
        refine T_val (Ev_len rfl 41 Try.underlying24) rfl ?_
        refine T_val (Ev_move rfl) rfl ?_
        refine T_nil ?_
        refine T_next ?_
        refine T_block ?_
        obtain ⟨t37, hl37, ho37⟩ := bnd_some hx15
        refine T_loopP (σ := Int × Int × Int) (γ := Unit) hl37 (fun s37 y37 => [(1, .int .i64 (p1)), (2, .pointer (some ⟨g1, 0, none⟩)), (4, .pointer (some ⟨g2, 0, none⟩)), (5, .pointer (some ⟨g3, 0, none⟩)), (7, .int .i64 (s37.1)), (8, .int .i64 (s37.2.1)), (22, .slice (A0_0) ((p0.Cells).length) (c0_0)), (23, .int .i64 ((((p0.Cells).length : Nat) : Int))), (24, .int .i64 (s37.2.2))]) (fun s37 y37 => [.m g3 32 [.bool (false), .slice (none) (0) (0), .slice (none) (0) (0)], .m g2 32 [.bool (false), .slice (none) (0) (0), .slice (none) (0) (0)], .m g1 26 [.int .i64 (p0.Raster.X0), .int .i64 (p0.Raster.Y0), .int .i64 (p0.Raster.Step), .int .i64 (p0.Raster.NX), .int .i64 (p0.Raster.NY), .slice (A0_0) ((p0.Cells).length) (c0_0)]] ++ [.old w]) (fun s37 y37 => True) () trivial (by exact .cons rfl (.cons rfl (.cons rfl (.cons rfl (.cons rfl (.cons rfl (.cons rfl (.cons rfl (.cons rfl (.nil)))))))))) (by exact .pick 0 rfl (.pick 0 rfl (.pick 0 rfl (.refl)))) ?_
        intro s37 y37 hG37 x37 hx37 ht37
        unfold model_Cut_l7 at hx37
        refine T_seq ?_
        refine T_reg ?_
        refine T_val (Ev_lss rfl rfl) rfl ?_
        refine T_nil ?_
        refine T_next ?_
        refine T_seq ?_
        refine T_caseP (s := 25) rfl (fun h38 => ?_) (fun h38 => ?_)
        · have hx39 := ite_t h38 hx37
          refine T_condT rfl ?_
          refine T_skip ?_
          refine T_next ?_
          obtain ⟨j19, hj19, hx39⟩ := jn_some hx39
          refine T_cutP (τ := Int × Int) (γ := Unit) (J := j19) (out := x37) (fun s19 y19 => [(1, .int .i64 (p1)), (2, .pointer (some ⟨g1, 0, none⟩)), (4, .pointer (some ⟨g2, 0, none⟩)), (5, .pointer (some ⟨g3, 0, none⟩)), (7, .int .i64 (s19.1)), (8, .int .i64 (s19.2)), (22, .slice (A0_0) ((p0.Cells).length) (c0_0)), (23, .int .i64 ((((p0.Cells).length : Nat) : Int))), (24, .int .i64 (s37.2.2))]) (fun s19 y19 => [.m g3 32 [.bool (false), .slice (none) (0) (0), .slice (none) (0) (0)], .m g2 32 [.bool (false), .slice (none) (0) (0), .slice (none) (0) (0)], .m g1 26 [.int .i64 (p0.Raster.X0), .int .i64 (p0.Raster.Y0), .int .i64 (p0.Raster.Step), .int .i64 (p0.Raster.NX), .int .i64 (p0.Raster.NY), .slice (A0_0) ((p0.Cells).length) (c0_0)]] ++ [.old w]) (fun s19 y19 => True) ?_ ?_
          · intro s19 y19 hx56 hG57
            subst hj19
            refine T_reg ?_
            refine T_val (Ev_add_w64 rfl rfl) rfl ?_
            refine T_val (Ev_move rfl) rfl ?_
            refine T_nil ?_
            exact T_roundP (s19.1, s19.2, w64 (s37.2.2 + 1)) () hx56 trivial (by exact .cons rfl (.cons rfl (.cons rfl (.cons rfl (.cons rfl (.cons rfl (.cons rfl (.cons rfl (.cons rfl (.nil)))))))))) (by exact .pick 0 rfl (.pick 0 rfl (.pick 0 rfl (.refl))))
          · skip
            refine T_block ?_
            refine T_seq ?_
            refine T_reg ?_
            obtain ⟨x41, h42, hx43⟩ := bnd_some hx39
            have hw51 := Has.low (E := []) ha0' hK
            obtain ⟨b44, o45, j46, hA47, hj48, hl49, hp50⟩ := Has.at_idx hw51 h42
            refine T_val (Ev_index rfl rfl hA47 (j := j46) hj48 hl49 slc24) rfl ?_
            refine T_val (Ev_loadPK0 rfl hp50 (SubE.cons2 (i := 3) rfl (SubE.nil)) rfl agg41) rfl ?_
            refine T_x (Wx_alloc zer41 rfl (fun g52 => ?_))
            refine T_h (Wh_store rfl rfl rfl (.here) (.put (.put (.put (.done)))) rfl (List.cons_ne_nil _ _) agg41.2 ?_)
            refine T_nil ?_
            refine T_next ?_
            refine T_seq ?_
            refine T_reg ?_
            refine T_val (Ev_field rfl fld41_0 rfl) rfl ?_
            refine T_val (Ev_load1 rfl (i := 0) rfl rfl one4) rfl ?_
            refine T_val (Ev_not rfl) rfl ?_
            refine T_nil ?_
            refine T_next ?_
            refine T_caseNB (s := 30) rfl (fun h53 => ?_) (fun h53 => ?_)
            · have hx54 := ite_bf h53 hx43
              refine T_condT rfl ?_
              refine T_seq ?_
              refine T_reg ?_
              refine T_val (Ev_move rfl) rfl ?_
              refine T_val (Ev_field rfl fld41_1 rfl) rfl ?_
              refine T_val (Ev_field rfl fld39_0 rfl) rfl ?_
              refine T_val (Ev_load1 rfl (i := 0) rfl rfl one3) rfl ?_
              refine T_val (Ev_move rfl) rfl ?_
              refine T_val (Ev_sub_w64 rfl rfl) rfl ?_
              refine T_val (Ev_add_w64 rfl rfl) rfl ?_
              refine T_val (Ev_assign rfl) rfl ?_
              refine T_nil ?_
              refine T_next ?_
              refine T_reg ?_
              refine T_val (Ev_move rfl) rfl ?_
              refine T_val (Ev_field rfl fld41_1 rfl) rfl ?_
              refine T_val (Ev_field rfl fld39_1 rfl) rfl ?_
              refine T_val (Ev_load1 rfl (i := 0) rfl rfl one3) rfl ?_
              refine T_val (Ev_move rfl) rfl ?_
              refine T_val (Ev_sub_w64 rfl rfl) rfl ?_
              refine T_val (Ev_add_w64 rfl rfl) rfl ?_
              refine T_val (Ev_assign rfl) rfl ?_
              refine T_nil ?_
              refine T_inN ?_
              exact T_metP (w64 (s37.1 + (w64 (x41.Z.Lo - p1))), w64 (s37.2.1 + (w64 (x41.Z.Hi - p1)))) () hx54 trivial (by exact .cons rfl (.cons rfl (.cons rfl (.cons rfl (.cons rfl (.cons rfl (.cons rfl (.cons rfl (.cons rfl (.nil)))))))))) (by exact .pick 1 rfl (.pick 1 rfl (.pick 1 rfl (.drop 0 rfl (.refl)))))
            · have hx55 := ite_t h53 hx43
              refine T_condF rfl ?_
              refine T_skip ?_
              refine T_inN ?_
              exact T_metP (s37.1, s37.2.1) () hx55 trivial (by exact .cons rfl (.cons rfl (.cons rfl (.cons rfl (.cons rfl (.cons rfl (.cons rfl (.cons rfl (.cons rfl (.nil)))))))))) (by exact .pick 1 rfl (.pick 1 rfl (.pick 1 rfl (.drop 0 rfl (.refl)))))
        · have hx40 := ite_f h38 hx37
          refine T_condF rfl ?_
          refine T_exit ?_
          refine T_outX ?_
          obtain rfl := exit_eq ht37 hx40
          refine T_outX ?_
          refine T_here ?_
          exact T_metP (s37.1, s37.2.1) () ho37 trivial (by exact .cons rfl (.cons rfl (.cons rfl (.cons rfl (.cons rfl (.nil)))))) (by exact .pick 0 rfl (.pick 0 rfl (.pick 0 rfl (.refl))))
set_option maxRecDepth 100000 in
theorem lidarlaw09_ModelCuts_ok (p0 : S_api_Grid) (p1 : Int) {K : List Ent} {A0_0 : Option Addr} {c0_0 : Nat} (ha0 : Has K A0_0 (p0.Cells).length c0_0 3 e_api_Cell (p0.Cells)) {r : Bool} (hx : lidarlaw09_ModelCuts p0 p1 = some r) (w : World) (hK : ∀ e ∈ K, Ent.ok w e) : CtL Try.prog 5 [.agg #[.int .i64 (p0.Raster.X0), .int .i64 (p0.Raster.Y0), .int .i64 (p0.Raster.Step), .int .i64 (p0.Raster.NX), .int .i64 (p0.Raster.NY), .slice (A0_0) ((p0.Cells).length) (c0_0)], .int .i64 (p1)] w fun v Ln => v = .bool (r) ∧ Ln = [] ∧ True := by
  have ha0' := Has.up0 ha0
  refine CtL.mk 119 Try.func5 rfl Try.ntmps5 (by kernel_rfl) rfl ?_
  show T 119 _ [(0, .agg #[.int .i64 (p0.Raster.X0), .int .i64 (p0.Raster.Y0), .int .i64 (p0.Raster.Step), .int .i64 (p0.Raster.NX), .int .i64 (p0.Raster.NY), .slice (A0_0) ((p0.Cells).length) (c0_0)]), (1, .int .i64 (p1))] _
  unfold lidarlaw09_ModelCuts at hx
  refine T_seq ?_
  refine T_reg ?_
  refine T_x (Wx_box rfl rfl rfl (fun g1 => ?_))
  refine T_val (Ev_assign rfl) rfl ?_
  refine T_nil ?_
  refine T_next ?_
  refine T_seq ?_
  refine T_seq ?_
  refine T_reg ?_
  refine T_val (Ev_loadK rfl (i := 0) rfl rfl agg26) rfl ?_
  obtain ⟨r2, h3, hx4⟩ := bnd_some hx
  refine T_x (Wx_callL rfl (fun w1 hw1 => lidarlaw09_heavy_ok p0 (Has.len' ha0') h3 w1 (okApp (K := K) (K2 := []) hK (by exact (SubE.cons2 (i := 1) rfl (SubE.nil))) (by exact (SubE.nil)) hw1)) rfl ?_)
  rintro _ _ hlo ⟨rfl, rfl, -⟩
  refine T_app0 ?_
  refine T_nil ?_
  refine T_next ?_
  refine T_caseB (s := 14) rfl (fun h5 => ?_) (fun h5 => ?_)
  · have hx6 := ite_t h5 hx4
    refine T_condT rfl ?_
    refine T_seq ?_
    refine T_reg ?_
    obtain ⟨r7, h8, hx9⟩ := bnd_some hx6
    refine T_x (Wx_callL rfl (fun w1 hw1 => lidarlaw09_first_ok  h8 w1) rfl ?_)
    rintro _ _ hlo ⟨rfl, rfl, -⟩
    refine T_app0 ?_
    refine T_val (Ev_assign rfl) rfl ?_
    refine T_nil ?_
    refine T_next ?_
    refine T_retc ?_
    refine T_outR ?_
    obtain rfl := Option.some.inj hx9
    exact T_retP (rs := [.tmp 4]) Try.results5 (.tmp rfl (.nil)) (Ln := []) ⟨rfl, rfl, trivial⟩ (loNil) (by exact .drop 0 rfl (.refl))
  · have hx10 := ite_bf h5 hx4
    refine T_condF rfl ?_
    refine T_skip ?_
    refine T_next ?_
    refine T_seq ?_
    refine T_reg ?_
    refine T_val (Ev_loadK rfl (i := 0) rfl rfl agg26) rfl ?_
    refine T_val (Ev_move rfl) rfl ?_
    obtain ⟨r11, h12, hx13⟩ := bnd_some hx10
    refine T_x (Wx_callL rfl (fun w1 hw1 => model_Cut_ok p0 p1 (Has.len' ha0') h12 w1 (okApp (K := K) (K2 := []) hK (by exact (SubE.cons2 (i := 1) rfl (SubE.nil))) (by exact (SubE.nil)) hw1)) rfl ?_)
    rintro _ _ hlo ⟨A14, c15, A16, c17, A18, c19, A20, c21, e22, e23, rfl, rfl, hs24, hs25, hs26, hs27, -⟩
    have lo28 := hlo e22 (by simp)
    have lo29 := hlo e23 (by simp)
    refine T_app2 ?_
    have hs30 : Has (K ++ [e22, e23]) _ _ _ _ _ _ := Has.assoc hs24
    have hs31 : Has (K ++ [e22, e23]) _ _ _ _ _ _ := Has.assoc hs25
    have hs32 : Has (K ++ [e22, e23]) _ _ _ _ _ _ := Has.assoc hs26
    have hs33 : Has (K ++ [e22, e23]) _ _ _ _ _ _ := Has.assoc hs27
    refine T_val (Ev_move rfl) rfl ?_
    refine T_val (Ev_extract rfl rfl) rfl ?_
    refine T_val (Ev_extract rfl rfl) rfl ?_
    refine T_val (Ev_extract rfl rfl) rfl ?_
    refine T_x (Wx_alloc zer32 rfl (fun g34 => ?_))
    refine T_x (Wx_alloc zer32 rfl (fun g35 => ?_))
    refine T_h (Wh_store rfl rfl rfl (.there (.here)) (.put (.put (.put (.done)))) rfl (List.cons_ne_nil _ _) agg32.2 ?_)
    refine T_h (Wh_store rfl rfl rfl (.here) (.put (.put (.put (.done)))) rfl (List.cons_ne_nil _ _) agg32.2 ?_)
    refine T_val (Ev_assign rfl) rfl ?_
    refine T_nil ?_
    refine T_next ?_
    refine T_seq ?_
    refine T_block ?_
    refine T_seq ?_
    refine T_reg ?_
    refine T_val (Ev_loadK rfl (i := 4) rfl rfl agg26) rfl ?_
    obtain ⟨r36, h37, hx38⟩ := bnd_some hx13
    refine T_x (Wx_callL rfl (fun w1 hw1 => lidarref09_Valid_ok p0 (Has.len' ha0') h37 w1 (okApp (K := K) (K2 := []) hK (by exact (SubE.cons2 (i := 5) rfl (SubE.nil))) (by exact (SubE.nil)) hw1)) rfl ?_)
    rintro _ _ hlo ⟨rfl, rfl, -⟩
    refine T_app0 ?_
    refine T_val (Ev_not rfl) rfl ?_
    refine T_val (Ev_assign rfl) rfl ?_
    refine T_nil ?_
    refine T_next ?_
    refine T_caseNB (s := 23) rfl (fun h39 => ?_) (fun h39 => ?_)
    · have hx40 := ite_bf h39 hx38
      refine T_condT rfl ?_
      obtain ⟨j8, hj8, hx40⟩ := jn_some hx40
      refine T_cutP (τ := Bool) (γ := Unit) (J := j8) (out := r) (fun s8 y8 => [(4, .bool (s8))]) (fun s8 y8 => [] ++ [.old w]) (fun s8 y8 => True) ?_ ?_
      · intro s8 y8 hx53 hG54
        subst hj8
        refine T_retc ?_
        refine T_inR ?_
        refine T_outR ?_
        obtain rfl := Option.some.inj hx53
        exact T_retP (rs := [.tmp 4]) Try.results5 (.tmp rfl (.nil)) (Ln := []) ⟨rfl, rfl, trivial⟩ (loNil) (by exact .refl)
      · skip
        refine T_reg ?_
        refine T_val (Ev_move rfl) rfl ?_
        refine T_val (Ev_eql rfl rfl) rfl ?_
        refine T_val (Ev_move rfl) rfl ?_
        refine T_caseP (s := 29) rfl (fun h41 => ?_) (fun h41 => ?_)
        · have hx42 := ite_t h41 hx40
          refine T_valG rfl rfl rfl (Ev_field rfl fld32_1 rfl) rfl ?_
          refine T_valG rfl rfl rfl (Ev_load1 rfl (i := 1) rfl rfl one30) rfl ?_
          refine T_valG rfl rfl rfl (Ev_len rfl 105 Try.underlying30) rfl ?_
          refine T_valG rfl rfl rfl (Ev_eql rfl rfl) rfl ?_
          refine T_val (Ev_pickT rfl rfl) rfl ?_
          refine T_val (Ev_move rfl) rfl ?_
          refine T_caseP (s := 35) rfl (fun h43 => ?_) (fun h43 => ?_)
          · have hx44 := ite_t h43 hx42
            refine T_valG rfl rfl rfl (Ev_field rfl fld32_1 rfl) rfl ?_
            refine T_valG rfl rfl rfl (Ev_load1 rfl (i := 0) rfl rfl one30) rfl ?_
            refine T_valG rfl rfl rfl (Ev_len rfl 105 Try.underlying30) rfl ?_
            refine T_valG rfl rfl rfl (Ev_eql rfl rfl) rfl ?_
            refine T_val (Ev_pickT rfl rfl) rfl ?_
            refine T_val (Ev_move rfl) rfl ?_
            refine T_caseP (s := 41) rfl (fun h45 => ?_) (fun h45 => ?_)
            · have hx46 := ite_t h45 hx44
              obtain ⟨r47, h48, hx49⟩ := bnd_some hx46
              refine T_xG rfl rfl rfl (Wx_callL rfl (fun w1 hw1 => lidarlaw09_first_ok  h48 w1) rfl ?_)
              rintro _ _ hlo ⟨rfl, rfl, -⟩
              refine T_app0 ?_
              refine T_val (Ev_pickT rfl rfl) rfl ?_
              refine T_val (Ev_assign rfl) rfl ?_
              refine T_nil ?_
              exact T_metP r47 () hx49 trivial (by exact .cons rfl (.nil)) (by exact .drop 0 rfl (.drop 0 rfl (.drop 0 rfl (.drop 0 rfl (.drop 0 rfl (.refl))))))
            · have hx50 := ite_f h45 hx44
              refine T_skipG rfl rfl rfl rfl rfl ?_
              refine T_val (Ev_pickF rfl rfl) rfl ?_
              refine T_val (Ev_assign rfl) rfl ?_
              refine T_nil ?_
              exact T_metP false () hx50 trivial (by exact .cons rfl (.nil)) (by exact .drop 0 rfl (.drop 0 rfl (.drop 0 rfl (.drop 0 rfl (.drop 0 rfl (.refl))))))
          · have hx51 := ite_f h43 hx42
            refine T_skipG rfl rfl rfl rfl rfl ?_
            refine T_skipG rfl rfl rfl rfl rfl ?_
            refine T_skipG rfl rfl rfl rfl rfl ?_
            refine T_skipG rfl rfl rfl rfl rfl ?_
            refine T_val (Ev_pickF rfl rfl) rfl ?_
            refine T_val (Ev_move rfl) rfl ?_
            refine T_skipG rfl rfl rfl rfl rfl ?_
            refine T_val (Ev_pickF rfl rfl) rfl ?_
            refine T_val (Ev_assign rfl) rfl ?_
            refine T_nil ?_
            exact T_metP false () hx51 trivial (by exact .cons rfl (.nil)) (by exact .drop 0 rfl (.drop 0 rfl (.drop 0 rfl (.drop 0 rfl (.drop 0 rfl (.refl))))))
        · have hx52 := ite_f h41 hx40
          refine T_skipG rfl rfl rfl rfl rfl ?_
          refine T_skipG rfl rfl rfl rfl rfl ?_
          refine T_skipG rfl rfl rfl rfl rfl ?_
          refine T_skipG rfl rfl rfl rfl rfl ?_
          refine T_val (Ev_pickF rfl rfl) rfl ?_
          refine T_val (Ev_move rfl) rfl ?_
          refine T_skipG rfl rfl rfl rfl rfl ?_
          refine T_skipG rfl rfl rfl rfl rfl ?_
          refine T_skipG rfl rfl rfl rfl rfl ?_
          refine T_skipG rfl rfl rfl rfl rfl ?_
          refine T_val (Ev_pickF rfl rfl) rfl ?_
          refine T_val (Ev_move rfl) rfl ?_
          refine T_skipG rfl rfl rfl rfl rfl ?_
          refine T_val (Ev_pickF rfl rfl) rfl ?_
          refine T_val (Ev_assign rfl) rfl ?_
          refine T_nil ?_
          exact T_metP false () hx52 trivial (by exact .cons rfl (.nil)) (by exact .drop 0 rfl (.drop 0 rfl (.drop 0 rfl (.drop 0 rfl (.drop 0 rfl (.refl))))))
    · have hx55 := ite_t h39 hx38
      refine T_condF rfl ?_
      obtain ⟨j9, hj9, hx55⟩ := jn_some hx55
      refine T_cutP (τ := Bool) (γ := Unit) (J := j9) (out := r) (fun s9 y9 => [(1, .int .i64 (p1)), (2, .pointer (some ⟨g1, 0, none⟩)), (5, .pointer (some ⟨g34, 0, none⟩)), (6, .pointer (some ⟨g35, 0, none⟩)), (7, .int .i64 (r11.2.2)), (44, .bool (s9))]) (fun s9 y9 => [.m g35 32 [.bool (r11.2.1.Neg), .slice (A18) ((r11.2.1.Num).length) (c19), .slice (A20) ((r11.2.1.Den).length) (c21)], .m g34 32 [.bool (r11.1.Neg), .slice (A14) ((r11.1.Num).length) (c15), .slice (A16) ((r11.1.Den).length) (c17)], e22, e23, .m g1 26 [.int .i64 (p0.Raster.X0), .int .i64 (p0.Raster.Y0), .int .i64 (p0.Raster.Step), .int .i64 (p0.Raster.NX), .int .i64 (p0.Raster.NY), .slice (A0_0) ((p0.Cells).length) (c0_0)]] ++ [.old w]) (fun s9 y9 => True) ?_ ?_
      · intro s9 y9 hx59 hG60
        subst hj9
        refine T_caseB (s := 44) rfl (fun h61 => ?_) (fun h61 => ?_)
        · have hx62 := ite_t h61 hx59
          refine T_condT rfl ?_
          obtain ⟨j10, hj10, hx62⟩ := jn_some hx62
          refine T_cutP (τ := Bool) (γ := Unit) (J := j10) (out := r) (fun s10 y10 => [(4, .bool (s10))]) (fun s10 y10 => [] ++ [.old w]) (fun s10 y10 => True) ?_ ?_
          · intro s10 y10 hx75 hG76
            subst hj10
            refine T_retc ?_
            refine T_inR ?_
            refine T_outR ?_
            obtain rfl := Option.some.inj hx75
            exact T_retP (rs := [.tmp 4]) Try.results5 (.tmp rfl (.nil)) (Ln := []) ⟨rfl, rfl, trivial⟩ (loNil) (by exact .refl)
          · skip
            refine T_reg ?_
            refine T_val (Ev_move rfl) rfl ?_
            refine T_val (Ev_eql rfl rfl) rfl ?_
            refine T_val (Ev_move rfl) rfl ?_
            refine T_caseP (s := 53) rfl (fun h63 => ?_) (fun h63 => ?_)
            · have hx64 := ite_t h63 hx62
              refine T_valG rfl rfl rfl (Ev_field rfl fld32_1 rfl) rfl ?_
              refine T_valG rfl rfl rfl (Ev_load1 rfl (i := 1) rfl rfl one30) rfl ?_
              refine T_valG rfl rfl rfl (Ev_len rfl 105 Try.underlying30) rfl ?_
              refine T_valG rfl rfl rfl (Ev_eql rfl rfl) rfl ?_
              refine T_val (Ev_pickT rfl rfl) rfl ?_
              refine T_val (Ev_move rfl) rfl ?_
              refine T_caseP (s := 59) rfl (fun h65 => ?_) (fun h65 => ?_)
              · have hx66 := ite_t h65 hx64
                refine T_valG rfl rfl rfl (Ev_field rfl fld32_1 rfl) rfl ?_
                refine T_valG rfl rfl rfl (Ev_load1 rfl (i := 0) rfl rfl one30) rfl ?_
                refine T_valG rfl rfl rfl (Ev_len rfl 105 Try.underlying30) rfl ?_
                refine T_valG rfl rfl rfl (Ev_eql rfl rfl) rfl ?_
                refine T_val (Ev_pickT rfl rfl) rfl ?_
                refine T_val (Ev_move rfl) rfl ?_
                refine T_caseP (s := 65) rfl (fun h67 => ?_) (fun h67 => ?_)
                · have hx68 := ite_t h67 hx66
                  obtain ⟨r69, h70, hx71⟩ := bnd_some hx68
                  refine T_xG rfl rfl rfl (Wx_callL rfl (fun w1 hw1 => lidarlaw09_first_ok  h70 w1) rfl ?_)
                  rintro _ _ hlo ⟨rfl, rfl, -⟩
                  refine T_app0 ?_
                  refine T_val (Ev_pickT rfl rfl) rfl ?_
                  refine T_val (Ev_assign rfl) rfl ?_
                  refine T_nil ?_
                  exact T_metP r69 () hx71 trivial (by exact .cons rfl (.nil)) (by exact .drop 0 rfl (.drop 0 rfl (.drop 0 rfl (.drop 0 rfl (.drop 0 rfl (.refl))))))
                · have hx72 := ite_f h67 hx66
                  refine T_skipG rfl rfl rfl rfl rfl ?_
                  refine T_val (Ev_pickF rfl rfl) rfl ?_
                  refine T_val (Ev_assign rfl) rfl ?_
                  refine T_nil ?_
                  exact T_metP false () hx72 trivial (by exact .cons rfl (.nil)) (by exact .drop 0 rfl (.drop 0 rfl (.drop 0 rfl (.drop 0 rfl (.drop 0 rfl (.refl))))))
              · have hx73 := ite_f h65 hx64
                refine T_skipG rfl rfl rfl rfl rfl ?_
                refine T_skipG rfl rfl rfl rfl rfl ?_
                refine T_skipG rfl rfl rfl rfl rfl ?_
                refine T_skipG rfl rfl rfl rfl rfl ?_
                refine T_val (Ev_pickF rfl rfl) rfl ?_
                refine T_val (Ev_move rfl) rfl ?_
                refine T_skipG rfl rfl rfl rfl rfl ?_
                refine T_val (Ev_pickF rfl rfl) rfl ?_
                refine T_val (Ev_assign rfl) rfl ?_
                refine T_nil ?_
                exact T_metP false () hx73 trivial (by exact .cons rfl (.nil)) (by exact .drop 0 rfl (.drop 0 rfl (.drop 0 rfl (.drop 0 rfl (.drop 0 rfl (.refl))))))
            · have hx74 := ite_f h63 hx62
              refine T_skipG rfl rfl rfl rfl rfl ?_
              refine T_skipG rfl rfl rfl rfl rfl ?_
              refine T_skipG rfl rfl rfl rfl rfl ?_
              refine T_skipG rfl rfl rfl rfl rfl ?_
              refine T_val (Ev_pickF rfl rfl) rfl ?_
              refine T_val (Ev_move rfl) rfl ?_
              refine T_skipG rfl rfl rfl rfl rfl ?_
              refine T_skipG rfl rfl rfl rfl rfl ?_
              refine T_skipG rfl rfl rfl rfl rfl ?_
              refine T_skipG rfl rfl rfl rfl rfl ?_
              refine T_val (Ev_pickF rfl rfl) rfl ?_
              refine T_val (Ev_move rfl) rfl ?_
              refine T_skipG rfl rfl rfl rfl rfl ?_
              refine T_val (Ev_pickF rfl rfl) rfl ?_
              refine T_val (Ev_assign rfl) rfl ?_
              refine T_nil ?_
              exact T_metP false () hx74 trivial (by exact .cons rfl (.nil)) (by exact .drop 0 rfl (.drop 0 rfl (.drop 0 rfl (.drop 0 rfl (.drop 0 rfl (.refl))))))
        · have hx77 := ite_bf h61 hx59
          refine T_condF rfl ?_
          refine T_skip ?_
          refine T_inN ?_
          refine T_next ?_
          refine T_seq ?_
          refine T_reg ?_
          refine T_val (Ev_field rfl fld26_0 rfl) rfl ?_
          refine T_val (Ev_loadK rfl (i := 4) rfl rfl agg23) rfl ?_
          refine T_val (Ev_build rfl (bld26_0ai64i64i64i64i64 _ _ _ _ _)) rfl ?_
          refine T_x (Wx_alloc zer26 rfl (fun g78 => ?_))
          refine T_h (Wh_store rfl rfl rfl (.here) (.put (.put (.put (.put (.put (.put (.done))))))) rfl (List.cons_ne_nil _ _) agg26.2 ?_)
          refine T_nil ?_
          refine T_next ?_
          refine T_seq ?_
          refine T_reg ?_
          refine T_val (Ev_assign rfl) rfl ?_
          refine T_nil ?_
          refine T_next ?_
          obtain ⟨j13, hj13, hx77⟩ := jn_some hx77
          refine T_cutP (τ := (List S_api_Cell) × (List Int)) (γ := (Option Addr) × Nat × (Option Addr) × Nat) (J := j13) (out := r) (fun s13 y13 => [(2, .pointer (some ⟨g1, 0, none⟩)), (5, .pointer (some ⟨g34, 0, none⟩)), (6, .pointer (some ⟨g35, 0, none⟩)), (7, .int .i64 (r11.2.2)), (8, .pointer (some ⟨g78, 0, none⟩)), (9, .slice (y13.2.2.1) ((s13.2).length) (y13.2.2.2))]) (fun s13 y13 => [.r (y13.1) ((s13.1).length) (y13.2.1) 41 3 ((s13.1).flatMap e_api_Cell), .r (y13.2.2.1) ((s13.2).length) (y13.2.2.2) 3 1 ((s13.2).flatMap e_i64), .m g78 26 [.int .i64 (p0.Raster.X0), .int .i64 (p0.Raster.Y0), .int .i64 (p0.Raster.Step), .int .i64 (p0.Raster.NX), .int .i64 (p0.Raster.NY), .slice (y13.1) ((s13.1).length) (y13.2.1)], .m g35 32 [.bool (r11.2.1.Neg), .slice (A18) ((r11.2.1.Num).length) (c19), .slice (A20) ((r11.2.1.Den).length) (c21)], .m g34 32 [.bool (r11.1.Neg), .slice (A14) ((r11.1.Num).length) (c15), .slice (A16) ((r11.1.Den).length) (c17)], e22, e23, .m g1 26 [.int .i64 (p0.Raster.X0), .int .i64 (p0.Raster.Y0), .int .i64 (p0.Raster.Step), .int .i64 (p0.Raster.NX), .int .i64 (p0.Raster.NY), .slice (A0_0) ((p0.Cells).length) (c0_0)]] ++ [.old w]) (fun s13 y13 => True) ?_ ?_
          · intro s13 y13 hx149 hG150
            subst hj13
            refine T_seq ?_
            refine T_reg ?_
            refine T_val (Ev_loadK rfl (i := 2) rfl rfl agg26) rfl ?_
            refine T_val (Ev_loadK rfl (i := 7) rfl rfl agg26) rfl ?_
            refine T_val (Ev_move rfl) rfl ?_
            refine T_rowP (k := 0) rfl (by decide) (fun _ => rfl) (fun hn151 hs152 => ?_)
            refine T_rowP (k := 1) rfl (by decide) (fun _ => rfl) (fun hn153 hs154 => ?_)
            obtain ⟨r155, h156, hx157⟩ := bnd_some hx149
            refine T_x (Wx_callL rfl (fun w1 hw1 => lidarref09_Amount_ok (⟨p0.Raster, s13.1⟩ : S_api_Grid) p0 s13.2 (Has.len' (Has.up (L := (K ++ [.r (y13.1) ((s13.1).length) (y13.2.1) 41 3 ((s13.1).flatMap e_api_Cell), .r (y13.2.2.1) ((s13.2).length) (y13.2.2.2) 3 1 ((s13.2).flatMap e_i64)])) hs152 (SubE.appR2 (SubE.cons2 (i := 0) rfl (SubE.nil))))) (Has.len' (Has.up (L := (K ++ [.r (y13.1) ((s13.1).length) (y13.2.1) 41 3 ((s13.1).flatMap e_api_Cell), .r (y13.2.2.1) ((s13.2).length) (y13.2.2.2) 3 1 ((s13.2).flatMap e_i64)])) ha0' (SubE.app2 SubE.nil))) (Has.len' (Has.up (L := (K ++ [.r (y13.1) ((s13.1).length) (y13.2.1) 41 3 ((s13.1).flatMap e_api_Cell), .r (y13.2.2.1) ((s13.2).length) (y13.2.2.2) 3 1 ((s13.2).flatMap e_i64)])) hs154 (SubE.appR2 (SubE.cons2 (i := 1) rfl (SubE.nil))))) h156 w1 (okApp (K := K) (K2 := [.r (y13.1) ((s13.1).length) (y13.2.1) 41 3 ((s13.1).flatMap e_api_Cell), .r (y13.2.2.1) ((s13.2).length) (y13.2.2.2) 3 1 ((s13.2).flatMap e_i64)]) hK (by exact (SubE.cons2 (i := 8) rfl (SubE.nil))) (by exact (SubE.cons2 (i := 0) rfl (SubE.cons2 (i := 1) rfl (SubE.nil)))) hw1)) rfl ?_)
            rintro _ _ hlo ⟨A158, c159, A160, c161, A162, c163, A164, c165, e166, e167, e168, rfl, rfl, hs169, hs170, -⟩
            have lo171 := hlo e166 (by simp)
            have lo172 := hlo e167 (by simp)
            have lo173 := hlo e168 (by simp)
            refine T_app5 ?_
            have hs174 : Has (K ++ [.r (y13.1) ((s13.1).length) (y13.2.1) 41 3 ((s13.1).flatMap e_api_Cell), .r (y13.2.2.1) ((s13.2).length) (y13.2.2.2) 3 1 ((s13.2).flatMap e_i64), e166, e167, e168]) _ _ _ _ _ _ := Has.assoc hs169
            have hs175 : Has (K ++ [.r (y13.1) ((s13.1).length) (y13.2.1) 41 3 ((s13.1).flatMap e_api_Cell), .r (y13.2.2.1) ((s13.2).length) (y13.2.2.2) 3 1 ((s13.2).flatMap e_i64), e166, e167, e168]) _ _ _ _ _ _ := Has.assoc hs170
            refine T_val (Ev_move rfl) rfl ?_
            refine T_val (Ev_extract rfl rfl) rfl ?_
            refine T_val (Ev_extract rfl rfl) rfl ?_
            refine T_x (Wx_alloc zer45 rfl (fun g176 => ?_))
            refine T_x (Wx_alloc zer45 rfl (fun g177 => ?_))
            refine T_h (Wh_store rfl rfl rfl (.there (.here)) (.put (.put (.put (.done)))) rfl (List.cons_ne_nil _ _) agg45.2 ?_)
            refine T_h (Wh_store rfl rfl rfl (.here) (.put (.put (.put (.done)))) rfl (List.cons_ne_nil _ _) agg45.2 ?_)
            refine T_nil ?_
            refine T_next ?_
            obtain ⟨j26, hj26, hx157⟩ := jn_some hx157
            refine T_cutP (τ := Bool) (γ := Unit) (J := j26) (out := r) (fun s26 y26 => [(4, .bool (s26))]) (fun s26 y26 => [] ++ [.old w]) (fun s26 y26 => True) ?_ ?_
            · intro s26 y26 hx200 hG201
              subst hj26
              refine T_retc ?_
              obtain rfl := Option.some.inj hx200
              exact T_retP (rs := [.tmp 4]) Try.results5 (.tmp rfl (.nil)) (Ln := []) ⟨rfl, rfl, trivial⟩ (loNil) (by exact .refl)
            · skip
              refine T_reg ?_
              refine T_val (Ev_move rfl) rfl ?_
              refine T_val (Ev_eql rfl rfl) rfl ?_
              refine T_val (Ev_move rfl) rfl ?_
              refine T_caseP (s := 106) rfl (fun h178 => ?_) (fun h178 => ?_)
              · have hx179 := ite_t h178 hx157
                refine T_valG rfl rfl rfl (Ev_loadK rfl (i := 11) rfl rfl agg32) rfl ?_
                refine T_valG rfl rfl rfl (Ev_loadK rfl (i := 1) rfl rfl agg45) rfl ?_
                refine T_rowP (k := 2) rfl (by decide) (fun _ => rfl) (fun hn180 hs181 => ?_)
                obtain ⟨r182, h183, hx184⟩ := bnd_some hx179
                refine T_xG rfl rfl rfl (Wx_callL rfl (fun w1 hw1 => lidarref01_Same_ok r11.1 r155.1 (Has.len' (Has.up (L := (K ++ [e22, e23, .r (y13.1) ((s13.1).length) (y13.2.1) 41 3 ((s13.1).flatMap e_api_Cell), .r (y13.2.2.1) ((s13.2).length) (y13.2.2.2) 3 1 ((s13.2).flatMap e_i64), e166, e167, e168, .r (A160) ((r155.1.D).length) (c161) 3 1 ((r155.1.D).flatMap e_i64)])) hs30 (SubE.app2 (SubE.cons2 (i := 0) rfl (SubE.cons2 (i := 1) rfl (SubE.nil)))))) (Has.len' (Has.up (L := (K ++ [e22, e23, .r (y13.1) ((s13.1).length) (y13.2.1) 41 3 ((s13.1).flatMap e_api_Cell), .r (y13.2.2.1) ((s13.2).length) (y13.2.2.2) 3 1 ((s13.2).flatMap e_i64), e166, e167, e168, .r (A160) ((r155.1.D).length) (c161) 3 1 ((r155.1.D).flatMap e_i64)])) hs31 (SubE.app2 (SubE.cons2 (i := 0) rfl (SubE.cons2 (i := 1) rfl (SubE.nil)))))) (Has.len' (Has.up (L := (K ++ [e22, e23, .r (y13.1) ((s13.1).length) (y13.2.1) 41 3 ((s13.1).flatMap e_api_Cell), .r (y13.2.2.1) ((s13.2).length) (y13.2.2.2) 3 1 ((s13.2).flatMap e_i64), e166, e167, e168, .r (A160) ((r155.1.D).length) (c161) 3 1 ((r155.1.D).flatMap e_i64)])) hs174 (SubE.app2 (SubE.cons2 (i := 2) rfl (SubE.cons2 (i := 3) rfl (SubE.cons2 (i := 4) rfl (SubE.cons2 (i := 5) rfl (SubE.cons2 (i := 6) rfl (SubE.nil))))))))) (Has.len' (Has.up (L := (K ++ [e22, e23, .r (y13.1) ((s13.1).length) (y13.2.1) 41 3 ((s13.1).flatMap e_api_Cell), .r (y13.2.2.1) ((s13.2).length) (y13.2.2.2) 3 1 ((s13.2).flatMap e_i64), e166, e167, e168, .r (A160) ((r155.1.D).length) (c161) 3 1 ((r155.1.D).flatMap e_i64)])) hs181 (SubE.appR2 (SubE.cons2 (i := 7) rfl (SubE.nil))))) h183 w1 (okApp (K := K) (K2 := [e22, e23, .r (y13.1) ((s13.1).length) (y13.2.1) 41 3 ((s13.1).flatMap e_api_Cell), .r (y13.2.2.1) ((s13.2).length) (y13.2.2.2) 3 1 ((s13.2).flatMap e_i64), e166, e167, e168, .r (A160) ((r155.1.D).length) (c161) 3 1 ((r155.1.D).flatMap e_i64)]) hK (by exact (SubE.cons2 (i := 15) rfl (SubE.nil))) (by exact (SubE.cons2 (i := 12) rfl (SubE.cons2 (i := 13) rfl (SubE.cons2 (i := 7) rfl (SubE.cons2 (i := 8) rfl (SubE.cons2 (i := 4) rfl (SubE.cons2 (i := 5) rfl (SubE.cons2 (i := 6) rfl (SubE.cons2 (i := 2) rfl (SubE.nil)))))))))) hw1)) rfl ?_)
                rintro _ _ hlo ⟨rfl, rfl, -⟩
                refine T_app0 ?_
                refine T_val (Ev_pickT rfl rfl) rfl ?_
                refine T_val (Ev_move rfl) rfl ?_
                refine T_caseB (s := 111) rfl (fun h185 => ?_) (fun h185 => ?_)
                · have hx186 := ite_t h185 hx184
                  refine T_valG rfl rfl rfl (Ev_loadK rfl (i := 10) rfl rfl agg32) rfl ?_
                  refine T_valG rfl rfl rfl (Ev_loadK rfl (i := 0) rfl rfl agg45) rfl ?_
                  refine T_rowP (k := 3) rfl (by decide) (fun _ => rfl) (fun hn187 hs188 => ?_)
                  obtain ⟨r189, h190, hx191⟩ := bnd_some hx186
                  refine T_xG rfl rfl rfl (Wx_callL rfl (fun w1 hw1 => lidarref01_Same_ok r11.2.1 r155.2 (Has.len' (Has.up (L := (K ++ [e22, e23, .r (y13.1) ((s13.1).length) (y13.2.1) 41 3 ((s13.1).flatMap e_api_Cell), .r (y13.2.2.1) ((s13.2).length) (y13.2.2.2) 3 1 ((s13.2).flatMap e_i64), e166, e167, e168, .r (A164) ((r155.2.D).length) (c165) 3 1 ((r155.2.D).flatMap e_i64)])) hs32 (SubE.app2 (SubE.cons2 (i := 0) rfl (SubE.cons2 (i := 1) rfl (SubE.nil)))))) (Has.len' (Has.up (L := (K ++ [e22, e23, .r (y13.1) ((s13.1).length) (y13.2.1) 41 3 ((s13.1).flatMap e_api_Cell), .r (y13.2.2.1) ((s13.2).length) (y13.2.2.2) 3 1 ((s13.2).flatMap e_i64), e166, e167, e168, .r (A164) ((r155.2.D).length) (c165) 3 1 ((r155.2.D).flatMap e_i64)])) hs33 (SubE.app2 (SubE.cons2 (i := 0) rfl (SubE.cons2 (i := 1) rfl (SubE.nil)))))) (Has.len' (Has.up (L := (K ++ [e22, e23, .r (y13.1) ((s13.1).length) (y13.2.1) 41 3 ((s13.1).flatMap e_api_Cell), .r (y13.2.2.1) ((s13.2).length) (y13.2.2.2) 3 1 ((s13.2).flatMap e_i64), e166, e167, e168, .r (A164) ((r155.2.D).length) (c165) 3 1 ((r155.2.D).flatMap e_i64)])) hs175 (SubE.app2 (SubE.cons2 (i := 2) rfl (SubE.cons2 (i := 3) rfl (SubE.cons2 (i := 4) rfl (SubE.cons2 (i := 5) rfl (SubE.cons2 (i := 6) rfl (SubE.nil))))))))) (Has.len' (Has.up (L := (K ++ [e22, e23, .r (y13.1) ((s13.1).length) (y13.2.1) 41 3 ((s13.1).flatMap e_api_Cell), .r (y13.2.2.1) ((s13.2).length) (y13.2.2.2) 3 1 ((s13.2).flatMap e_i64), e166, e167, e168, .r (A164) ((r155.2.D).length) (c165) 3 1 ((r155.2.D).flatMap e_i64)])) hs188 (SubE.appR2 (SubE.cons2 (i := 7) rfl (SubE.nil))))) h190 w1 (okApp (K := K) (K2 := [e22, e23, .r (y13.1) ((s13.1).length) (y13.2.1) 41 3 ((s13.1).flatMap e_api_Cell), .r (y13.2.2.1) ((s13.2).length) (y13.2.2.2) 3 1 ((s13.2).flatMap e_i64), e166, e167, e168, .r (A164) ((r155.2.D).length) (c165) 3 1 ((r155.2.D).flatMap e_i64)]) hK (by exact (SubE.cons2 (i := 15) rfl (SubE.nil))) (by exact (SubE.cons2 (i := 12) rfl (SubE.cons2 (i := 13) rfl (SubE.cons2 (i := 7) rfl (SubE.cons2 (i := 8) rfl (SubE.cons2 (i := 4) rfl (SubE.cons2 (i := 5) rfl (SubE.cons2 (i := 6) rfl (SubE.cons2 (i := 3) rfl (SubE.nil)))))))))) hw1)) rfl ?_)
                  rintro _ _ hlo ⟨rfl, rfl, -⟩
                  refine T_app0 ?_
                  refine T_val (Ev_pickT rfl rfl) rfl ?_
                  refine T_val (Ev_move rfl) rfl ?_
                  refine T_caseB (s := 116) rfl (fun h192 => ?_) (fun h192 => ?_)
                  · have hx193 := ite_t h192 hx191
                    obtain ⟨r194, h195, hx196⟩ := bnd_some hx193
                    refine T_xG rfl rfl rfl (Wx_callL rfl (fun w1 hw1 => lidarlaw09_first_ok  h195 w1) rfl ?_)
                    rintro _ _ hlo ⟨rfl, rfl, -⟩
                    refine T_app0 ?_
                    refine T_val (Ev_pickT rfl rfl) rfl ?_
                    refine T_val (Ev_assign rfl) rfl ?_
                    refine T_nil ?_
                    exact T_metP r194 () hx196 trivial (by exact .cons rfl (.nil)) (by exact .drop 0 rfl (.drop 0 rfl (.drop 0 rfl (.drop 0 rfl (.drop 0 rfl (.drop 0 rfl (.drop 0 rfl (.drop 0 rfl (.drop 0 rfl (.drop 0 rfl (.drop 0 rfl (.drop 0 rfl (.drop 0 rfl (.drop 0 rfl (.drop 0 rfl (.refl))))))))))))))))
                  · have hx197 := ite_bf h192 hx191
                    refine T_skipG rfl rfl rfl rfl rfl ?_
                    refine T_val (Ev_pickF rfl rfl) rfl ?_
                    refine T_val (Ev_assign rfl) rfl ?_
                    refine T_nil ?_
                    exact T_metP false () hx197 trivial (by exact .cons rfl (.nil)) (by exact .drop 0 rfl (.drop 0 rfl (.drop 0 rfl (.drop 0 rfl (.drop 0 rfl (.drop 0 rfl (.drop 0 rfl (.drop 0 rfl (.drop 0 rfl (.drop 0 rfl (.drop 0 rfl (.drop 0 rfl (.drop 0 rfl (.drop 0 rfl (.drop 0 rfl (.refl))))))))))))))))
                · have hx198 := ite_bf h185 hx184
                  refine T_skipG rfl rfl rfl rfl rfl ?_
                  refine T_skipG rfl rfl rfl rfl rfl ?_
                  refine T_skipG rfl rfl rfl rfl rfl ?_
                  refine T_val (Ev_pickF rfl rfl) rfl ?_
                  refine T_val (Ev_move rfl) rfl ?_
                  refine T_skipG rfl rfl rfl rfl rfl ?_
                  refine T_val (Ev_pickF rfl rfl) rfl ?_
                  refine T_val (Ev_assign rfl) rfl ?_
                  refine T_nil ?_
                  exact T_metP false () hx198 trivial (by exact .cons rfl (.nil)) (by exact .drop 0 rfl (.drop 0 rfl (.drop 0 rfl (.drop 0 rfl (.drop 0 rfl (.drop 0 rfl (.drop 0 rfl (.drop 0 rfl (.drop 0 rfl (.drop 0 rfl (.drop 0 rfl (.drop 0 rfl (.drop 0 rfl (.drop 0 rfl (.drop 0 rfl (.refl))))))))))))))))
              · have hx199 := ite_f h178 hx157
                refine T_skipG rfl rfl rfl rfl rfl ?_
                refine T_skipG rfl rfl rfl rfl rfl ?_
                refine T_skipG rfl rfl rfl rfl rfl ?_
                refine T_val (Ev_pickF rfl rfl) rfl ?_
                refine T_val (Ev_move rfl) rfl ?_
                refine T_skipG rfl rfl rfl rfl rfl ?_
                refine T_skipG rfl rfl rfl rfl rfl ?_
                refine T_skipG rfl rfl rfl rfl rfl ?_
                refine T_val (Ev_pickF rfl rfl) rfl ?_
                refine T_val (Ev_move rfl) rfl ?_
                refine T_skipG rfl rfl rfl rfl rfl ?_
                refine T_val (Ev_pickF rfl rfl) rfl ?_
                refine T_val (Ev_assign rfl) rfl ?_
                refine T_nil ?_
                exact T_metP false () hx199 trivial (by exact .cons rfl (.nil)) (by exact .drop 0 rfl (.drop 0 rfl (.drop 0 rfl (.drop 0 rfl (.drop 0 rfl (.drop 0 rfl (.drop 0 rfl (.drop 0 rfl (.drop 0 rfl (.drop 0 rfl (.drop 0 rfl (.drop 0 rfl (.drop 0 rfl (.drop 0 rfl (.drop 0 rfl (.refl))))))))))))))))
          · skip
            refine T_seq ?_
            refine T_reg ?_
            refine T_val (Ev_assign rfl) rfl ?_
            refine T_nil ?_
            refine T_next ?_
            refine T_block ?_
            obtain ⟨t114, hl114, ho114⟩ := bnd_some hx77
            refine T_none 41 3 ?_
            refine T_none 3 1 ?_
            have hn115 : 0 = (([] : List S_api_Cell)).length := by simp [setI_len, cpy_len, List.length_append] <;> omega
            refine T_ent (.there (.here)) (e' := .r (none) ((([] : List S_api_Cell)).length) (0) 41 3 ((([] : List S_api_Cell)).flatMap e_api_Cell)) (by first | (rw [← hn115]; done) | rfl) ?_
            have hn116 : 0 = (([] : List Int)).length := by simp [setI_len, cpy_len, List.length_append] <;> omega
            refine T_ent (.here) (e' := .r (none) ((([] : List Int)).length) (0) 3 1 ((([] : List Int)).flatMap e_i64)) (by first | (rw [← hn116]; done) | rfl) ?_
            refine T_loopP (σ := (List S_api_Cell) × (List Int) × Int) (γ := (Option Addr) × Nat × (Option Addr) × Nat) hl114 (fun s114 y114 => [(1, .int .i64 (p1)), (2, .pointer (some ⟨g1, 0, none⟩)), (5, .pointer (some ⟨g34, 0, none⟩)), (6, .pointer (some ⟨g35, 0, none⟩)), (7, .int .i64 (r11.2.2)), (8, .pointer (some ⟨g78, 0, none⟩)), (9, .slice (y114.2.2.1) ((s114.2.1).length) (y114.2.2.2)), (10, .int .i64 (s114.2.2))]) (fun s114 y114 => [.r (y114.1) ((s114.1).length) (y114.2.1) 41 3 ((s114.1).flatMap e_api_Cell), .r (y114.2.2.1) ((s114.2.1).length) (y114.2.2.2) 3 1 ((s114.2.1).flatMap e_i64), .m g78 26 [.int .i64 (p0.Raster.X0), .int .i64 (p0.Raster.Y0), .int .i64 (p0.Raster.Step), .int .i64 (p0.Raster.NX), .int .i64 (p0.Raster.NY), .slice (y114.1) ((s114.1).length) (y114.2.1)], .m g35 32 [.bool (r11.2.1.Neg), .slice (A18) ((r11.2.1.Num).length) (c19), .slice (A20) ((r11.2.1.Den).length) (c21)], .m g34 32 [.bool (r11.1.Neg), .slice (A14) ((r11.1.Num).length) (c15), .slice (A16) ((r11.1.Den).length) (c17)], e22, e23, .m g1 26 [.int .i64 (p0.Raster.X0), .int .i64 (p0.Raster.Y0), .int .i64 (p0.Raster.Step), .int .i64 (p0.Raster.NX), .int .i64 (p0.Raster.NY), .slice (A0_0) ((p0.Cells).length) (c0_0)]] ++ [.old w]) (fun s114 y114 => True) (none, 0, none, 0) trivial (by exact .cons rfl (.cons rfl (.cons rfl (.cons rfl (.cons rfl (.cons rfl (.cons rfl (.cons rfl (.nil))))))))) (by exact .pick 1 rfl (.pick 0 rfl (.pick 0 rfl (.pick 0 rfl (.pick 0 rfl (.pick 0 rfl (.pick 0 rfl (.pick 0 rfl (.refl))))))))) ?_
            intro s114 y114 hG114 x114 hx114 ht114
            unfold lidarlaw09_ModelCuts_l11 at hx114
            refine T_seq ?_
            refine T_seq ?_
            refine T_reg ?_
            refine T_val (Ev_move rfl) rfl ?_
            refine T_val (Ev_field rfl fld26_1 rfl) rfl ?_
            refine T_val (Ev_load1 rfl (i := 7) rfl rfl one24) rfl ?_
            refine T_val (Ev_len rfl 41 Try.underlying24) rfl ?_
            refine T_val (Ev_lss rfl rfl) rfl ?_
            refine T_nil ?_
            refine T_next ?_
            refine T_caseP (s := 75) rfl (fun h117 => ?_) (fun h117 => ?_)
            · have hx118 := ite_t h117 hx114
              refine T_condT rfl ?_
              refine T_skip ?_
              refine T_next ?_
              obtain ⟨j22, hj22, hx118⟩ := jn_some hx118
              refine T_cutP (τ := (List S_api_Cell) × (List Int)) (γ := (Option Addr) × Nat × (Option Addr) × Nat) (J := j22) (out := x114) (fun s22 y22 => [(1, .int .i64 (p1)), (2, .pointer (some ⟨g1, 0, none⟩)), (5, .pointer (some ⟨g34, 0, none⟩)), (6, .pointer (some ⟨g35, 0, none⟩)), (7, .int .i64 (r11.2.2)), (8, .pointer (some ⟨g78, 0, none⟩)), (9, .slice (y22.2.2.1) ((s22.2).length) (y22.2.2.2)), (10, .int .i64 (s114.2.2))]) (fun s22 y22 => [.r (y22.1) ((s22.1).length) (y22.2.1) 41 3 ((s22.1).flatMap e_api_Cell), .r (y22.2.2.1) ((s22.2).length) (y22.2.2.2) 3 1 ((s22.2).flatMap e_i64), .m g78 26 [.int .i64 (p0.Raster.X0), .int .i64 (p0.Raster.Y0), .int .i64 (p0.Raster.Step), .int .i64 (p0.Raster.NX), .int .i64 (p0.Raster.NY), .slice (y22.1) ((s22.1).length) (y22.2.1)], .m g35 32 [.bool (r11.2.1.Neg), .slice (A18) ((r11.2.1.Num).length) (c19), .slice (A20) ((r11.2.1.Den).length) (c21)], .m g34 32 [.bool (r11.1.Neg), .slice (A14) ((r11.1.Num).length) (c15), .slice (A16) ((r11.1.Den).length) (c17)], e22, e23, .m g1 26 [.int .i64 (p0.Raster.X0), .int .i64 (p0.Raster.Y0), .int .i64 (p0.Raster.Step), .int .i64 (p0.Raster.NX), .int .i64 (p0.Raster.NY), .slice (A0_0) ((p0.Cells).length) (c0_0)]] ++ [.old w]) (fun s22 y22 => True) ?_ ?_
              · intro s22 y22 hx147 hG148
                subst hj22
                refine T_reg ?_
                refine T_val (Ev_move rfl) rfl ?_
                refine T_val (Ev_add_w64 rfl rfl) rfl ?_
                refine T_val (Ev_assign rfl) rfl ?_
                refine T_nil ?_
                exact T_roundP (s22.1, s22.2, w64 (s114.2.2 + 1)) (y22.1, y22.2.1, y22.2.2.1, y22.2.2.2) hx147 trivial (by exact .cons rfl (.cons rfl (.cons rfl (.cons rfl (.cons rfl (.cons rfl (.cons rfl (.cons rfl (.nil))))))))) (by exact .pick 0 rfl (.pick 0 rfl (.pick 0 rfl (.pick 0 rfl (.pick 0 rfl (.pick 0 rfl (.pick 0 rfl (.pick 0 rfl (.refl)))))))))
              · skip
                refine T_block ?_
                refine T_seq ?_
                refine T_draw [0, 1, 0, 0, 2, 2, 3, 0, 3] [[], [0], [], [], [2, 3], [2, 3, 4], [0, 1, 2, 3, 4, 5], [0, 1, 2, 3, 4, 5, 6], [0, 1, 2, 3, 4, 5, 6, 7]] (.q 0 (.q 1 (.q 2 (.q 3 (.e 4 (.e 5 (.e 6 (.q 7 (.e 8 (.done) (.stop))) (.stop)) (.stop)) (.stop)))))) mixed (by kernel_rfl) (by kernel_rfl) ?_
                refine P_p rfl rfl (Ev_field rfl fld26_1 rfl) rfl ?_
                refine P_q rfl rfl (Ev_load1 rfl (i := 2) rfl rfl one24) rfl ?_
                refine P_p rfl rfl (Ev_move rfl) rfl ?_
                refine P_p rfl rfl (Ev_move rfl) rfl ?_
                obtain ⟨r120, h121, hx122⟩ := bnd_some hx118
                refine P_x rfl (Wx_callL rfl (fun w1 hw1 => lidarlaw09_known_ok p1 p1  h121 w1) rfl ?_) ?_
                rotate_left; exact P_stop
                rintro _ _ hlo ⟨rfl, rfl, -⟩
                refine T_app0 ?_
                refine P_x rfl (Wx_buildSlice rfl (bls24_1_0abi64i64 _ _ _) rfl (fun g123 => ?_)) ?_
                rotate_left; exact P_stop
                obtain ⟨h124, hx125⟩ := gd_some hx122
                refine P_h rfl rfl (Wh_appendP e_api_Cell (s114.1) [r120] rfl rfl rfl elm24 (fun _ => rfl) (i' := 0) rfl rfl rfl rfl h124 rfl (fun _ _ => .there (.here)) (fun _ _ => .drop .refl) (by decide) (fun A126 c127 => ?_)) ?_
                rotate_left; exact P_stop
                refine P_p rfl rfl (Ev_field rfl fld26_1 rfl) rfl ?_
                refine P_h rfl rfl (Wh_store rfl rfl rfl (.there (.there (.here))) (.skip (.skip (.skip (.skip (.skip (.put (.done))))))) rfl (List.cons_ne_nil _ _) one24.2 ?_) ?_
                rotate_left; exact P_stop
                refine P_done ?_
                refine T_next ?_
                refine T_seq ?_
                refine T_reg ?_
                refine T_val (Ev_field rfl fld26_1 rfl) rfl ?_
                refine T_val (Ev_load1 rfl (i := 7) rfl rfl one24) rfl ?_
                refine T_val (Ev_move rfl) rfl ?_
                obtain ⟨x128, h129, hx130⟩ := bnd_some hx125
                have hw138 := Has.low (E := []) ha0' hK
                obtain ⟨b131, o132, j133, hA134, hj135, hl136, hp137⟩ := Has.at_idx hw138 h129
                refine T_val (Ev_index rfl rfl hA134 (j := j133) hj135 hl136 slc24) rfl ?_
                refine T_val (Ev_field rfl fld41_0 rfl) rfl ?_
                refine T_val (Ev_loadP1 (d := 0) rfl hp137 (SubE.cons2 (i := 8) rfl (SubE.nil)) rfl one4) rfl ?_
                refine T_val (Ev_not rfl) rfl ?_
                refine T_nil ?_
                refine T_next ?_
                refine T_caseNB (s := 92) rfl (fun h139 => ?_) (fun h139 => ?_)
                · have hx140 := ite_bf h139 hx130
                  refine T_condT rfl ?_
                  refine T_reg ?_
                  refine T_val (Ev_move rfl) rfl ?_
                  refine T_val (Ev_move rfl) rfl ?_
                  refine T_x (Wx_buildSlice rfl (bls27_1_0i64 _) rfl (fun g141 => ?_))
                  obtain ⟨h142, hx143⟩ := gd_some hx140
                  refine T_h (Wh_appendP e_i64 (s114.2.1) [s114.2.2] rfl rfl rfl elm27 (fun _ => rfl) (i' := 0) rfl rfl rfl rfl h142 rfl (fun _ _ => .there (.there (.here))) (fun _ _ => .drop .refl) (by decide) (fun A144 c145 => ?_))
                  refine T_val (Ev_assign rfl) rfl ?_
                  refine T_nil ?_
                  refine T_inN ?_
                  exact T_metP (s114.1 ++ [r120], s114.2.1 ++ [s114.2.2]) (A126, c127, A144, c145) hx143 trivial (by exact .cons rfl (.cons rfl (.cons rfl (.cons rfl (.cons rfl (.cons rfl (.cons rfl (.cons rfl (.nil))))))))) (by exact .pick 0 rfl (.pick 0 rfl (.pick 0 rfl (.pick 0 rfl (.pick 0 rfl (.pick 0 rfl (.pick 0 rfl (.pick 0 rfl (.refl)))))))))
                · have hx146 := ite_t h139 hx130
                  refine T_condF rfl ?_
                  refine T_skip ?_
                  refine T_inN ?_
                  exact T_metP (s114.1 ++ [r120], s114.2.1) (A126, c127, y114.2.2.1, y114.2.2.2) hx146 trivial (by exact .cons rfl (.cons rfl (.cons rfl (.cons rfl (.cons rfl (.cons rfl (.cons rfl (.cons rfl (.nil))))))))) (by exact .pick 0 rfl (.pick 0 rfl (.pick 0 rfl (.pick 0 rfl (.pick 0 rfl (.pick 0 rfl (.pick 0 rfl (.pick 0 rfl (.refl)))))))))
            · have hx119 := ite_f h117 hx114
              refine T_condF rfl ?_
              refine T_exit ?_
              refine T_outX ?_
              obtain rfl := exit_eq ht114 hx119
              refine T_outX ?_
              refine T_here ?_
              exact T_metP (s114.1, s114.2.1) (y114.1, y114.2.1, y114.2.2.1, y114.2.2.2) ho114 trivial (by exact .cons rfl (.cons rfl (.cons rfl (.cons rfl (.cons rfl (.cons rfl (.nil))))))) (by exact .pick 0 rfl (.pick 0 rfl (.pick 0 rfl (.pick 0 rfl (.pick 0 rfl (.pick 0 rfl (.pick 0 rfl (.pick 0 rfl (.refl)))))))))
      · skip
        refine T_reg ?_
        refine T_val (Ev_move rfl) rfl ?_
        refine T_val (Ev_lss rfl rfl) rfl ?_
        refine T_val (Ev_move rfl) rfl ?_
        refine T_caseP (s := 47) rfl (fun h56 => ?_) (fun h56 => ?_)
        · have hx57 := ite_t h56 hx55
          refine T_skipG rfl rfl rfl rfl rfl ?_
          refine T_skipG rfl rfl rfl rfl rfl ?_
          refine T_val (Ev_pickT rfl rfl) rfl ?_
          refine T_val (Ev_assign rfl) rfl ?_
          refine T_nil ?_
          exact T_metP true () hx57 trivial (by exact .cons rfl (.cons rfl (.cons rfl (.cons rfl (.cons rfl (.cons rfl (.nil))))))) (by exact .pick 0 rfl (.pick 0 rfl (.pick 0 rfl (.pick 0 rfl (.pick 0 rfl (.refl))))))
        · have hx58 := ite_f h56 hx55
          refine T_valG rfl rfl rfl (Ev_move rfl) rfl ?_
          refine T_valG rfl rfl rfl (Ev_gtr rfl rfl) rfl ?_
          refine T_val (Ev_pickF rfl rfl) rfl ?_
          refine T_val (Ev_assign rfl) rfl ?_
          refine T_nil ?_
          exact T_metP (decide (268435456 < p1)) () hx58 trivial (by exact .cons rfl (.cons rfl (.cons rfl (.cons rfl (.cons rfl (.cons rfl (.nil))))))) (by exact .pick 0 rfl (.pick 0 rfl (.pick 0 rfl (.pick 0 rfl (.pick 0 rfl (.refl))))))
end Go.Proofs.Ytjhknbpiaikblaa
