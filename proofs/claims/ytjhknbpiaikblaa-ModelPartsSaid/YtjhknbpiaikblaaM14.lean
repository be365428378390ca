/- Walks of the program, with their plain functions: regions. -/
import Derived.Test.YtjhknbpiaikblaaM11
namespace Go.Proofs.Ytjhknbpiaikblaa
open Go Go.RowKit
theorem slc91 : SliceOf Try.prog 91 27 1 := .mk Try.underlying91 (show Try.prog.info? 27 = some Try.t27 from by kernel_rfl) (by kernel_rfl)
theorem bld95_0i641s (x0 : Int) (x1 : Option Addr) (x2 : Nat) (x3 : Nat) : BuildOf Try.prog 95 [(0, .int .i64 x0), (1, .slice x1 x2 x3)] [.int .i64 x0, .slice x1 x2 x3, .bool (false), .slice (none) (0) (0), .slice (none) (0) (0), .bool (false), .slice (none) (0) (0), .slice (none) (0) (0)] := fun w => by kernel_rfl
theorem zer95 : ZeroOf Try.prog 95 [.int .i64 (0), .slice (none) (0) (0), .bool (false), .slice (none) (0) (0), .slice (none) (0) (0), .bool (false), .slice (none) (0) (0), .slice (none) (0) (0)] := ⟨_, Try.zeroValue95, rfl⟩
theorem agg95 : AggOf Try.prog 95 8 := .mk Try.underlying95 rfl (show Try.prog.info? 95 = some Try.t95 from by kernel_rfl) (by kernel_rfl)
theorem fld95_2 : FieldOf Try.prog 95 2 2 := .mk Try.underlying95 rfl rfl (show Try.prog.info? 32 = some Try.t32 from by kernel_rfl) (show Try.t32.size = 3 from by kernel_rfl) rfl
theorem fld95_3 : FieldOf Try.prog 95 3 5 := .mk Try.underlying95 rfl rfl (show Try.prog.info? 32 = some Try.t32 from by kernel_rfl) (show Try.t32.size = 3 from by kernel_rfl) rfl
theorem bls88_1_0ai64sbssbss (x0 : Int) (x1 : Option Addr) (x2 : Nat) (x3 : Nat) (x4 : Bool) (x5 : Option Addr) (x6 : Nat) (x7 : Nat) (x8 : Option Addr) (x9 : Nat) (x10 : Nat) (x11 : Bool) (x12 : Option Addr) (x13 : Nat) (x14 : Nat) (x15 : Option Addr) (x16 : Nat) (x17 : Nat) : BuildSliceOf Try.prog 88 1 [(0, .agg #[.int .i64 x0, .slice x1 x2 x3, .bool x4, .slice x5 x6 x7, .slice x8 x9 x10, .bool x11, .slice x12 x13 x14, .slice x15 x16 x17])] 95 [.int .i64 x0, .slice x1 x2 x3, .bool x4, .slice x5 x6 x7, .slice x8 x9 x10, .bool x11, .slice x12 x13 x14, .slice x15 x16 x17] := fun w => by kernel_rfl
theorem elm88 : ElemOf Try.prog 88 95 8 144 := ⟨Try.underlying88, ⟨Try.t95, .agg #[.int .i64 (0), .slice (none) (0) (0), .bool (false), .slice (none) (0) (0), .slice (none) (0) (0), .bool (false), .slice (none) (0) (0), .slice (none) (0) (0)], by kernel_rfl, by kernel_rfl, by kernel_rfl, by kernel_rfl, rfl⟩, by decide⟩
structure S_api_Region where
  State : Int
  Nodes : List Int
  Lo : S_api_Rat
  Hi : S_api_Rat
def n_api_Region (K : List Ent) (x : S_api_Region) (ys : List Value) : Prop := ∃ (A0 : Option Addr) (c0 : Nat) (A1 : Option Addr) (c1 : Nat) (A2 : Option Addr) (c2 : Nat) (A3 : Option Addr) (c3 : Nat) (A4 : Option Addr) (c4 : Nat), ys = [.int .i64 (x.State), .slice (A0) ((x.Nodes).length) (c0), .bool (x.Lo.Neg), .slice (A1) ((x.Lo.Num).length) (c1), .slice (A2) ((x.Lo.Den).length) (c2), .bool (x.Hi.Neg), .slice (A3) ((x.Hi.Num).length) (c3), .slice (A4) ((x.Hi.Den).length) (c4)] ∧ Has K A0 (x.Nodes).length c0 1 e_i64 (x.Nodes) ∧ Has K A1 (x.Lo.Num).length c1 1 e_u32 (x.Lo.Num) ∧ Has K A2 (x.Lo.Den).length c2 1 e_u32 (x.Lo.Den) ∧ Has K A3 (x.Hi.Num).length c3 1 e_u32 (x.Hi.Num) ∧ Has K A4 (x.Hi.Den).length c4 1 e_u32 (x.Hi.Den)
theorem n_api_Region_mono {K L : List Ent} {x : S_api_Region} {ys : List Value} (hK : SubE K L) (h : n_api_Region K x ys) : n_api_Region L x ys := by
  obtain ⟨A0, c0, A1, c1, A2, c2, A3, c3, A4, c4, h0, h1, h2, h3, h4, h5⟩ := h
  exact ⟨A0, c0, A1, c1, A2, c2, A3, c3, A4, c4, h0, Has.up h1 hK, Has.up h2 hK, Has.up h3 hK, Has.up h4 hK, Has.up h5 hK⟩
noncomputable def model_Regions_l8 (r12 : List Int) : ((List Int) × Int) → Option (Sum ((List Int) × Int) (List Int)) := fun s51 =>
 if s51.2 < ((((r12).length : Nat) : Int)) then (jn (fun (s19 : List Int) =>
 some (.inl (s19, w64 (s51.2 + 1))))
 (fun j19 => bnd (idx s51.1 s51.2) fun x55 =>
 if x55 = 2 then (bnd (idx s51.1 s51.2) fun x68 =>
 j19 (setI s51.1 s51.2 0))
 else (j19 s51.1)))
 else (some (.inr s51.1))
noncomputable def model_Regions_l15 (r89 : List (List Int)) (p2 : Int) (s10 : List Int) (p0 : S_api_Grid) (p1 : S_api_Grid) : ((List S_api_Region) × Int) → Option (Sum ((List S_api_Region) × Int) (List S_api_Region)) := fun s262 =>
 if s262.2 < ((((r89).length : Nat) : Int)) then (jn (fun (s43 : List S_api_Region) =>
 some (.inl (s43, w64 (s262.2 + 1))))
 (fun j43 => bnd (idx r89 s262.2) fun x268 =>
 if ((((x268).length : Nat) : Int)) < p2 then (j43 s262.1)
 else (bnd (idx x268 0) fun x286 =>
 bnd (idx s10 x286) fun x296 =>
 bnd (model_amount p0 p1 x268) fun r308 =>
 gd (((s262.1).length + 1) * 144 ≤ 140737488355328) <|
 j43 (s262.1 ++ [(⟨x296, x268, r308.1, r308.2⟩ : S_api_Region)]))))
 else (some (.inr s262.1))
noncomputable def model_Regions (p0 : S_api_Grid) (p1 : S_api_Grid) (p2 : Int) : Option ((List S_api_Region) × Int) :=
 bnd (model_pair p0 p1) fun r3 =>
 if r3 = 0 then (if p2 < 1 then (some (([] : List S_api_Region), 2))
 else (bnd (model_states p0 p1) fun r12 =>
 jn (fun (s10 : List Int) =>
 jn (fun (s23 : List S_api_Region) =>
 some (s23, 0))
 (fun j23 => bnd (model_groups p0.Raster s10) fun r89 =>
 bnd (lfix (model_Regions_l15 r89 p2 s10 p0 p1) (([] : List S_api_Region), 0)) fun t262 =>
 j23 t262))
 (fun j10 => bnd (lfix (model_Regions_l8 r12) (r12, 0)) fun t51 =>
 j10 t51)))
 else (some (([] : List S_api_Region), r3))
set_option maxRecDepth 100000 in
theorem model_Regions_ok (p0 : S_api_Grid) (p1 : S_api_Grid) (p2 : Int) {K : List Ent} {A0_0 : Option Addr} {c0_0 : Nat} {A0_1 : Option Addr} {c0_1 : Nat} (ha0 : Has K A0_0 (p0.Cells).length c0_0 3 e_api_Cell (p0.Cells)) (ha1 : Has K A0_1 (p1.Cells).length c0_1 3 e_api_Cell (p1.Cells)) {r : (List S_api_Region) × Int} (hx : model_Regions p0 p1 p2 = some r) (w : World) (hK : ∀ e ∈ K, Ent.ok w e) : CtL Try.prog 52 [.agg #[.int .i64 (p0.Raster.X0), .int .i64 (p0.Raster.Y0), .int .i64 (p0.Raster.Step), .int .i64 (p0.Raster.NX), .int .i64 (p0.Raster.NY), .slice (A0_0) ((p0.Cells).length) (c0_0)], .agg #[.int .i64 (p1.Raster.X0), .int .i64 (p1.Raster.Y0), .int .i64 (p1.Raster.Step), .int .i64 (p1.Raster.NX), .int .i64 (p1.Raster.NY), .slice (A0_1) ((p1.Cells).length) (c0_1)], .int .i64 (p2)] w fun v Ln => ∃ (A0 : Option Addr) (c0 : Nat) (e0 : Ent) (e1 : Ent) (e2 : Ent), v = .tuple #[.slice (A0) ((r.1).length) (c0), .int .i64 (r.2)] ∧ Ln = [e0, e1, e2] ∧ HasN (K ++ [e0, e1, e2]) A0 (r.1).length c0 8 n_api_Region (r.1) ∧ True := by
  have ha0' := Has.up0 ha0
  have ha1' := Has.up0 ha1
  refine CtL.mk 76 Try.func52 rfl Try.ntmps52 (by kernel_rfl) rfl ?_
  show T 76 _ [(0, .agg #[.int .i64 (p0.Raster.X0), .int .i64 (p0.Raster.Y0), .int .i64 (p0.Raster.Step), .int .i64 (p0.Raster.NX), .int .i64 (p0.Raster.NY), .slice (A0_0) ((p0.Cells).length) (c0_0)]), (1, .agg #[.int .i64 (p1.Raster.X0), .int .i64 (p1.Raster.Y0), .int .i64 (p1.Raster.Step), .int .i64 (p1.Raster.NX), .int .i64 (p1.Raster.NY), .slice (A0_1) ((p1.Cells).length) (c0_1)]), (2, .int .i64 (p2))] _
  unfold model_Regions at hx
  refine T_seq ?_
  refine T_reg ?_
  refine T_x (Wx_box rfl rfl rfl (fun g1 => ?_))
  refine T_x (Wx_box rfl rfl rfl (fun g2 => ?_))
  refine T_val (Ev_assign rfl) rfl ?_
  refine T_val (Ev_assign rfl) rfl ?_
  refine T_nil ?_
  refine T_next ?_
  refine T_seq ?_
  refine T_seq ?_
  refine T_reg ?_
  refine T_val (Ev_loadK rfl (i := 1) rfl rfl agg26) rfl ?_
  refine T_val (Ev_loadK rfl (i := 0) rfl rfl agg26) rfl ?_
  obtain ⟨r3, h4, hx5⟩ := bnd_some hx
  refine T_x (Wx_callL rfl (fun w1 hw1 => model_pair_ok p0 p1 (Has.len' ha0') (Has.len' ha1') h4 w1 (okApp (K := K) (K2 := []) hK (by exact (SubE.cons2 (i := 2) rfl (SubE.nil))) (by exact (SubE.nil)) hw1)) rfl ?_)
  rintro _ _ hlo ⟨rfl, rfl, -⟩
  refine T_app0 ?_
  refine T_val (Ev_assign rfl) rfl ?_
  refine T_nil ?_
  refine T_next ?_
  refine T_seq ?_
  refine T_reg ?_
  refine T_val (Ev_move rfl) rfl ?_
  refine T_val (Ev_neq rfl rfl) rfl ?_
  refine T_nil ?_
  refine T_next ?_
  refine T_caseNP (s := 20) rfl (fun h6 => ?_) (fun h6 => ?_)
  · have hx7 := ite_f h6 hx5
    refine T_condT rfl ?_
    refine T_seq ?_
    refine T_reg ?_
    refine T_val (Ev_move rfl) rfl ?_
    refine T_val (Ev_assign rfl) rfl ?_
    refine T_val (Ev_assign rfl) rfl ?_
    refine T_nil ?_
    refine T_next ?_
    refine T_retc ?_
    refine T_outR ?_
    refine T_none 0 1 ?_
    refine T_none 0 1 ?_
    refine T_none 0 1 ?_
    obtain rfl := Option.some.inj hx7
    exact T_retP (rs := [.tmp 6, .tmp 7]) Try.results52 (.tmp rfl (.tmp rfl (.nil))) (Ln := [.r none 0 0 0 1 [], .r none 0 0 0 1 [], .r none 0 0 0 1 []]) ⟨none, 0, (.r none 0 0 0 1 []), (.r none 0 0 0 1 []), (.r none 0 0 0 1 []), rfl, rfl, HasN.nil, trivial⟩ (loCons rfl (loCons rfl (loCons rfl (loNil)))) (by exact .pick 2 rfl (.pick 1 rfl (.pick 0 rfl (.drop 0 rfl (.drop 0 rfl (.refl))))))
  · have hx8 := ite_t h6 hx5
    refine T_condF rfl ?_
    refine T_skip ?_
    refine T_next ?_
    refine T_seq ?_
    refine T_seq ?_
    refine T_reg ?_
    refine T_val (Ev_move rfl) rfl ?_
    refine T_val (Ev_lss rfl rfl) rfl ?_
    refine T_nil ?_
    refine T_next ?_
    refine T_caseP (s := 23) rfl (fun h9 => ?_) (fun h9 => ?_)
    · have hx10 := ite_t h9 hx8
      refine T_condT rfl ?_
      refine T_seq ?_
      refine T_reg ?_
      refine T_val (Ev_assign rfl) rfl ?_
      refine T_val (Ev_assign rfl) rfl ?_
      refine T_nil ?_
      refine T_next ?_
      refine T_retc ?_
      refine T_outR ?_
      refine T_none 0 1 ?_
      refine T_none 0 1 ?_
      refine T_none 0 1 ?_
      obtain rfl := Option.some.inj hx10
      exact T_retP (rs := [.tmp 6, .tmp 7]) Try.results52 (.tmp rfl (.tmp rfl (.nil))) (Ln := [.r none 0 0 0 1 [], .r none 0 0 0 1 [], .r none 0 0 0 1 []]) ⟨none, 0, (.r none 0 0 0 1 []), (.r none 0 0 0 1 []), (.r none 0 0 0 1 []), rfl, rfl, HasN.nil, trivial⟩ (loCons rfl (loCons rfl (loCons rfl (loNil)))) (by exact .pick 2 rfl (.pick 1 rfl (.pick 0 rfl (.drop 0 rfl (.drop 0 rfl (.refl))))))
    · have hx11 := ite_f h9 hx8
      refine T_condF rfl ?_
      refine T_skip ?_
      refine T_next ?_
      refine T_seq ?_
      refine T_reg ?_
      refine T_val (Ev_loadK rfl (i := 1) rfl rfl agg26) rfl ?_
      refine T_val (Ev_loadK rfl (i := 0) rfl rfl agg26) rfl ?_
      obtain ⟨r12, h13, hx14⟩ := bnd_some hx11
      refine T_x (Wx_callL rfl (fun w1 hw1 => model_states_ok p0 p1 (Has.len' ha0') (Has.len' ha1') h13 w1 (okApp (K := K) (K2 := []) hK (by exact (SubE.cons2 (i := 2) rfl (SubE.nil))) (by exact (SubE.nil)) hw1)) rfl ?_)
      rintro _ _ hlo ⟨A15, c16, rfl, rfl, -⟩
      refine T_app1 ?_
      refine T_val (Ev_assign rfl) rfl ?_
      refine T_nil ?_
      refine T_next ?_
      obtain ⟨j10, hj10, hx14⟩ := jn_some hx14
      refine T_cutP (τ := List Int) (γ := (Option Addr) × Nat) (J := j10) (out := r) (fun s10 y10 => [(2, .int .i64 (p2)), (3, .pointer (some ⟨g1, 0, none⟩)), (4, .pointer (some ⟨g2, 0, none⟩)), (9, .slice (y10.1) ((s10).length) (y10.2))]) (fun s10 y10 => [.r (y10.1) ((s10).length) (y10.2) 3 1 ((s10).flatMap e_i64), .m g2 26 [.int .i64 (p1.Raster.X0), .int .i64 (p1.Raster.Y0), .int .i64 (p1.Raster.Step), .int .i64 (p1.Raster.NX), .int .i64 (p1.Raster.NY), .slice (A0_1) ((p1.Cells).length) (c0_1)], .m g1 26 [.int .i64 (p0.Raster.X0), .int .i64 (p0.Raster.Y0), .int .i64 (p0.Raster.Step), .int .i64 (p0.Raster.NX), .int .i64 (p0.Raster.NY), .slice (A0_0) ((p0.Cells).length) (c0_0)]] ++ [.old w]) (fun s10 y10 => True) ?_ ?_
      · intro s10 y10 hx85 hG86
        subst hj10
        refine T_seq ?_
        refine T_reg ?_
        refine T_val (Ev_assign rfl) rfl ?_
        refine T_nil ?_
        refine T_next ?_
        obtain ⟨j23, hj23, hx85⟩ := jn_some hx85
        refine T_cutP (τ := List S_api_Region) (γ := (List (Vec 8)) × (Option Addr) × Nat × Ent) (J := j23) (out := r) (fun s23 y23 => [(12, .slice (y23.2.1) ((s23).length) (y23.2.2.1))]) (fun s23 y23 => [y23.2.2.2, .r (y23.2.1) ((s23).length) (y23.2.2.1) 95 8 ((y23.1).flatMap cellsV), .r (y10.1) ((s10).length) (y10.2) 3 1 ((s10).flatMap e_i64)] ++ [.old w]) (fun s23 y23 => y23.2.2.2.low = 0 ∧ RowN (K ++ [.r (y10.1) ((s10).length) (y10.2) 3 1 ((s10).flatMap e_i64), y23.2.2.2]) n_api_Region (y23.1) (s23) ∧ True) ?_ ?_
        · intro s23 y23 hx343 hG344
          obtain ⟨lo345, hr346, -⟩ := hG344
          subst hj23
          refine T_seq ?_
          refine T_reg ?_
          refine T_val (Ev_move rfl) rfl ?_
          refine T_val (Ev_assign rfl) rfl ?_
          refine T_val (Ev_assign rfl) rfl ?_
          refine T_nil ?_
          refine T_next ?_
          refine T_retc ?_
          refine T_rowP (k := 1) rfl (by decide) (fun x => x.2) (fun hn347 hs348 => ?_)
          have hs349 : HasN (K ++ [.r (y23.2.1) ((s23).length) (y23.2.2.1) 95 8 ((y23.1).flatMap cellsV), .r (y10.1) ((s10).length) (y10.2) 3 1 ((s10).flatMap e_i64), y23.2.2.2]) _ _ _ _ _ _ := HasN.ofRowN (Has.up (L := (K ++ [.r (y23.2.1) ((s23).length) (y23.2.2.1) 95 8 ((y23.1).flatMap cellsV), .r (y10.1) ((s10).length) (y10.2) 3 1 ((s10).flatMap e_i64), y23.2.2.2])) hs348 (SubE.appR2 (SubE.cons2 (i := 0) rfl (SubE.nil)))) (RowN.up (R := n_api_Region) (L := (K ++ [.r (y23.2.1) ((s23).length) (y23.2.2.1) 95 8 ((y23.1).flatMap cellsV), .r (y10.1) ((s10).length) (y10.2) 3 1 ((s10).flatMap e_i64), y23.2.2.2])) n_api_Region_mono hr346 (SubE.app2 (SubE.cons2 (i := 1) rfl (SubE.cons2 (i := 2) rfl (SubE.nil)))))
          obtain rfl := Option.some.inj hx343
          exact T_retP (rs := [.tmp 6, .tmp 7]) Try.results52 (.tmp rfl (.tmp rfl (.nil))) (Ln := [.r (y23.2.1) ((s23).length) (y23.2.2.1) 95 8 ((y23.1).flatMap cellsV), .r (y10.1) ((s10).length) (y10.2) 3 1 ((s10).flatMap e_i64), y23.2.2.2]) ⟨y23.2.1, y23.2.2.1, (.r (y23.2.1) ((s23).length) (y23.2.2.1) 95 8 ((y23.1).flatMap cellsV)), (.r (y10.1) ((s10).length) (y10.2) 3 1 ((s10).flatMap e_i64)), y23.2.2.2, rfl, rfl, HasN.len' hs349, trivial⟩ (loCons rfl (loCons rfl (loCons lo345 (loNil)))) (by exact .pick 1 rfl (.pick 1 rfl (.pick 0 rfl (.refl))))
        · skip
          refine T_seq ?_
          refine T_reg ?_
          refine T_val (Ev_field rfl fld26_0 rfl) rfl ?_
          refine T_val (Ev_loadK rfl (i := 2) rfl rfl agg23) rfl ?_
          refine T_val (Ev_move rfl) rfl ?_
          refine T_rowP (k := 0) rfl (by decide) (fun _ => rfl) (fun hn87 hs88 => ?_)
          obtain ⟨r89, h90, hx91⟩ := bnd_some hx85
          refine T_x (Wx_callL rfl (fun w1 hw1 => model_groups_ok p0.Raster s10 (Has.len' hs88) h90 w1 (okAll (K := ([.r (y10.1) ((s10).length) (y10.2) 3 1 ((s10).flatMap e_i64)] : List Ent)) (by exact (SubE.cons2 (i := 0) rfl (SubE.nil))) hw1)) rfl ?_)
          rintro _ _ hlo ⟨A92, c93, e94, e95, rfl, rfl, hs96, -⟩
          have lo97 := hlo e94 (by simp)
          have lo98 := hlo e95 (by simp)
          refine T_app2 ?_
          have hs99 : HasN ([.r (y10.1) ((s10).length) (y10.2) 3 1 ((s10).flatMap e_i64), e94, e95] : List Ent) _ _ _ _ _ _ := id hs96
          refine T_val (Ev_len rfl 27 Try.underlying91) rfl ?_
          refine T_val (Ev_move rfl) rfl ?_
          refine T_nil ?_
          refine T_next ?_
          refine T_block ?_
          obtain ⟨t262, hl262, ho262⟩ := bnd_some hx91
          refine T_none 0 1 ?_
          refine T_none 95 8 ?_
          refine T_loopP (σ := (List S_api_Region) × Int) (γ := (List (Vec 8)) × (Option Addr) × Nat × Ent) hl262 (fun s262 y262 => [(2, .int .i64 (p2)), (3, .pointer (some ⟨g1, 0, none⟩)), (4, .pointer (some ⟨g2, 0, none⟩)), (9, .slice (y10.1) ((s10).length) (y10.2)), (12, .slice (y262.2.1) ((s262.1).length) (y262.2.2.1)), (43, .slice (A92) ((r89).length) (c93)), (44, .int .i64 ((((r89).length : Nat) : Int))), (45, .int .i64 (s262.2))]) (fun s262 y262 => [y262.2.2.2, .r (y262.2.1) ((s262.1).length) (y262.2.2.1) 95 8 ((y262.1).flatMap cellsV), e94, e95, .r (y10.1) ((s10).length) (y10.2) 3 1 ((s10).flatMap e_i64), .m g2 26 [.int .i64 (p1.Raster.X0), .int .i64 (p1.Raster.Y0), .int .i64 (p1.Raster.Step), .int .i64 (p1.Raster.NX), .int .i64 (p1.Raster.NY), .slice (A0_1) ((p1.Cells).length) (c0_1)], .m g1 26 [.int .i64 (p0.Raster.X0), .int .i64 (p0.Raster.Y0), .int .i64 (p0.Raster.Step), .int .i64 (p0.Raster.NX), .int .i64 (p0.Raster.NY), .slice (A0_0) ((p0.Cells).length) (c0_0)]] ++ [.old w]) (fun s262 y262 => y262.2.2.2.low = 0 ∧ RowN (K ++ [.r (y10.1) ((s10).length) (y10.2) 3 1 ((s10).flatMap e_i64), e94, e95, y262.2.2.2]) n_api_Region (y262.1) (s262.1) ∧ True) (([] : List (Vec 8)), none, 0, .r none 0 0 0 1 []) ((by exact ⟨rfl, RowN.nil, trivial⟩)) (by exact .cons rfl (.cons rfl (.cons rfl (.cons rfl (.cons rfl (.cons rfl (.cons rfl (.cons rfl (.nil))))))))) (by exact .pick 1 rfl (.pick 0 rfl (.pick 0 rfl (.pick 0 rfl (.pick 0 rfl (.pick 0 rfl (.pick 0 rfl (.refl)))))))) ?_
          intro s262 y262 hG262 x262 hx262 ht262
          unfold model_Regions_l15 at hx262
          obtain ⟨lo263, hr264, -⟩ := hG262
          refine T_seq ?_
          refine T_reg ?_
          refine T_val (Ev_lss rfl rfl) rfl ?_
          refine T_nil ?_
          refine T_next ?_
          refine T_seq ?_
          refine T_caseP (s := 46) rfl (fun h265 => ?_) (fun h265 => ?_)
          · have hx266 := ite_t h265 hx262
            refine T_condT rfl ?_
            refine T_skip ?_
            refine T_next ?_
            obtain ⟨j43, hj43, hx266⟩ := jn_some hx266
            refine T_cutP (τ := List S_api_Region) (γ := (List (Vec 8)) × (Option Addr) × Nat × Ent) (J := j43) (out := x262) (fun s43 y43 => [(2, .int .i64 (p2)), (3, .pointer (some ⟨g1, 0, none⟩)), (4, .pointer (some ⟨g2, 0, none⟩)), (9, .slice (y10.1) ((s10).length) (y10.2)), (12, .slice (y43.2.1) ((s43).length) (y43.2.2.1)), (43, .slice (A92) ((r89).length) (c93)), (44, .int .i64 ((((r89).length : Nat) : Int))), (45, .int .i64 (s262.2))]) (fun s43 y43 => [y43.2.2.2, y262.2.2.2, .r (y43.2.1) ((s43).length) (y43.2.2.1) 95 8 ((y43.1).flatMap cellsV), e94, e95, .r (y10.1) ((s10).length) (y10.2) 3 1 ((s10).flatMap e_i64), .m g2 26 [.int .i64 (p1.Raster.X0), .int .i64 (p1.Raster.Y0), .int .i64 (p1.Raster.Step), .int .i64 (p1.Raster.NX), .int .i64 (p1.Raster.NY), .slice (A0_1) ((p1.Cells).length) (c0_1)], .m g1 26 [.int .i64 (p0.Raster.X0), .int .i64 (p0.Raster.Y0), .int .i64 (p0.Raster.Step), .int .i64 (p0.Raster.NX), .int .i64 (p0.Raster.NY), .slice (A0_0) ((p0.Cells).length) (c0_0)]] ++ [.old w]) (fun s43 y43 => y43.2.2.2.low = 0 ∧ RowN (K ++ [.r (y10.1) ((s10).length) (y10.2) 3 1 ((s10).flatMap e_i64), e94, e95, y262.2.2.2, y43.2.2.2]) n_api_Region (y43.1) (s43) ∧ True) ?_ ?_
            · intro s43 y43 hx337 hG338
              obtain ⟨lo339, hr340, -⟩ := hG338
              subst hj43
              refine T_reg ?_
              refine T_val (Ev_add_w64 rfl rfl) rfl ?_
              refine T_val (Ev_move rfl) rfl ?_
              refine T_nil ?_
              refine T_bundle (es := [y262.2.2.2, y43.2.2.2]) (by exact .pick 1 rfl (.pick 0 rfl (.refl))) (loCons lo263 (loCons lo339 (loNil))) ?_
              exact T_roundP (s43, w64 (s262.2 + 1)) (y43.1, y43.2.1, y43.2.2.1, bun [y262.2.2.2, y43.2.2.2]) hx337 ((by exact ⟨rfl, (RowN.up (R := n_api_Region) (L := (K ++ [.r (y10.1) ((s10).length) (y10.2) 3 1 ((s10).flatMap e_i64), e94, e95, (bun [y262.2.2.2, y43.2.2.2])])) n_api_Region_mono hr340 (SubE.app2 (SubE.cons2 (i := 0) rfl (SubE.cons2 (i := 1) rfl (SubE.cons2 (i := 2) rfl (SubE.consB (i := 3) (j := 0) rfl rfl (SubE.consB (i := 3) (j := 1) rfl rfl (SubE.nil)))))))), trivial⟩)) (by exact .cons rfl (.cons rfl (.cons rfl (.cons rfl (.cons rfl (.cons rfl (.cons rfl (.cons rfl (.nil))))))))) (by exact .pick 0 rfl (.pick 0 rfl (.pick 0 rfl (.pick 0 rfl (.pick 0 rfl (.pick 0 rfl (.pick 0 rfl (.refl))))))))
            · skip
              refine T_block ?_
              refine T_seq ?_
              refine T_reg ?_
              obtain ⟨x268, h269, hx270⟩ := bnd_some hx266
              obtain ⟨b271, o272, j273, ys281, hA274, hj275, hl276, hp277, hr282⟩ := HasN.at_idx hs99 h269
              obtain ⟨A278, c279, rfl, hs280⟩ := hr282
              refine T_val (Ev_index rfl rfl hA274 (j := j273) hj275 hl276 slc91) rfl ?_
              refine T_val (Ev_loadP0 rfl hp277 (SubE.cons2 (i := 4) rfl (SubE.cons2 (i := 2) rfl (SubE.cons2 (i := 3) rfl (SubE.nil)))) rfl one27) rfl ?_
              refine T_val (Ev_assign rfl) rfl ?_
              refine T_nil ?_
              refine T_next ?_
              refine T_seq ?_
              refine T_seq ?_
              refine T_reg ?_
              refine T_val (Ev_move rfl) rfl ?_
              refine T_val (Ev_len rfl 3 Try.underlying27) rfl ?_
              refine T_val (Ev_move rfl) rfl ?_
              refine T_val (Ev_lss rfl rfl) rfl ?_
              refine T_nil ?_
              refine T_next ?_
              refine T_caseP (s := 52) rfl (fun h283 => ?_) (fun h283 => ?_)
              · have hx284 := ite_t h283 hx270
                refine T_condT rfl ?_
                refine T_exit ?_
                refine T_outX ?_
                refine T_here ?_
                refine T_none 0 1 ?_
                exact T_metP s262.1 (y262.1, y262.2.1, y262.2.2.1, .r none 0 0 0 1 []) hx284 ((by exact ⟨rfl, (RowN.up (R := n_api_Region) (L := (K ++ [.r (y10.1) ((s10).length) (y10.2) 3 1 ((s10).flatMap e_i64), e94, e95, y262.2.2.2, .r none 0 0 0 1 []])) n_api_Region_mono hr264 (SubE.app2 (SubE.cons2 (i := 0) rfl (SubE.cons2 (i := 1) rfl (SubE.cons2 (i := 2) rfl (SubE.cons2 (i := 3) rfl (SubE.nil))))))), trivial⟩)) (by exact .cons rfl (.cons rfl (.cons rfl (.cons rfl (.cons rfl (.cons rfl (.cons rfl (.cons rfl (.nil))))))))) (by exact .pick 0 rfl (.pick 0 rfl (.pick 0 rfl (.pick 0 rfl (.pick 0 rfl (.pick 0 rfl (.pick 0 rfl (.pick 0 rfl (.refl)))))))))
              · have hx285 := ite_f h283 hx270
                refine T_condF rfl ?_
                refine T_skip ?_
                refine T_next ?_
                refine T_seq ?_
                refine T_reg ?_
                refine T_val (Ev_move rfl) rfl ?_
                refine T_val (Ev_move rfl) rfl ?_
                obtain ⟨x286, h287, hx288⟩ := bnd_some hx285
                obtain ⟨b289, o290, j291, hA292, hj293, hl294, hp295⟩ := Has.at_idx hs280 h287
                refine T_val (Ev_index rfl rfl hA292 (j := j291) hj293 hl294 slc27) rfl ?_
                refine T_val (Ev_loadP0 rfl hp295 (SubE.cons2 (i := 4) rfl (SubE.cons2 (i := 2) rfl (SubE.cons2 (i := 3) rfl (SubE.nil)))) rfl one3) rfl ?_
                obtain ⟨x296, h297, hx298⟩ := bnd_some hx288
                refine T_idxR (k := 4) rfl (by decide) (fun _ => rfl) h297 (fun b299 j301 hA302 hj303 hl304 hm306 hp305 => ?_)
                refine T_val (Ev_index rfl rfl hA302 (j := j301) hj303 hl304 slc27) rfl ?_
                refine T_val (Ev_loadP0 rfl hp305 (SubE.cons2 (i := 4) rfl (SubE.nil)) rfl one3) rfl ?_
                refine T_val (Ev_move rfl) rfl ?_
                refine T_val (Ev_build rfl (bld95_0i641s _ _ _ _)) rfl ?_
                refine T_x (Wx_alloc zer95 rfl (fun g307 => ?_))
                refine T_h (Wh_store rfl rfl rfl (.here) (.put (.put (.put (.put (.put (.put (.put (.put (.done))))))))) rfl (List.cons_ne_nil _ _) agg95.2 ?_)
                refine T_nil ?_
                refine T_next ?_
                refine T_seq ?_
                refine T_reg ?_
                refine T_val (Ev_loadK rfl (i := 7) rfl rfl agg26) rfl ?_
                refine T_val (Ev_loadK rfl (i := 6) rfl rfl agg26) rfl ?_
                refine T_val (Ev_move rfl) rfl ?_
                obtain ⟨r308, h309, hx310⟩ := bnd_some hx298
                refine T_x (Wx_callL rfl (fun w1 hw1 => model_amount_ok p0 p1 x268 (Has.len' (Has.up (L := (K ++ [.r (y10.1) ((s10).length) (y10.2) 3 1 ((s10).flatMap e_i64), e94, e95])) ha0' (SubE.app2 SubE.nil))) (Has.len' (Has.up (L := (K ++ [.r (y10.1) ((s10).length) (y10.2) 3 1 ((s10).flatMap e_i64), e94, e95])) ha1' (SubE.app2 SubE.nil))) (Has.len' (Has.up (L := (K ++ [.r (y10.1) ((s10).length) (y10.2) 3 1 ((s10).flatMap e_i64), e94, e95])) hs280 (SubE.appR2 (SubE.cons2 (i := 0) rfl (SubE.cons2 (i := 1) rfl (SubE.cons2 (i := 2) rfl (SubE.nil))))))) h309 w1 (okApp (K := K) (K2 := [.r (y10.1) ((s10).length) (y10.2) 3 1 ((s10).flatMap e_i64), e94, e95]) hK (by exact (SubE.cons2 (i := 8) rfl (SubE.nil))) (by exact (SubE.cons2 (i := 5) rfl (SubE.cons2 (i := 3) rfl (SubE.cons2 (i := 4) rfl (SubE.nil))))) hw1)) rfl ?_)
                rintro _ _ hlo ⟨A311, c312, A313, c314, A315, c316, A317, c318, e319, e320, rfl, rfl, hs321, hs322, hs323, hs324, -⟩
                have lo325 := hlo e319 (by simp)
                have lo326 := hlo e320 (by simp)
                refine T_app2 ?_
                have hs327 : Has (K ++ [.r (y10.1) ((s10).length) (y10.2) 3 1 ((s10).flatMap e_i64), e94, e95, e319, e320]) _ _ _ _ _ _ := Has.assoc hs321
                have hs328 : Has (K ++ [.r (y10.1) ((s10).length) (y10.2) 3 1 ((s10).flatMap e_i64), e94, e95, e319, e320]) _ _ _ _ _ _ := Has.assoc hs322
                have hs329 : Has (K ++ [.r (y10.1) ((s10).length) (y10.2) 3 1 ((s10).flatMap e_i64), e94, e95, e319, e320]) _ _ _ _ _ _ := Has.assoc hs323
                have hs330 : Has (K ++ [.r (y10.1) ((s10).length) (y10.2) 3 1 ((s10).flatMap e_i64), e94, e95, e319, e320]) _ _ _ _ _ _ := Has.assoc hs324
                refine T_val (Ev_move rfl) rfl ?_
                refine T_val (Ev_extract rfl rfl) rfl ?_
                refine T_val (Ev_extract rfl rfl) rfl ?_
                refine T_val (Ev_field rfl fld95_2 rfl) rfl ?_
                refine T_h (Wh_store rfl rfl rfl (.there (.there (.here))) (.skip (.skip (.put (.put (.put (.done)))))) rfl (List.cons_ne_nil _ _) agg32.2 ?_)
                refine T_val (Ev_field rfl fld95_3 rfl) rfl ?_
                refine T_h (Wh_store rfl rfl rfl (.there (.there (.here))) (.skip (.skip (.skip (.skip (.skip (.put (.put (.put (.done))))))))) rfl (List.cons_ne_nil _ _) agg32.2 ?_)
                refine T_nil ?_
                refine T_next ?_
                refine T_reg ?_
                refine T_val (Ev_move rfl) rfl ?_
                refine T_val (Ev_loadK rfl (i := 2) rfl rfl agg95) rfl ?_
                refine T_x (Wx_buildSlice rfl (bls88_1_0ai64sbssbss _ _ _ _ _ _ _ _ _ _ _ _ _ _ _ _ _ _) rfl (fun g331 => ?_))
                have hr332 : RowN (K ++ [.r (y10.1) ((s10).length) (y10.2) 3 1 ((s10).flatMap e_i64), e94, e95, y262.2.2.2, e319, e320]) n_api_Region (y262.1 ++ [(⟨[.int .i64 (x296), .slice (A278) ((x268).length) (c279), .bool (r308.1.Neg), .slice (A311) ((r308.1.Num).length) (c312), .slice (A313) ((r308.1.Den).length) (c314), .bool (r308.2.Neg), .slice (A315) ((r308.2.Num).length) (c316), .slice (A317) ((r308.2.Den).length) (c318)], rfl⟩ : Vec 8)]) (s262.1 ++ [(⟨x296, x268, r308.1, r308.2⟩ : S_api_Region)]) := RowN.snoc (RowN.up (R := n_api_Region) (L := (K ++ [.r (y10.1) ((s10).length) (y10.2) 3 1 ((s10).flatMap e_i64), e94, e95, y262.2.2.2, e319, e320])) n_api_Region_mono hr264 (SubE.app2 (SubE.cons2 (i := 0) rfl (SubE.cons2 (i := 1) rfl (SubE.cons2 (i := 2) rfl (SubE.cons2 (i := 3) rfl (SubE.nil))))))) ⟨A278, c279, A311, c312, A313, c314, A315, c316, A317, c318, rfl, Has.len' (Has.up (L := (K ++ [.r (y10.1) ((s10).length) (y10.2) 3 1 ((s10).flatMap e_i64), e94, e95, y262.2.2.2, e319, e320])) hs280 (SubE.appR2 (SubE.cons2 (i := 0) rfl (SubE.cons2 (i := 1) rfl (SubE.cons2 (i := 2) rfl (SubE.nil)))))), Has.len' (Has.up (L := (K ++ [.r (y10.1) ((s10).length) (y10.2) 3 1 ((s10).flatMap e_i64), e94, e95, y262.2.2.2, e319, e320])) hs327 (SubE.app2 (SubE.cons2 (i := 0) rfl (SubE.cons2 (i := 1) rfl (SubE.cons2 (i := 2) rfl (SubE.cons2 (i := 4) rfl (SubE.cons2 (i := 5) rfl (SubE.nil)))))))), Has.len' (Has.up (L := (K ++ [.r (y10.1) ((s10).length) (y10.2) 3 1 ((s10).flatMap e_i64), e94, e95, y262.2.2.2, e319, e320])) hs328 (SubE.app2 (SubE.cons2 (i := 0) rfl (SubE.cons2 (i := 1) rfl (SubE.cons2 (i := 2) rfl (SubE.cons2 (i := 4) rfl (SubE.cons2 (i := 5) rfl (SubE.nil)))))))), Has.len' (Has.up (L := (K ++ [.r (y10.1) ((s10).length) (y10.2) 3 1 ((s10).flatMap e_i64), e94, e95, y262.2.2.2, e319, e320])) hs329 (SubE.app2 (SubE.cons2 (i := 0) rfl (SubE.cons2 (i := 1) rfl (SubE.cons2 (i := 2) rfl (SubE.cons2 (i := 4) rfl (SubE.cons2 (i := 5) rfl (SubE.nil)))))))), Has.len' (Has.up (L := (K ++ [.r (y10.1) ((s10).length) (y10.2) 3 1 ((s10).flatMap e_i64), e94, e95, y262.2.2.2, e319, e320])) hs330 (SubE.app2 (SubE.cons2 (i := 0) rfl (SubE.cons2 (i := 1) rfl (SubE.cons2 (i := 2) rfl (SubE.cons2 (i := 4) rfl (SubE.cons2 (i := 5) rfl (SubE.nil))))))))⟩
                obtain ⟨h333, hx334⟩ := gd_some hx310
                refine T_h (Wh_appendP cellsV (y262.1) [(⟨[.int .i64 (x296), .slice (A278) ((x268).length) (c279), .bool (r308.1.Neg), .slice (A311) ((r308.1.Num).length) (c312), .slice (A313) ((r308.1.Den).length) (c314), .bool (r308.2.Neg), .slice (A315) ((r308.2.Num).length) (c316), .slice (A317) ((r308.2.Den).length) (c318)], rfl⟩ : Vec 8)] rfl rfl rfl elm88 (fun x => x.2) (i' := 0) rfl rfl rfl rfl (by have := RowN.len (hr264); have := h333; simp only [List.length_singleton, List.length_nil] at *; omega) rfl (fun _ _ => .there (.there (.there (.there (.there (.here)))))) (fun _ _ => .drop .refl) (by decide) (fun A335 c336 => ?_))
                refine T_val (Ev_assign rfl) rfl ?_
                refine T_nil ?_
                refine T_inN ?_
                refine T_bundle (es := [e319, e320]) (by exact .pick 0 rfl (.pick 0 rfl (.refl))) (loCons lo325 (loCons lo326 (loNil))) ?_
                have hn341 : (y262.1 ++ [(⟨[.int .i64 (x296), .slice (A278) ((x268).length) (c279), .bool (r308.1.Neg), .slice (A311) ((r308.1.Num).length) (c312), .slice (A313) ((r308.1.Den).length) (c314), .bool (r308.2.Neg), .slice (A315) ((r308.2.Num).length) (c316), .slice (A317) ((r308.2.Den).length) (c318)], rfl⟩ : Vec 8)]).length = (s262.1 ++ [(⟨x296, x268, r308.1, r308.2⟩ : S_api_Region)]).length := RowN.len hr332
                refine T_ent (.there (.there (.there (.here)))) (e' := .r (A335) ((s262.1 ++ [(⟨x296, x268, r308.1, r308.2⟩ : S_api_Region)]).length) (c336) 95 8 ((y262.1 ++ [(⟨[.int .i64 (x296), .slice (A278) ((x268).length) (c279), .bool (r308.1.Neg), .slice (A311) ((r308.1.Num).length) (c312), .slice (A313) ((r308.1.Den).length) (c314), .bool (r308.2.Neg), .slice (A315) ((r308.2.Num).length) (c316), .slice (A317) ((r308.2.Den).length) (c318)], rfl⟩ : Vec 8)]).flatMap cellsV)) (by first | (rw [← hn341]; done) | rfl) ?_
                refine T_slot (s := 12) (v' := .slice (A335) ((s262.1 ++ [(⟨x296, x268, r308.1, r308.2⟩ : S_api_Region)]).length) (c336)) rfl (by have hn342 : ((y262.1 ++ [(⟨[.int .i64 (x296), .slice (A278) ((x268).length) (c279), .bool (r308.1.Neg), .slice (A311) ((r308.1.Num).length) (c312), .slice (A313) ((r308.1.Den).length) (c314), .bool (r308.2.Neg), .slice (A315) ((r308.2.Num).length) (c316), .slice (A317) ((r308.2.Den).length) (c318)], rfl⟩ : Vec 8)]).length) = (s262.1 ++ [(⟨x296, x268, r308.1, r308.2⟩ : S_api_Region)]).length := (RowN.len hr332); first | (rw [← hn342]; done) | rfl) ?_
                exact T_metP (s262.1 ++ [(⟨x296, x268, r308.1, r308.2⟩ : S_api_Region)]) (y262.1 ++ [(⟨[.int .i64 (x296), .slice (A278) ((x268).length) (c279), .bool (r308.1.Neg), .slice (A311) ((r308.1.Num).length) (c312), .slice (A313) ((r308.1.Den).length) (c314), .bool (r308.2.Neg), .slice (A315) ((r308.2.Num).length) (c316), .slice (A317) ((r308.2.Den).length) (c318)], rfl⟩ : Vec 8)], A335, c336, bun [e319, e320]) hx334 ((by exact ⟨rfl, (RowN.up (R := n_api_Region) (L := (K ++ [.r (y10.1) ((s10).length) (y10.2) 3 1 ((s10).flatMap e_i64), e94, e95, y262.2.2.2, (bun [e319, e320])])) n_api_Region_mono hr332 (SubE.app2 (SubE.cons2 (i := 0) rfl (SubE.cons2 (i := 1) rfl (SubE.cons2 (i := 2) rfl (SubE.cons2 (i := 3) rfl (SubE.consB (i := 4) (j := 0) rfl rfl (SubE.consB (i := 4) (j := 1) rfl rfl (SubE.nil))))))))), trivial⟩)) (by exact .cons rfl (.cons rfl (.cons rfl (.cons rfl (.cons rfl (.cons rfl (.cons rfl (.cons rfl (.nil))))))))) (by exact .pick 0 rfl (.pick 1 rfl (.pick 1 rfl (.pick 1 rfl (.pick 1 rfl (.pick 1 rfl (.pick 1 rfl (.pick 1 rfl (.drop 0 rfl (.refl))))))))))
          · have hx267 := ite_f h265 hx262
            refine T_condF rfl ?_
            refine T_exit ?_
            refine T_outX ?_
            obtain rfl := exit_eq ht262 hx267
            refine T_outX ?_
            refine T_here ?_
            refine T_bundle (es := [e94, e95, y262.2.2.2]) (by exact .pick 2 rfl (.pick 2 rfl (.pick 0 rfl (.refl)))) (loCons lo97 (loCons lo98 (loCons lo263 (loNil)))) ?_
            exact T_metP s262.1 (y262.1, y262.2.1, y262.2.2.1, bun [e94, e95, y262.2.2.2]) ho262 ((by exact ⟨rfl, (RowN.up (R := n_api_Region) (L := (K ++ [.r (y10.1) ((s10).length) (y10.2) 3 1 ((s10).flatMap e_i64), (bun [e94, e95, y262.2.2.2])])) n_api_Region_mono hr264 (SubE.app2 (SubE.cons2 (i := 0) rfl (SubE.consB (i := 1) (j := 0) rfl rfl (SubE.consB (i := 1) (j := 1) rfl rfl (SubE.consB (i := 1) (j := 2) rfl rfl (SubE.nil))))))), trivial⟩)) (by exact .cons rfl (.nil)) (by exact .pick 0 rfl (.pick 0 rfl (.pick 0 rfl (.drop 0 rfl (.drop 0 rfl (.refl))))))
      · skip
        refine T_seq ?_
        refine T_reg ?_
        refine T_val (Ev_move rfl) rfl ?_
        refine T_val (Ev_len rfl 3 Try.underlying27) rfl ?_
        refine T_val (Ev_move rfl) rfl ?_
        refine T_nil ?_
        refine T_next ?_
        refine T_block ?_
        obtain ⟨t51, hl51, ho51⟩ := bnd_some hx14
        refine T_loopP (σ := (List Int) × Int) (γ := (Option Addr) × Nat) hl51 (fun s51 y51 => [(2, .int .i64 (p2)), (3, .pointer (some ⟨g1, 0, none⟩)), (4, .pointer (some ⟨g2, 0, none⟩)), (9, .slice (y51.1) ((s51.1).length) (y51.2)), (27, .slice (y51.1) ((s51.1).length) (y51.2)), (28, .int .i64 ((((r12).length : Nat) : Int))), (29, .int .i64 (s51.2))]) (fun s51 y51 => [.r (y51.1) ((s51.1).length) (y51.2) 3 1 ((s51.1).flatMap e_i64), .m g2 26 [.int .i64 (p1.Raster.X0), .int .i64 (p1.Raster.Y0), .int .i64 (p1.Raster.Step), .int .i64 (p1.Raster.NX), .int .i64 (p1.Raster.NY), .slice (A0_1) ((p1.Cells).length) (c0_1)], .m g1 26 [.int .i64 (p0.Raster.X0), .int .i64 (p0.Raster.Y0), .int .i64 (p0.Raster.Step), .int .i64 (p0.Raster.NX), .int .i64 (p0.Raster.NY), .slice (A0_0) ((p0.Cells).length) (c0_0)]] ++ [.old w]) (fun s51 y51 => True) (A15, c16) trivial (by exact .cons rfl (.cons rfl (.cons rfl (.cons rfl (.cons rfl (.cons rfl (.cons rfl (.nil)))))))) (by exact .pick 0 rfl (.pick 0 rfl (.pick 0 rfl (.refl)))) ?_
        intro s51 y51 hG51 x51 hx51 ht51
        unfold model_Regions_l8 at hx51
        refine T_seq ?_
        refine T_reg ?_
        refine T_val (Ev_lss rfl rfl) rfl ?_
        refine T_nil ?_
        refine T_next ?_
        refine T_seq ?_
        refine T_caseP (s := 30) rfl (fun h52 => ?_) (fun h52 => ?_)
        · have hx53 := ite_t h52 hx51
          refine T_condT rfl ?_
          refine T_skip ?_
          refine T_next ?_
          obtain ⟨j19, hj19, hx53⟩ := jn_some hx53
          refine T_cutP (τ := List Int) (γ := (Option Addr) × Nat) (J := j19) (out := x51) (fun s19 y19 => [(2, .int .i64 (p2)), (3, .pointer (some ⟨g1, 0, none⟩)), (4, .pointer (some ⟨g2, 0, none⟩)), (9, .slice (y19.1) ((s19).length) (y19.2)), (27, .slice (y19.1) ((s19).length) (y19.2)), (28, .int .i64 ((((r12).length : Nat) : Int))), (29, .int .i64 (s51.2))]) (fun s19 y19 => [.r (y19.1) ((s19).length) (y19.2) 3 1 ((s19).flatMap e_i64), .m g2 26 [.int .i64 (p1.Raster.X0), .int .i64 (p1.Raster.Y0), .int .i64 (p1.Raster.Step), .int .i64 (p1.Raster.NX), .int .i64 (p1.Raster.NY), .slice (A0_1) ((p1.Cells).length) (c0_1)], .m g1 26 [.int .i64 (p0.Raster.X0), .int .i64 (p0.Raster.Y0), .int .i64 (p0.Raster.Step), .int .i64 (p0.Raster.NX), .int .i64 (p0.Raster.NY), .slice (A0_0) ((p0.Cells).length) (c0_0)]] ++ [.old w]) (fun s19 y19 => True) ?_ ?_
          · intro s19 y19 hx80 hG81
            subst hj19
            refine T_reg ?_
            refine T_val (Ev_add_w64 rfl rfl) rfl ?_
            refine T_val (Ev_move rfl) rfl ?_
            refine T_nil ?_
            exact T_roundP (s19, w64 (s51.2 + 1)) (y19.1, y19.2) hx80 trivial (by exact .cons rfl (.cons rfl (.cons rfl (.cons rfl (.cons rfl (.cons rfl (.cons rfl (.nil)))))))) (by exact .pick 0 rfl (.pick 0 rfl (.pick 0 rfl (.refl))))
          · skip
            refine T_block ?_
            refine T_seq ?_
            refine T_reg ?_
            refine T_val (Ev_move rfl) rfl ?_
            obtain ⟨x55, h56, hx57⟩ := bnd_some hx53
            refine T_idxR (k := 0) rfl (by decide) (fun _ => rfl) h56 (fun b58 j60 hA61 hj62 hl63 hm65 hp64 => ?_)
            refine T_val (Ev_index rfl rfl hA61 (j := j60) hj62 hl63 slc27) rfl ?_
            refine T_val (Ev_loadP0 rfl hp64 (SubE.cons2 (i := 0) rfl (SubE.nil)) rfl one3) rfl ?_
            refine T_val (Ev_assign rfl) rfl ?_
            refine T_val (Ev_assign rfl) rfl ?_
            refine T_nil ?_
            refine T_next ?_
            refine T_seq ?_
            refine T_reg ?_
            refine T_val (Ev_move rfl) rfl ?_
            refine T_val (Ev_eql rfl rfl) rfl ?_
            refine T_nil ?_
            refine T_next ?_
            refine T_caseP (s := 35) rfl (fun h66 => ?_) (fun h66 => ?_)
            · have hx67 := ite_t h66 hx57
              refine T_condT rfl ?_
              refine T_reg ?_
              refine T_val (Ev_move rfl) rfl ?_
              refine T_val (Ev_move rfl) rfl ?_
              obtain ⟨x68, h69, hx70⟩ := bnd_some hx67
              refine T_idxR (k := 0) rfl (by decide) (fun _ => rfl) h69 (fun b71 j73 hA74 hj75 hl76 hm78 hp77 => ?_)
              refine T_val (Ev_index rfl rfl hA74 (j := j73) hj75 hl76 slc27) rfl ?_
              refine T_h (Wh_storeP e_i64 (s51.1) (s51.2) (0) rfl rfl rfl (.here) hA74 rfl hj75 hl76 (fun _ => rfl) (by decide) rfl one3.2 ?_)
              refine T_nil ?_
              refine T_inN ?_
              have hn82 : (s51.1).length = (setI s51.1 s51.2 0).length := by simp [setI_len, cpy_len, List.length_append] <;> omega
              refine T_ent (.here) (e' := .r (y51.1) ((setI s51.1 s51.2 0).length) (y51.2) 3 1 ((setI s51.1 s51.2 0).flatMap e_i64)) (by first | (rw [← hn82]; done) | rfl) ?_
              refine T_slot (s := 9) (v' := .slice (y51.1) ((setI s51.1 s51.2 0).length) (y51.2)) rfl (by have hn83 : ((s51.1).length) = (setI s51.1 s51.2 0).length := (by simp [setI_len, cpy_len, List.length_append] <;> omega); first | (rw [← hn83]; done) | rfl) ?_
              refine T_slot (s := 27) (v' := .slice (y51.1) ((setI s51.1 s51.2 0).length) (y51.2)) rfl (by have hn84 : ((s51.1).length) = (setI s51.1 s51.2 0).length := (by simp [setI_len, cpy_len, List.length_append] <;> omega); first | (rw [← hn84]; done) | rfl) ?_
              exact T_metP (setI s51.1 s51.2 0) (y51.1, y51.2) hx70 trivial (by exact .cons rfl (.cons rfl (.cons rfl (.cons rfl (.cons rfl (.cons rfl (.cons rfl (.nil)))))))) (by exact .pick 0 rfl (.pick 0 rfl (.pick 0 rfl (.refl))))
            · have hx79 := ite_f h66 hx57
              refine T_condF rfl ?_
              refine T_skip ?_
              refine T_inN ?_
              exact T_metP s51.1 (y51.1, y51.2) hx79 trivial (by exact .cons rfl (.cons rfl (.cons rfl (.cons rfl (.cons rfl (.cons rfl (.cons rfl (.nil)))))))) (by exact .pick 0 rfl (.pick 0 rfl (.pick 0 rfl (.refl))))
        · have hx54 := ite_f h52 hx51
          refine T_condF rfl ?_
          refine T_exit ?_
          refine T_outX ?_
          obtain rfl := exit_eq ht51 hx54
          refine T_outX ?_
          refine T_here ?_
          exact T_metP s51.1 (y51.1, y51.2) ho51 trivial (by exact .cons rfl (.cons rfl (.cons rfl (.cons rfl (.nil))))) (by exact .pick 0 rfl (.pick 0 rfl (.pick 0 rfl (.refl))))
end Go.Proofs.Ytjhknbpiaikblaa
