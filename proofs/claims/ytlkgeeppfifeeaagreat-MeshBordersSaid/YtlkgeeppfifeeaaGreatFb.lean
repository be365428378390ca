/- Walks of the laws: MeshBorders. -/
import Derived.Test.YtlkgeeppfifeeaaGreatE1b
namespace Go.Proofs.YtlkgeeppfifeeaaGreat
open Go Go.RowKit

noncomputable def lidarlaw06_sameInts_l4 (p0 : List Int) (p1 : List Int) : Int → Option (Sum Int (Sum Unit Bool)) := fun s33 =>
 if s33 < ((((p0).length : Nat) : Int)) then (bnd (idx p0 s33) fun x37 =>
 bnd (idx p1 s33) fun x48 =>
 if x37 = x48 then (some (.inl (w64 (s33 + 1))))
 else (some (.inr (.inr (false)))))
 else (some (.inr (.inl ())))
noncomputable def lidarlaw06_sameInts (p0 : List Int) (p1 : List Int) : Option Bool :=
 if ((((p0).length : Nat) : Int)) = ((((p1).length : Nat) : Int)) then (jn (fun (s5 : Unit) =>
 some true)
 (fun j5 => bnd (lfix (lidarlaw06_sameInts_l4 p0 p1) 0) fun t33 =>
 (match t33 with
 | (.inl z33) => j5 z33
 | (.inr (z33)) => some z33
 )))
 else (some false)
noncomputable def lidarlaw06_MeshBorders (p0 : List S_api_Vertex) : Option Bool :=
 if 60 < ((((p0).length : Nat) : Int)) then (bnd (lidarlaw06_awake) fun r3 =>
 some r3)
 else (bnd (mesh_Border p0) fun r7 =>
 bnd (lidarref06_Border p0) fun r12 =>
 jn (fun (s7 : Bool) =>
 some s7)
 (fun j7 => if r7.2 = r12.2 then (bnd (lidarlaw06_sameInts r7.1 r12.1) fun r23 =>
 if r23 = true then (bnd (lidarlaw06_awake) fun r28 =>
 j7 r28)
 else (j7 false))
 else (j7 false)))
set_option maxRecDepth 100000 in
theorem lidarlaw06_sameInts_ok (p0 : List Int) (p1 : List Int) {K : List Ent} {A0_0 : Option Addr} {c0_0 : Nat} {A0_1 : Option Addr} {c0_1 : Nat} (ha0 : Has K A0_0 (p0).length c0_0 1 e_i64 (p0)) (ha1 : Has K A0_1 (p1).length c0_1 1 e_i64 (p1)) {r : Bool} (hx : lidarlaw06_sameInts p0 p1 = some r) (w : World) (hK : ∀ e ∈ K, Ent.ok w e) : CtL Tryz.prog 26 [.slice (A0_0) ((p0).length) (c0_0), .slice (A0_1) ((p1).length) (c0_1)] w fun v Ln => v = .bool (r) ∧ Ln = [] ∧ True := by
  have ha0' := Has.up0 ha0
  have ha1' := Has.up0 ha1
  refine CtL.mk 26 Tryz.func26 rfl Tryz.ntmps26 (by kernel_rfl) rfl ?_
  show T 26 _ [(0, .slice (A0_0) ((p0).length) (c0_0)), (1, .slice (A0_1) ((p1).length) (c0_1))] _
  unfold lidarlaw06_sameInts at hx
  refine T_seq ?_
  refine T_reg ?_
  refine T_val (Ev_assign rfl) rfl ?_
  refine T_nil ?_
  refine T_next ?_
  refine T_seq ?_
  refine T_seq ?_
  refine T_reg ?_
  refine T_val (Ev_move rfl) rfl ?_
  refine T_val (Ev_len rfl 3 Tryz.underlying58) rfl ?_
  refine T_val (Ev_move rfl) rfl ?_
  refine T_val (Ev_len rfl 3 Tryz.underlying58) rfl ?_
  refine T_val (Ev_neq rfl rfl) rfl ?_
  refine T_nil ?_
  refine T_next ?_
  refine T_caseNP (s := 10) rfl (fun h1 => ?_) (fun h1 => ?_)
  · have hx2 := ite_f h1 hx
    refine T_condT rfl ?_
    refine T_seq ?_
    refine T_reg ?_
    refine T_val (Ev_assign rfl) rfl ?_
    refine T_nil ?_
    refine T_next ?_
    refine T_retc ?_
    refine T_outR ?_
    obtain rfl := Option.some.inj hx2
    exact T_retP (rs := [.tmp 4]) Tryz.results26 (.tmp rfl (.nil)) (Ln := []) ⟨rfl, rfl, trivial⟩ (loNil) (by exact .refl)
  · have hx3 := ite_t h1 hx
    refine T_condF rfl ?_
    refine T_skip ?_
    refine T_next ?_
    obtain ⟨j5, hj5, hx3⟩ := jn_some hx3
    refine T_cutP (τ := Unit) (γ := Unit) (J := j5) (out := r) (fun s5 y5 => []) (fun s5 y5 => [] ++ [.old w]) (fun s5 y5 => True) ?_ ?_
    · intro s5 y5 hx62 hG63
      subst hj5
      refine T_seq ?_
      refine T_reg ?_
      refine T_val (Ev_assign rfl) rfl ?_
      refine T_nil ?_
      refine T_next ?_
      refine T_retc ?_
      obtain rfl := Option.some.inj hx62
      exact T_retP (rs := [.tmp 4]) Tryz.results26 (.tmp rfl (.nil)) (Ln := []) ⟨rfl, rfl, trivial⟩ (loNil) (by exact .refl)
    · skip
      refine T_seq ?_
      refine T_reg ?_
      refine T_val (Ev_move rfl) rfl ?_
      refine T_val (Ev_len rfl 3 Tryz.underlying58) rfl ?_
      refine T_val (Ev_move rfl) rfl ?_
      refine T_nil ?_
      refine T_next ?_
      refine T_block ?_
      obtain ⟨t33, hl33, ho33⟩ := bnd_some hx3
      refine T_loopP (σ := Int) (γ := Unit) hl33 (fun s33 y33 => [(0, .slice (A0_0) ((p0).length) (c0_0)), (1, .slice (A0_1) ((p1).length) (c0_1)), (12, .int .i64 ((((p0).length : Nat) : Int))), (13, .int .i64 (s33))]) (fun s33 y33 => [] ++ [.old w]) (fun s33 y33 => True) () trivial (by exact .cons rfl (.cons rfl (.cons rfl (.cons rfl (.nil))))) (by exact .refl) ?_
      intro s33 y33 hG33 x33 hx33 ht33
      unfold lidarlaw06_sameInts_l4 at hx33
      refine T_seq ?_
      refine T_reg ?_
      refine T_val (Ev_lss rfl rfl) rfl ?_
      refine T_nil ?_
      refine T_next ?_
      refine T_seq ?_
      refine T_caseP (s := 14) rfl (fun h34 => ?_) (fun h34 => ?_)
      · have hx35 := ite_t h34 hx33
        refine T_condT rfl ?_
        refine T_skip ?_
        refine T_next ?_
        refine T_seq ?_
        refine T_block ?_
        refine T_seq ?_
        refine T_reg ?_
        refine T_val (Ev_move rfl) rfl ?_
        refine T_val (Ev_assign rfl) rfl ?_
        refine T_nil ?_
        refine T_next ?_
        refine T_seq ?_
        refine T_draw [0, 0, 0, 1, 0, 0, 0, 1, 0] [[], [], [0, 1], [0, 1, 2], [], [], [4, 5], [4, 5, 6], [0, 1, 2, 3, 4, 5, 6, 7]] (.q 0 (.q 1 (.q 2 (.q 3 (.q 4 (.q 5 (.q 6 (.q 7 (.q 8 (.done)))))))))) mixed (by kernel_rfl) (by kernel_rfl) ?_
        refine P_p rfl rfl (Ev_move rfl) rfl ?_
        refine P_p rfl rfl (Ev_move rfl) rfl ?_
        obtain ⟨x37, h38, hx39⟩ := bnd_some hx35
        have hw47 := Has.low (E := []) ha0' hK
        obtain ⟨b40, o41, j42, hA43, hj44, hl45, hp46⟩ := Has.at_idx hw47 h38
        refine P_p rfl rfl (Ev_index rfl rfl hA43 (j := j42) hj44 hl45 slc58) rfl ?_
        refine P_q rfl rfl (Ev_loadP0 rfl hp46 (SubE.cons2 (i := 0) rfl (SubE.nil)) rfl one3) rfl ?_
        refine P_p rfl rfl (Ev_move rfl) rfl ?_
        refine P_p rfl rfl (Ev_move rfl) rfl ?_
        obtain ⟨x48, h49, hx50⟩ := bnd_some hx39
        have hw58 := Has.low (E := []) ha1' hK
        obtain ⟨b51, o52, j53, hA54, hj55, hl56, hp57⟩ := Has.at_idx hw58 h49
        refine P_p rfl rfl (Ev_index rfl rfl hA54 (j := j53) hj55 hl56 slc58) rfl ?_
        refine P_q rfl rfl (Ev_loadP0 rfl hp57 (SubE.cons2 (i := 0) rfl (SubE.nil)) rfl one3) rfl ?_
        refine P_p rfl rfl (Ev_neq rfl rfl) rfl ?_
        refine P_done ?_
        refine T_next ?_
        refine T_caseNP (s := 24) rfl (fun h59 => ?_) (fun h59 => ?_)
        · have hx60 := ite_f h59 hx50
          refine T_condT rfl ?_
          refine T_seq ?_
          refine T_reg ?_
          refine T_val (Ev_assign rfl) rfl ?_
          refine T_nil ?_
          refine T_next ?_
          refine T_retc ?_
          refine T_inR ?_
          refine T_outR ?_
          obtain rfl := exit_eq ht33 hx60
          refine T_outR ?_
          refine T_inR ?_
          refine T_outR ?_
          obtain rfl := Option.some.inj ho33
          exact T_retP (rs := [.tmp 4]) Tryz.results26 (.tmp rfl (.nil)) (Ln := []) ⟨rfl, rfl, trivial⟩ (loNil) (by exact .refl)
        · have hx61 := ite_t h59 hx50
          refine T_condF rfl ?_
          refine T_skip ?_
          refine T_inN ?_
          refine T_next ?_
          refine T_reg ?_
          refine T_val (Ev_add_w64 rfl rfl) rfl ?_
          refine T_val (Ev_move rfl) rfl ?_
          refine T_nil ?_
          exact T_roundP (w64 (s33 + 1)) () hx61 trivial (by exact .cons rfl (.cons rfl (.cons rfl (.cons rfl (.nil))))) (by exact .refl)
      · have hx36 := ite_f h34 hx33
        refine T_condF rfl ?_
        refine T_exit ?_
        refine T_outX ?_
        obtain rfl := exit_eq ht33 hx36
        refine T_outX ?_
        refine T_here ?_
        exact T_metP () () ho33 trivial (by exact .nil) (by exact .refl)
set_option maxRecDepth 100000 in
theorem lidarlaw06_MeshBorders_ok (p0 : List S_api_Vertex) {K : List Ent} {A0_0 : Option Addr} {c0_0 : Nat} (ha0 : Has K A0_0 (p0).length c0_0 4 e_api_Vertex (p0)) {r : Bool} (hx : lidarlaw06_MeshBorders p0 = some r) (w : World) (hK : ∀ e ∈ K, Ent.ok w e) : CtL Tryz.prog 6 [.slice (A0_0) ((p0).length) (c0_0)] w fun v Ln => v = .bool (r) ∧ Ln = [] ∧ True := by
  have ha0' := Has.up0 ha0
  refine CtL.mk 32 Tryz.func6 rfl Tryz.ntmps6 (by kernel_rfl) rfl ?_
  show T 32 _ [(0, .slice (A0_0) ((p0).length) (c0_0))] _
  unfold lidarlaw06_MeshBorders at hx
  refine T_seq ?_
  refine T_reg ?_
  refine T_val (Ev_assign rfl) rfl ?_
  refine T_nil ?_
  refine T_next ?_
  refine T_seq ?_
  refine T_seq ?_
  refine T_reg ?_
  refine T_val (Ev_move rfl) rfl ?_
  refine T_val (Ev_len rfl 43 Tryz.underlying22) rfl ?_
  refine T_val (Ev_gtr rfl rfl) rfl ?_
  refine T_nil ?_
  refine T_next ?_
  refine T_caseP (s := 9) rfl (fun h1 => ?_) (fun h1 => ?_)
  · have hx2 := ite_t h1 hx
    refine T_condT rfl ?_
    refine T_seq ?_
    refine T_reg ?_
    obtain ⟨r3, h4, hx5⟩ := bnd_some hx2
    refine T_x (Wx_callL rfl (fun w1 hw1 => lidarlaw06_awake_ok  h4 w1) rfl ?_)
    rintro _ _ hlo ⟨rfl, rfl, -⟩
    refine T_app0 ?_
    refine T_val (Ev_assign rfl) rfl ?_
    refine T_nil ?_
    refine T_next ?_
    refine T_retc ?_
    refine T_outR ?_
    obtain rfl := Option.some.inj hx5
    exact T_retP (rs := [.tmp 2]) Tryz.results6 (.tmp rfl (.nil)) (Ln := []) ⟨rfl, rfl, trivial⟩ (loNil) (by exact .refl)
  · have hx6 := ite_f h1 hx
    refine T_condF rfl ?_
    refine T_skip ?_
    refine T_next ?_
    refine T_seq ?_
    refine T_reg ?_
    refine T_val (Ev_move rfl) rfl ?_
    obtain ⟨r7, h8, hx9⟩ := bnd_some hx6
    refine T_x (Wx_callL rfl (fun w1 hw1 => mesh_Border_ok p0 (Has.len' ha0') h8 w1 (okApp (K := K) (K2 := []) hK (by exact (SubE.cons2 (i := 0) rfl (SubE.nil))) (by exact (SubE.nil)) hw1)) rfl ?_)
    rintro _ _ hlo ⟨A10, c11, rfl, rfl, -⟩
    refine T_app1 ?_
    refine T_val (Ev_move rfl) rfl ?_
    refine T_val (Ev_extract rfl rfl) rfl ?_
    refine T_val (Ev_extract rfl rfl) rfl ?_
    refine T_val (Ev_assign rfl) rfl ?_
    refine T_val (Ev_assign rfl) rfl ?_
    refine T_nil ?_
    refine T_next ?_
    refine T_seq ?_
    refine T_reg ?_
    refine T_val (Ev_move rfl) rfl ?_
    obtain ⟨r12, h13, hx14⟩ := bnd_some hx9
    refine T_x (Wx_callL rfl (fun w1 hw1 => lidarref06_Border_ok p0 (Has.len' ha0') h13 w1 (okApp (K := K) (K2 := []) hK (by exact (SubE.cons2 (i := 1) rfl (SubE.nil))) (by exact (SubE.nil)) hw1)) rfl ?_)
    rintro _ _ hlo ⟨A15, c16, rfl, rfl, -⟩
    refine T_app1 ?_
    refine T_val (Ev_move rfl) rfl ?_
    refine T_val (Ev_extract rfl rfl) rfl ?_
    refine T_val (Ev_extract rfl rfl) rfl ?_
    refine T_val (Ev_assign rfl) rfl ?_
    refine T_val (Ev_assign rfl) rfl ?_
    refine T_nil ?_
    refine T_next ?_
    obtain ⟨j7, hj7, hx14⟩ := jn_some hx14
    refine T_cutP (τ := Bool) (γ := Unit) (J := j7) (out := r) (fun s7 y7 => [(2, .bool (s7))]) (fun s7 y7 => [] ++ [.old w]) (fun s7 y7 => True) ?_ ?_
    · intro s7 y7 hx33 hG34
      subst hj7
      refine T_retc ?_
      obtain rfl := Option.some.inj hx33
      exact T_retP (rs := [.tmp 2]) Tryz.results6 (.tmp rfl (.nil)) (Ln := []) ⟨rfl, rfl, trivial⟩ (loNil) (by exact .refl)
    · skip
      refine T_reg ?_
      refine T_val (Ev_move rfl) rfl ?_
      refine T_val (Ev_move rfl) rfl ?_
      refine T_val (Ev_eql rfl rfl) rfl ?_
      refine T_val (Ev_move rfl) rfl ?_
      refine T_caseP (s := 24) rfl (fun h17 => ?_) (fun h17 => ?_)
      · have hx18 := ite_t h17 hx14
        refine T_valG rfl rfl rfl (Ev_move rfl) rfl ?_
        refine T_valG rfl rfl rfl (Ev_move rfl) rfl ?_
        refine T_rowP (k := 1) rfl (by decide) (fun _ => rfl) (fun hn19 hs20 => ?_)
        refine T_rowP (k := 0) rfl (by decide) (fun _ => rfl) (fun hn21 hs22 => ?_)
        obtain ⟨r23, h24, hx25⟩ := bnd_some hx18
        refine T_xG rfl rfl rfl (Wx_callL rfl (fun w1 hw1 => lidarlaw06_sameInts_ok r7.1 r12.1 (Has.len' (Has.up (L := ([.r (A10) ((r7.1).length) (c11) 3 1 ((r7.1).flatMap e_i64), .r (A15) ((r12.1).length) (c16) 3 1 ((r12.1).flatMap e_i64)] : List Ent)) hs20 (SubE.cons2 (i := 0) rfl (SubE.nil)))) (Has.len' (Has.up (L := ([.r (A10) ((r7.1).length) (c11) 3 1 ((r7.1).flatMap e_i64), .r (A15) ((r12.1).length) (c16) 3 1 ((r12.1).flatMap e_i64)] : List Ent)) hs22 (SubE.cons2 (i := 1) rfl (SubE.nil)))) h24 w1 (okAll (K := ([.r (A10) ((r7.1).length) (c11) 3 1 ((r7.1).flatMap e_i64), .r (A15) ((r12.1).length) (c16) 3 1 ((r12.1).flatMap e_i64)] : List Ent)) (by exact (SubE.cons2 (i := 1) rfl (SubE.cons2 (i := 0) rfl (SubE.nil)))) hw1)) rfl ?_)
        rintro _ _ hlo ⟨rfl, rfl, -⟩
        refine T_app0 ?_
        refine T_val (Ev_pickT rfl rfl) rfl ?_
        refine T_val (Ev_move rfl) rfl ?_
        refine T_caseB (s := 29) rfl (fun h26 => ?_) (fun h26 => ?_)
        · have hx27 := ite_t h26 hx25
          obtain ⟨r28, h29, hx30⟩ := bnd_some hx27
          refine T_xG rfl rfl rfl (Wx_callL rfl (fun w1 hw1 => lidarlaw06_awake_ok  h29 w1) rfl ?_)
          rintro _ _ hlo ⟨rfl, rfl, -⟩
          refine T_app0 ?_
          refine T_val (Ev_pickT rfl rfl) rfl ?_
          refine T_val (Ev_assign rfl) rfl ?_
          refine T_nil ?_
          exact T_metP r28 () hx30 trivial (by exact .cons rfl (.nil)) (by exact .drop 0 rfl (.drop 0 rfl (.refl)))
        · have hx31 := ite_bf h26 hx25
          refine T_skipG rfl rfl rfl rfl rfl ?_
          refine T_val (Ev_pickF rfl rfl) rfl ?_
          refine T_val (Ev_assign rfl) rfl ?_
          refine T_nil ?_
          exact T_metP false () hx31 trivial (by exact .cons rfl (.nil)) (by exact .drop 0 rfl (.drop 0 rfl (.refl)))
      · have hx32 := ite_f h17 hx14
        refine T_skipG rfl rfl rfl rfl rfl ?_
        refine T_skipG rfl rfl rfl rfl rfl ?_
        refine T_skipG rfl rfl rfl rfl rfl ?_
        refine T_val (Ev_pickF rfl rfl) rfl ?_
        refine T_val (Ev_move rfl) rfl ?_
        refine T_skipG rfl rfl rfl rfl rfl ?_
        refine T_val (Ev_pickF rfl rfl) rfl ?_
        refine T_val (Ev_assign rfl) rfl ?_
        refine T_nil ?_
        exact T_metP false () hx32 trivial (by exact .cons rfl (.nil)) (by exact .drop 0 rfl (.drop 0 rfl (.refl)))
end Go.Proofs.YtlkgeeppfifeeaaGreat
