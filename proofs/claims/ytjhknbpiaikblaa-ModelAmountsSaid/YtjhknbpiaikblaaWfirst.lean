/- Walks of the program: comparisons and amounts of grids. -/
import Derived.Test.YtjhknbpiaikblaaWgrid
namespace Go.Proofs.Ytjhknbpiaikblaa
open Go Go.RowKit
theorem bld39_0i641i64 (x0 : Int) (x1 : Int) : BuildOf Try.prog 39 [(0, .int .i64 x0), (1, .int .i64 x1)] [.int .i64 x0, .int .i64 x1] := fun w => by kernel_rfl
theorem bld41_1ai64i64 (x0 : Int) (x1 : Int) : BuildOf Try.prog 41 [(1, .agg #[.int .i64 x0, .int .i64 x1])] [.bool (false), .int .i64 x0, .int .i64 x1] := fun w => by kernel_rfl
theorem zer26 : ZeroOf Try.prog 26 [.int .i64 (0), .int .i64 (0), .int .i64 (0), .int .i64 (0), .int .i64 (0), .slice (none) (0) (0)] := ⟨_, Try.zeroValue26, rfl⟩
theorem bld23_2i643i644i64 (x0 : Int) (x1 : Int) (x2 : Int) : BuildOf Try.prog 23 [(2, .int .i64 x0), (3, .int .i64 x1), (4, .int .i64 x2)] [.int .i64 (0), .int .i64 (0), .int .i64 x0, .int .i64 x1, .int .i64 x2] := fun w => by kernel_rfl
theorem bld26_0ai64i64i64i64i641s (x0 : Int) (x1 : Int) (x2 : Int) (x3 : Int) (x4 : Int) (x5 : Option Addr) (x6 : Nat) (x7 : Nat) : BuildOf Try.prog 26 [(0, .agg #[.int .i64 x0, .int .i64 x1, .int .i64 x2, .int .i64 x3, .int .i64 x4]), (1, .slice x5 x6 x7)] [.int .i64 x0, .int .i64 x1, .int .i64 x2, .int .i64 x3, .int .i64 x4, .slice x5 x6 x7] := fun w => by kernel_rfl
theorem bld32_  : BuildOf Try.prog 32 [] [.bool (false), .slice (none) (0) (0), .slice (none) (0) (0)] := fun w => by kernel_rfl
theorem slc37 : SliceOf Try.prog 37 4 1 := .mk Try.underlying37 (show Try.prog.info? 4 = some Try.t4 from by kernel_rfl) (by kernel_rfl)
theorem bls24_2_0abi64i641abi64i64 (x0 : Bool) (x1 : Int) (x2 : Int) (x3 : Bool) (x4 : Int) (x5 : Int) : BuildSliceOf Try.prog 24 2 [(0, .agg #[.bool x0, .int .i64 x1, .int .i64 x2]), (1, .agg #[.bool x3, .int .i64 x4, .int .i64 x5])] 41 [.bool x0, .int .i64 x1, .int .i64 x2, .bool x3, .int .i64 x4, .int .i64 x5] := fun w => by kernel_rfl
theorem seq51 (a0 : Int) (a1 : Int) (b0 : Int) (b1 : Int) : ∀ w, (Op.equalIn 10000 51 (.agg #[.int .i64 (a0), .int .i64 (a1)]) (.agg #[.int .i64 (b0), .int .i64 (b1)])).run Try.prog w = .ok ((((a0) == (b0)) && (((a1) == (b1)) && true))) w :=
  EqF.struct Try.underlying51 (by kernel_rfl) (.cons rfl (fun w => by kernel_rfl) (fun w => by kernel_rfl) (fun w => run_equalIn_int w 9998 3 .i64 .i64 _ _ Try.underlying3) (.cons rfl (fun w => by kernel_rfl) (fun w => by kernel_rfl) (fun w => run_equalIn_int w 9998 3 .i64 .i64 _ _ Try.underlying3) (EqF.nil)))
theorem cell_bd {f : Raster} {l : List Cell} (h : validB f l = true) : ∀ c ∈ l, -268435456 ≤ c.lo ∧ c.lo ≤ 268435456 ∧ -268435456 ≤ c.hi ∧ c.hi ≤ 268435456 := by
  simp only [validB, Bool.and_eq_true, List.all_eq_true] at h
  intro c hc
  have := h.2 c hc
  simp only [cellB, coordB] at this
  grind
theorem valid_len {f : Raster} {l : List Cell} (h : validB f l = true) : rasterB f = true ∧ (l.length : Int) = f.nx * f.ny ∧ l.length ≤ 4096 := by
  simp only [validB, Bool.and_eq_true, decide_eq_true_eq] at h
  have := (good_of h.1.1).size
  exact ⟨h.1.1, h.1.2, by omega⟩
theorem pair_zero {f g : Raster} {l r : List Cell} (h : pairE f l g r = 0) : validB f l = true ∧ validB g r = true ∧ rasEq f g = true ∧ l.length = r.length := by
  have h1 : validB f l = true ∧ validB g r = true ∧ rasEq f g = true := by
    simp only [pairE] at h
    split at h
    · rename_i h2
      rw [Bool.and_eq_true] at h2
      split at h
      · rename_i h3; exact ⟨h2.1, h2.2, h3⟩
      · omega
    · omega
  refine ⟨h1.1, h1.2.1, h1.2.2, ?_⟩
  have h2 := (valid_len h1.1).2.1
  have h3 := (valid_len h1.2.1).2.1
  have h4 := h1.2.2
  simp only [rasEq, Bool.and_eq_true, beq_iff_eq] at h4
  rw [h4.2.2.2.1, h4.2.2.2.2.1] at h2
  omega
theorem getD_at {α : Type} [Inhabited α] {l : List α} {k : Nat} (h : k < l.length) : l.getD k default = l[k] := by simp [h]
set_option maxRecDepth 100000 in
theorem known_ok (lo hi : Int) (w : World) : Ct Try.prog 29 [.int .i64 lo, .int .i64 hi] w fun v => v = .agg #[.bool false, .int .i64 lo, .int .i64 hi] := by
  refine CtL.mk 9 Try.func29 rfl Try.ntmps29 (by kernel_rfl) rfl ?_
  show T 9 _ [(0, .int .i64 (lo)), (1, .int .i64 (hi))] _
  refine T_seq ?_
  refine T_reg ?_
  refine T_x (Wx_alloc zer41 rfl (fun g1 => ?_))
  refine T_nil ?_
  refine T_next ?_
  refine T_seq ?_
  refine T_reg ?_
  refine T_val (Ev_move rfl) rfl ?_
  refine T_val (Ev_move rfl) rfl ?_
  refine T_val (Ev_build rfl (bld39_0i641i64 _ _)) rfl ?_
  refine T_val (Ev_build rfl (bld41_1ai64i64 _ _)) rfl ?_
  refine T_h (Wh_store rfl rfl rfl (.here) (.put (.put (.put (.done)))) rfl (List.cons_ne_nil _ _) agg41.2 ?_)
  refine T_nil ?_
  refine T_next ?_
  refine T_retc ?_
  refine T_retL (rs := [.cell 4 41]) Try.results29 (.cell rfl (i := 0) rfl rfl agg41 (.nil)) (Ln := []) (⟨by simp [resVal], rfl⟩) (loNil) (.drop (.refl))
set_option maxRecDepth 100000 in
theorem row_ok (A : Option Addr) (n c : Nat) (w : World) : Ct Try.prog 55 [.slice A n c] w fun v => v = .agg #[.int .i64 0, .int .i64 0, .int .i64 10, .int .i64 (n : Int), .int .i64 1, .slice A n c] := by
  refine CtL.mk 8 Try.func55 rfl Try.ntmps55 (by kernel_rfl) rfl ?_
  show T 8 _ [(0, .slice (A) (n) (c))] _
  refine T_seq ?_
  refine T_reg ?_
  refine T_x (Wx_alloc zer26 rfl (fun g1 => ?_))
  refine T_nil ?_
  refine T_next ?_
  refine T_seq ?_
  refine T_reg ?_
  refine T_val (Ev_move rfl) rfl ?_
  refine T_val (Ev_len rfl 41 Try.underlying24) rfl ?_
  refine T_val (Ev_build rfl (bld23_2i643i644i64 _ _ _)) rfl ?_
  refine T_val (Ev_move rfl) rfl ?_
  refine T_val (Ev_build rfl (bld26_0ai64i64i64i64i641s _ _ _ _ _ _ _ _)) rfl ?_
  refine T_h (Wh_store rfl rfl rfl (.here) (.put (.put (.put (.put (.put (.put (.done))))))) rfl (List.cons_ne_nil _ _) agg26.2 ?_)
  refine T_nil ?_
  refine T_next ?_
  refine T_retc ?_
  refine T_retL (rs := [.cell 2 26]) Try.results55 (.cell rfl (i := 0) rfl rfl agg26 (.nil)) (Ln := []) (⟨by simp [resVal], rfl⟩) (loNil) (.drop (.refl))
set_option maxRecDepth 100000 in
theorem compare_ok (f g : Raster) {A n c B m d} {l r : List Cell} {K : List Ent} (ha : Has K A n c 3 eC l) (hb : Has K B m d 3 eC r) (w : World) (hK : ∀ e ∈ K, Ent.ok w e) : Ct1 Try.prog 30 [.agg #[.int .i64 f.x0, .int .i64 f.y0, .int .i64 f.step, .int .i64 f.nx, .int .i64 f.ny, .slice A n c], .agg #[.int .i64 g.x0, .int .i64 g.y0, .int .i64 g.step, .int .i64 g.nx, .int .i64 g.ny, .slice B m d]] w fun v e => ∃ A' k c', v = .tuple #[.slice A' k c', .int .i64 (pairE f l g r)] ∧ Has [e] A' k c' 1 eI (if pairE f l g r = 0 then List.zipWith stateI l r else []) := by
  have hs := (ha.sl hK).has
  have ht := (hb.sl hK).has
  have hn := ha.len
  have hm := hb.len
  have hsm := ha.small
  have hsm2 := hb.small
  refine CtL.mk 16 Try.func30 rfl Try.ntmps30 (by kernel_rfl) rfl ?_
  show T 16 _ [(0, .agg #[.int .i64 (f.x0), .int .i64 (f.y0), .int .i64 (f.step), .int .i64 (f.nx), .int .i64 (f.ny), .slice (A) (n) (c)]), (1, .agg #[.int .i64 (g.x0), .int .i64 (g.y0), .int .i64 (g.step), .int .i64 (g.nx), .int .i64 (g.ny), .slice (B) (m) (d)])] _
  refine T_seq ?_
  refine T_reg ?_
  refine T_x (Wx_box rfl rfl rfl (fun g1 => ?_))
  refine T_x (Wx_box rfl rfl rfl (fun g2 => ?_))
  refine T_val (Ev_assign rfl) rfl ?_
  refine T_val (Ev_assign rfl) rfl ?_
  refine T_nil ?_
  refine T_next ?_
  refine T_seq ?_
  refine T_seq ?_
  refine T_reg ?_
  refine T_val (Ev_loadK rfl (i := 1) rfl rfl agg26) rfl ?_
  refine T_val (Ev_loadK rfl (i := 0) rfl rfl agg26) rfl ?_
  refine T_x (Wx_call rfl (fun w1 hw1 => pair_ok f g hs ht  w1 (okAll (K := [.old w]) (by exact (SubE.cons2 (i := 2) rfl (SubE.nil))) hw1)) rfl ?_)
  rintro _ rfl
  refine T_val (Ev_assign rfl) rfl ?_
  refine T_nil ?_
  refine T_next ?_
  refine T_seq ?_
  refine T_reg ?_
  refine T_val (Ev_move rfl) rfl ?_
  refine T_val (Ev_neq rfl rfl) rfl ?_
  refine T_nil ?_
  refine T_next ?_
  refine T_caseNP (s := 11) rfl (fun h3 => ?_) (fun h3 => ?_)
  · refine T_condT rfl ?_
    refine T_seq ?_
    refine T_reg ?_
    refine T_val (Ev_move rfl) rfl ?_
    refine T_val (Ev_assign rfl) rfl ?_
    refine T_val (Ev_assign rfl) rfl ?_
    refine T_nil ?_
    refine T_next ?_
    refine T_retc ?_
    refine T_outR ?_
    refine T_none 0 1 ?_
    refine T_retL (rs := [.tmp 4, .tmp 5]) Try.results30 (.tmp rfl (.tmp rfl (.nil))) (Ln := [.r none 0 0 0 1 []]) (⟨.r none 0 0 0 1 [], ⟨_, _, _, rfl, by rw [if_neg (by assumption)]; exact Has.nil⟩, rfl⟩) (loCons rfl (loNil)) (.keep (.drop (.drop (.refl))))
  · refine T_condF rfl ?_
    refine T_skip ?_
    refine T_next ?_
    refine T_seq ?_
    refine T_reg ?_
    refine T_val (Ev_loadK rfl (i := 1) rfl rfl agg26) rfl ?_
    refine T_val (Ev_loadK rfl (i := 0) rfl rfl agg26) rfl ?_
    have hp0 := pair_zero (f := f) (l := l) (g := g) (r := r) (by assumption)
    have hp1 := valid_len hp0.1
    refine T_x (Wx_call1 rfl (fun w1 hw1 => states_ok f g hs ht (by omega) (by omega) w1 (okAll (K := [.old w]) (by exact (SubE.cons2 (i := 2) rfl (SubE.nil))) hw1)) rfl ?_)
    rintro _ e4 lo_e4 ⟨A5, c6, rfl, hs7⟩
    refine T_val (Ev_assign rfl) rfl ?_
    refine T_val (Ev_assign rfl) rfl ?_
    refine T_nil ?_
    refine T_next ?_
    refine T_retc ?_
    refine T_retL (rs := [.tmp 4, .tmp 5]) Try.results30 (.tmp rfl (.tmp rfl (.nil))) (Ln := [e4]) (⟨e4, ⟨_, _, _, by simp only [resVal]; rw [show pairE f l g r = 0 by assumption], by rw [if_pos (by assumption)]; exact hs7⟩, rfl⟩) (loCons lo_e4 (loNil)) (.keep (.drop (.drop (.refl))))
set_option maxRecDepth 100000 in
theorem amount_ok (f g : Raster) {A n c B m d N p q} {l r : List Cell} {nodes : List Int} {K : List Ent} (ha : Has K A n c 3 eC l) (hb : Has K B m d 3 eC r) (hc : Has K N p q 1 eI nodes) (hst : 0 ≤ f.step * f.step ∧ f.step * f.step ≤ 1000000000000) (hin : ∀ i ∈ nodes, 0 ≤ i ∧ i < n ∧ i < m) (hlo : ∀ i ∈ nodes, -((536870912 : Nat) : Int) ≤ loF l r i ∧ loF l r i ≤ ((536870912 : Nat) : Int)) (hhi : ∀ i ∈ nodes, -((536870912 : Nat) : Int) ≤ hiF l r i ∧ hiF l r i ≤ ((536870912 : Nat) : Int)) (h9 : p ≤ 1000000) (w : World) (hK : ∀ e ∈ K, Ent.ok w e) : Ct2 Try.prog 59 [.agg #[.int .i64 f.x0, .int .i64 f.y0, .int .i64 f.step, .int .i64 f.nx, .int .i64 f.ny, .slice A n c], .agg #[.int .i64 g.x0, .int .i64 g.y0, .int .i64 g.step, .int .i64 g.nx, .int .i64 g.ny, .slice B m d], .slice N p q] w fun v e e' => ∃ A1 k1 c1 A2 k2 c2, v = .tuple #[.agg #[.bool (decide (f.step * f.step * sumF (loF l r) nodes < 0)), .slice A1 k1 c1, .slice none 0 0], .agg #[.bool (decide (f.step * f.step * sumF (hiF l r) nodes < 0)), .slice A2 k2 c2, .slice none 0 0]] ∧ Has [e, e'] A1 k1 c1 1 eW (dig 4294967296 (f.step * f.step * sumF (loF l r) nodes).natAbs) ∧ Has [e, e'] A2 k2 c2 1 eW (dig 4294967296 (f.step * f.step * sumF (hiF l r) nodes).natAbs) := by
  have hs := (ha.sl hK).has
  have ht := (hb.sl hK).has
  have hn := (hc.sl hK).has
  have hln := ha.len
  have hlm := hb.len
  have hlp := hc.len
  have hsm := ha.small
  have hsm2 := hb.small
  have hsm3 := hc.small
  refine CtL.mk 61 Try.func59 rfl Try.ntmps59 (by kernel_rfl) rfl ?_
  show T 61 _ [(0, .agg #[.int .i64 (f.x0), .int .i64 (f.y0), .int .i64 (f.step), .int .i64 (f.nx), .int .i64 (f.ny), .slice (A) (n) (c)]), (1, .agg #[.int .i64 (g.x0), .int .i64 (g.y0), .int .i64 (g.step), .int .i64 (g.nx), .int .i64 (g.ny), .slice (B) (m) (d)]), (2, .slice (N) (p) (q))] _
  refine T_seq ?_
  refine T_reg ?_
  refine T_x (Wx_box rfl rfl rfl (fun g1 => ?_))
  refine T_x (Wx_box rfl rfl rfl (fun g2 => ?_))
  refine T_x (Wx_alloc zer32 rfl (fun g3 => ?_))
  refine T_x (Wx_alloc zer32 rfl (fun g4 => ?_))
  refine T_nil ?_
  refine T_next ?_
  refine T_seq ?_
  refine T_reg ?_
  refine T_val (Ev_assign rfl) rfl ?_
  refine T_val (Ev_assign rfl) rfl ?_
  refine T_nil ?_
  refine T_next ?_
  refine T_seq ?_
  refine T_seq ?_
  refine T_reg ?_
  refine T_val (Ev_move rfl) rfl ?_
  refine T_val (Ev_len rfl 3 Try.underlying27) rfl ?_
  refine T_val (Ev_move rfl) rfl ?_
  refine T_nil ?_
  refine T_next ?_
  refine T_block ?_
  refine T_loop (σ := Nat) (fun k => [(0, .agg #[.int .i64 (f.x0), .int .i64 (f.y0), .int .i64 (f.step), .int .i64 (f.nx), .int .i64 (f.ny), .slice (A) (n) (c)]), (1, .agg #[.int .i64 (g.x0), .int .i64 (g.y0), .int .i64 (g.step), .int .i64 (g.nx), .int .i64 (g.ny), .slice (B) (m) (d)]), (2, .slice (N) (p) (q)), (3, .pointer (some ⟨g1, 0, none⟩)), (4, .pointer (some ⟨g2, 0, none⟩)), (6, .pointer (some ⟨g3, 0, none⟩)), (7, .pointer (some ⟨g4, 0, none⟩)), (8, .int .i64 (sumF (loF l r) (nodes.take k))), (9, .int .i64 (sumF (hiF l r) (nodes.take k))), (12, .slice (N) (p) (q)), (13, .int .i64 (((p : Nat) : Int))), (14, .int .i64 (((k : Nat) : Int)))]) (fun k => [.m g4 32 [.bool (false), .slice (none) (0) (0), .slice (none) (0) (0)], .m g3 32 [.bool (false), .slice (none) (0) (0), .slice (none) (0) (0)], .m g2 26 [.int .i64 (g.x0), .int .i64 (g.y0), .int .i64 (g.step), .int .i64 (g.nx), .int .i64 (g.ny), .slice (B) (m) (d)], .m g1 26 [.int .i64 (f.x0), .int .i64 (f.y0), .int .i64 (f.step), .int .i64 (f.nx), .int .i64 (f.ny), .slice (A) (n) (c)]] ++ [.old w]) (fun k => k ≤ p) (fun k => p - k) (0) ?_ ?_ ?_ ?_
  · exact Nat.zero_le _
  · exact .cons rfl (.cons rfl (.cons rfl (.cons rfl (.cons rfl (.cons rfl (.cons rfl (.cons rfl (.cons rfl (.cons rfl (.cons rfl (.cons rfl (.nil))))))))))))
  · exact .keep (.keep (.keep (.keep (.refl))))
  intro k hC
  refine T_seq ?_
  refine T_reg ?_
  refine T_val (Ev_lss rfl rfl) rfl ?_
  refine T_nil ?_
  refine T_next ?_
  refine T_seq ?_
  refine T_caseP (s := 15) rfl (fun h5 => ?_) (fun h5 => ?_)
  · refine T_condT rfl ?_
    refine T_skip ?_
    refine T_next ?_
    refine T_seq ?_
    refine T_block ?_
    refine T_seq ?_
    refine T_reg ?_
    obtain ⟨b6, o7, hA8, hp9⟩ := Has.elem hn (i := k) (by omega)
    refine T_val (Ev_index rfl rfl hA8 (j := k) (by rfl) (by omega) slc27) rfl ?_
    refine T_val (Ev_loadP0 rfl hp9 (SubE.cons2 (i := 4) rfl (SubE.nil)) rfl one3) rfl ?_
    refine T_val (Ev_assign rfl) rfl ?_
    refine T_nil ?_
    refine T_next ?_
    refine T_seq ?_
    refine T_draw [0, 0, 1, 0, 0, 0, 0, 1, 0, 1, 0, 0, 0, 0, 1, 0, 0, 2] [[], [], [1], [], [1, 2, 3], [1, 2, 3, 4], [1, 2, 3, 4, 5], [1, 2, 3, 4, 5, 6], [], [8], [], [8, 9, 10], [8, 9, 10, 11], [8, 9, 10, 11, 12], [8, 9, 10, 11, 12, 13], [1, 2, 3, 4, 5, 6, 7, 8, 9, 10, 11, 12, 13, 14], [0, 1, 2, 3, 4, 5, 6, 7, 8, 9, 10, 11, 12, 13, 14, 15], [0, 1, 2, 3, 4, 5, 6, 7, 8, 9, 10, 11, 12, 13, 14, 15, 16]] (.q 0 (.q 1 (.q 2 (.q 3 (.q 4 (.q 5 (.q 6 (.q 7 (.q 8 (.q 9 (.q 10 (.q 11 (.q 12 (.q 13 (.q 14 (.q 15 (.q 16 (.e 17 (.done) (.stop))))))))))))))))))) mixed (by kernel_rfl) (by kernel_rfl) ?_
    refine P_p rfl rfl (Ev_move rfl) rfl ?_
    refine P_p rfl rfl (Ev_field rfl fld26_1 rfl) rfl ?_
    refine P_q rfl rfl (Ev_load1 rfl (i := 2) rfl rfl one24) rfl ?_
    refine P_p rfl rfl (Ev_move rfl) rfl ?_
    have hi := hin (nodes[k]'(by omega)) (List.getElem_mem _)
    have hb1 := sumF_bd (loF l r) 536870912 (nodes.take k) (fun x hx => hlo x (List.mem_of_mem_take hx))
    have hb2 := sumF_bd (hiF l r) 536870912 (nodes.take k) (fun x hx => hhi x (List.mem_of_mem_take hx))
    have hb3 : (nodes.take k).length ≤ 1000000 := by rw [List.length_take]; omega
    obtain ⟨b10, o11, hA12, hp13⟩ := Has.elem ht (i := (nodes[k]'(by omega)).toNat) (by omega)
    refine P_p rfl rfl (Ev_index rfl rfl hA12 (j := (nodes[k]'(by omega)).toNat) (by omega) (by omega) slc24) rfl ?_
    refine P_p rfl rfl (Ev_field rfl fld41_1 rfl) rfl ?_
    refine P_p rfl rfl (Ev_field rfl fld39_0 rfl) rfl ?_
    refine P_q rfl rfl (Ev_loadP1 (d := 1) rfl hp13 (SubE.cons2 (i := 4) rfl (SubE.nil)) rfl one3) rfl ?_
    refine P_p rfl rfl (Ev_field rfl fld26_1 rfl) rfl ?_
    refine P_q rfl rfl (Ev_load1 rfl (i := 3) rfl rfl one24) rfl ?_
    refine P_p rfl rfl (Ev_move rfl) rfl ?_
    obtain ⟨b14, o15, hA16, hp17⟩ := Has.elem hs (i := (nodes[k]'(by omega)).toNat) (by omega)
    refine P_p rfl rfl (Ev_index rfl rfl hA16 (j := (nodes[k]'(by omega)).toNat) (by omega) (by omega) slc24) rfl ?_
    refine P_p rfl rfl (Ev_field rfl fld41_1 rfl) rfl ?_
    refine P_p rfl rfl (Ev_field rfl fld39_1 rfl) rfl ?_
    refine P_q rfl rfl (Ev_loadP1 (d := 2) rfl hp17 (SubE.cons2 (i := 4) rfl (SubE.nil)) rfl one3) rfl ?_
    have hc1 := hlo (nodes[k]'(by omega)) (List.getElem_mem _)
    simp only [loF] at hc1
    rw [getD_at (show (nodes[k]'(by omega)).toNat < r.length by omega), getD_at (show (nodes[k]'(by omega)).toNat < l.length by omega)] at hc1
    refine P_p rfl rfl (Ev_sub rfl rfl (by omega) (by omega)) rfl ?_
    refine P_p rfl rfl (Ev_add rfl rfl (by omega) (by omega)) rfl ?_
    refine P_x rfl (Wx_val (Ev_assign rfl) rfl ?_) ?_
    rotate_left; exact P_stop
    refine P_done ?_
    refine T_next ?_
    refine T_draw [0, 0, 1, 0, 0, 0, 0, 1, 0, 1, 0, 0, 0, 0, 1, 0, 0, 2] [[], [], [1], [], [1, 2, 3], [1, 2, 3, 4], [1, 2, 3, 4, 5], [1, 2, 3, 4, 5, 6], [], [8], [], [8, 9, 10], [8, 9, 10, 11], [8, 9, 10, 11, 12], [8, 9, 10, 11, 12, 13], [1, 2, 3, 4, 5, 6, 7, 8, 9, 10, 11, 12, 13, 14], [0, 1, 2, 3, 4, 5, 6, 7, 8, 9, 10, 11, 12, 13, 14, 15], [0, 1, 2, 3, 4, 5, 6, 7, 8, 9, 10, 11, 12, 13, 14, 15, 16]] (.q 0 (.q 1 (.q 2 (.q 3 (.q 4 (.q 5 (.q 6 (.q 7 (.q 8 (.q 9 (.q 10 (.q 11 (.q 12 (.q 13 (.q 14 (.q 15 (.q 16 (.e 17 (.done) (.stop))))))))))))))))))) mixed (by kernel_rfl) (by kernel_rfl) ?_
    refine P_p rfl rfl (Ev_move rfl) rfl ?_
    refine P_p rfl rfl (Ev_field rfl fld26_1 rfl) rfl ?_
    refine P_q rfl rfl (Ev_load1 rfl (i := 2) rfl rfl one24) rfl ?_
    refine P_p rfl rfl (Ev_move rfl) rfl ?_
    obtain ⟨b18, o19, hA20, hp21⟩ := Has.elem ht (i := (nodes[k]'(by omega)).toNat) (by omega)
    refine P_p rfl rfl (Ev_index rfl rfl hA20 (j := (nodes[k]'(by omega)).toNat) (by omega) (by omega) slc24) rfl ?_
    refine P_p rfl rfl (Ev_field rfl fld41_1 rfl) rfl ?_
    refine P_p rfl rfl (Ev_field rfl fld39_1 rfl) rfl ?_
    refine P_q rfl rfl (Ev_loadP1 (d := 2) rfl hp21 (SubE.cons2 (i := 4) rfl (SubE.nil)) rfl one3) rfl ?_
    refine P_p rfl rfl (Ev_field rfl fld26_1 rfl) rfl ?_
    refine P_q rfl rfl (Ev_load1 rfl (i := 3) rfl rfl one24) rfl ?_
    refine P_p rfl rfl (Ev_move rfl) rfl ?_
    obtain ⟨b22, o23, hA24, hp25⟩ := Has.elem hs (i := (nodes[k]'(by omega)).toNat) (by omega)
    refine P_p rfl rfl (Ev_index rfl rfl hA24 (j := (nodes[k]'(by omega)).toNat) (by omega) (by omega) slc24) rfl ?_
    refine P_p rfl rfl (Ev_field rfl fld41_1 rfl) rfl ?_
    refine P_p rfl rfl (Ev_field rfl fld39_0 rfl) rfl ?_
    refine P_q rfl rfl (Ev_loadP1 (d := 1) rfl hp25 (SubE.cons2 (i := 4) rfl (SubE.nil)) rfl one3) rfl ?_
    have hc2 := hhi (nodes[k]'(by omega)) (List.getElem_mem _)
    simp only [hiF] at hc2
    rw [getD_at (show (nodes[k]'(by omega)).toNat < r.length by omega), getD_at (show (nodes[k]'(by omega)).toNat < l.length by omega)] at hc2
    refine P_p rfl rfl (Ev_sub rfl rfl (by omega) (by omega)) rfl ?_
    refine P_p rfl rfl (Ev_add rfl rfl (by omega) (by omega)) rfl ?_
    refine P_x rfl (Wx_val (Ev_assign rfl) rfl ?_) ?_
    rotate_left; exact P_stop
    refine P_done ?_
    refine T_inN ?_
    refine T_next ?_
    refine T_reg ?_
    refine T_val (Ev_addN (k) (1) rfl rfl (by simp only [top]; omega)) rfl ?_
    refine T_val (Ev_move rfl) rfl ?_
    refine T_nil ?_
    refine T_slot (s := 8) (v' := .int .i64 (sumF (loF l r) (nodes.take (k + 1)))) rfl (by rw [sumF_take _ _ _ (show k < nodes.length by omega)]; simp only [loF]; rw [getD_at (show (nodes[k]'(by omega)).toNat < r.length by omega), getD_at (show (nodes[k]'(by omega)).toNat < l.length by omega)]) ?_
    refine T_slot (s := 9) (v' := .int .i64 (sumF (hiF l r) (nodes.take (k + 1)))) rfl (by rw [sumF_take _ _ _ (show k < nodes.length by omega)]; simp only [hiF]; rw [getD_at (show (nodes[k]'(by omega)).toNat < r.length by omega), getD_at (show (nodes[k]'(by omega)).toNat < l.length by omega)]) ?_
    refine T_round (σ := Nat) (I := fun k => [(0, .agg #[.int .i64 (f.x0), .int .i64 (f.y0), .int .i64 (f.step), .int .i64 (f.nx), .int .i64 (f.ny), .slice (A) (n) (c)]), (1, .agg #[.int .i64 (g.x0), .int .i64 (g.y0), .int .i64 (g.step), .int .i64 (g.nx), .int .i64 (g.ny), .slice (B) (m) (d)]), (2, .slice (N) (p) (q)), (3, .pointer (some ⟨g1, 0, none⟩)), (4, .pointer (some ⟨g2, 0, none⟩)), (6, .pointer (some ⟨g3, 0, none⟩)), (7, .pointer (some ⟨g4, 0, none⟩)), (8, .int .i64 (sumF (loF l r) (nodes.take k))), (9, .int .i64 (sumF (hiF l r) (nodes.take k))), (12, .slice (N) (p) (q)), (13, .int .i64 (((p : Nat) : Int))), (14, .int .i64 (((k : Nat) : Int)))]) (H := fun k => [.m g4 32 [.bool (false), .slice (none) (0) (0), .slice (none) (0) (0)], .m g3 32 [.bool (false), .slice (none) (0) (0), .slice (none) (0) (0)], .m g2 26 [.int .i64 (g.x0), .int .i64 (g.y0), .int .i64 (g.step), .int .i64 (g.nx), .int .i64 (g.ny), .slice (B) (m) (d)], .m g1 26 [.int .i64 (f.x0), .int .i64 (f.y0), .int .i64 (f.step), .int .i64 (f.nx), .int .i64 (f.ny), .slice (A) (n) (c)]] ++ [.old w]) (C := fun k => k ≤ p) (μ := fun k => p - k) (s := k) (k + 1) ?_ ?_ ?_ ?_
    · exact (by omega)
    · exact (show p - (k + 1) < p - k by omega)
    · exact .cons rfl (.cons rfl (.cons rfl (.cons rfl (.cons rfl (.cons rfl (.cons rfl (.cons rfl (.cons rfl (.cons rfl (.cons rfl (.cons rfl (.nil))))))))))))
    · exact .keep (.keep (.keep (.keep (.refl))))
  · refine T_condF rfl ?_
    refine T_exit ?_
    refine T_outX ?_
    refine T_outX ?_
    refine T_here ?_
    refine T_next ?_
    refine T_seq ?_
    refine T_draw [0, 1, 0, 2, 0, 1, 0, 2, 3, 3] [[], [0], [], [0, 1, 2], [], [4], [], [0, 1, 2, 3, 4, 5, 6], [0, 1, 2, 3, 4, 5, 6, 7], [0, 1, 2, 3, 4, 5, 6, 7, 8]] (.q 0 (.q 1 (.q 2 (.q 4 (.q 5 (.q 6 (.e 3 (.e 7 (.e 8 (.e 9 (.done) (.stop)) (.stop)) (.stop)) (.stop)))))))) mixed (by kernel_rfl) (by kernel_rfl) ?_
    refine P_p rfl rfl (Ev_field rfl fld26_0 rfl) rfl ?_
    have hb1 := sumF_bd (loF l r) 536870912 (nodes.take k) (fun x hx => hlo x (List.mem_of_mem_take hx))
    have hb2 := sumF_bd (hiF l r) 536870912 (nodes.take k) (fun x hx => hhi x (List.mem_of_mem_take hx))
    have hb3 : (nodes.take k).length ≤ 1000000 := by rw [List.length_take]; omega
    have hall : nodes.take k = nodes := List.take_of_length_le (by omega)
    refine P_q rfl rfl (Ev_loadK rfl (i := 3) rfl rfl agg23) rfl ?_
    refine P_p rfl rfl (Ev_move rfl) rfl ?_
    refine P_p rfl rfl (Ev_field rfl fld26_0 rfl) rfl ?_
    refine P_q rfl rfl (Ev_loadK rfl (i := 3) rfl rfl agg23) rfl ?_
    refine P_p rfl rfl (Ev_move rfl) rfl ?_
    refine P_x rfl (Wx_call1 rfl (fun w _ => times_ok (z := sumF (loF l r) (nodes.take k)) (by exact hst) (by omega) (by omega) w) rfl ?_) ?_
    rotate_left; exact P_stop
    rintro _ e26 lo_e26 ⟨A27, k28, c29, rfl, hs30⟩
    refine P_x rfl (Wx_call1 rfl (fun w _ => times_ok (z := sumF (hiF l r) (nodes.take k)) (by exact hst) (by omega) (by omega) w) rfl ?_) ?_
    rotate_left; exact P_stop
    rintro _ e31 lo_e31 ⟨A32, k33, c34, rfl, hs35⟩
    refine P_h rfl rfl (Wh_store rfl rfl rfl (.there (.there (.there (.here)))) (.put (.put (.put (.done)))) rfl (List.cons_ne_nil _ _) agg32.2 ?_) ?_
    rotate_left; exact P_stop
    refine P_h rfl rfl (Wh_store rfl rfl rfl (.there (.there (.here))) (.put (.put (.put (.done)))) rfl (List.cons_ne_nil _ _) agg32.2 ?_) ?_
    rotate_left; exact P_stop
    refine P_done ?_
    refine T_next ?_
    refine T_retc ?_
    refine T_retL (rs := [.cell 6 32, .cell 7 32]) Try.results59 (.cell rfl (i := 3) rfl rfl agg32 (.cell rfl (i := 2) rfl rfl agg32 (.nil))) (Ln := [e31, e26]) (⟨e31, e26, ⟨_, _, _, _, _, _, by simp only [resVal]; rw [hall], by rw [hall] at hs30; exact hs30.up (SubE.cons2 (i := 1) rfl SubE.nil), by rw [hall] at hs35; exact hs35.up (SubE.cons2 (i := 0) rfl SubE.nil)⟩, rfl⟩) (loCons lo_e31 (loCons lo_e26 (loNil))) (.keep (.keep (.drop (.drop (.drop (.drop (.refl)))))))
theorem free_step {l r : List Cell} {seen : List Bool} {nodes : List Int} {k : Nat} (hk : k < nodes.length) (h1 : (nodes[k]).toNat < seen.length) (h2 : (nodes[k]).toNat < l.length) (h3 : (nodes[k]).toNat < r.length) :
    freeB l r seen (nodes.drop k) = (!(seen[(nodes[k]).toNat] || l[(nodes[k]).toNat].void || r[(nodes[k]).toNat].void) && freeB l r (seen.set (nodes[k]).toNat true) (nodes.drop (k + 1))) := by
  rw [List.drop_eq_getElem_cons hk]
  simp only [freeB]
  rw [getD_at h2, getD_at h3]
  have : seen.getD (nodes[k]).toNat false = seen[(nodes[k]).toNat] := by simp [h1]
  rw [this]
theorem amt_zero {f g : Raster} {l r : List Cell} {nodes : List Int} (h : amtE f l g r nodes = 0) : pairE f l g r = 0 := by
  simp only [amtE] at h
  split at h
  · assumption
  · exact h
theorem cells_lo {l r : List Cell} (hl : ∀ c ∈ l, -268435456 ≤ c.lo ∧ c.lo ≤ 268435456 ∧ -268435456 ≤ c.hi ∧ c.hi ≤ 268435456) (hr : ∀ c ∈ r, -268435456 ≤ c.lo ∧ c.lo ≤ 268435456 ∧ -268435456 ≤ c.hi ∧ c.hi ≤ 268435456) {nodes : List Int}
    (hin : ∀ i ∈ nodes, 0 ≤ i ∧ i < l.length ∧ i < r.length) : (∀ i ∈ nodes, -((536870912 : Nat) : Int) ≤ loF l r i ∧ loF l r i ≤ ((536870912 : Nat) : Int)) ∧ (∀ i ∈ nodes, -((536870912 : Nat) : Int) ≤ hiF l r i ∧ hiF l r i ≤ ((536870912 : Nat) : Int)) := by
  have key : ∀ i ∈ nodes, ∃ c ∈ l, ∃ d ∈ r, loF l r i = d.lo - c.hi ∧ hiF l r i = d.hi - c.lo := by
    intro i hi
    have := hin i hi
    have h1 : i.toNat < l.length := by omega
    have h2 : i.toNat < r.length := by omega
    exact ⟨l[i.toNat], List.getElem_mem _, r[i.toNat], List.getElem_mem _, by simp only [loF]; rw [getD_at h1, getD_at h2], by simp only [hiF]; rw [getD_at h1, getD_at h2]⟩
  constructor
  · intro i hi
    obtain ⟨c, hc, d, hd, e1, e2⟩ := key i hi
    have h3 := hl c hc; have h4 := hr d hd
    omega
  · intro i hi
    obtain ⟨c, hc, d, hd, e1, e2⟩ := key i hi
    have h3 := hl c hc; have h4 := hr d hd
    omega
set_option maxRecDepth 100000 in
theorem amt_ok (f g : Raster) {A n c B m d N p q} {l r : List Cell} {nodes : List Int} {K : List Ent} (ha : Has K A n c 3 eC l) (hb : Has K B m d 3 eC r) (hc : Has K N p q 1 eI nodes) (h9 : p ≤ 1000000) (w : World) (hK : ∀ e ∈ K, Ent.ok w e) : Ct2 Try.prog 19 [.agg #[.int .i64 f.x0, .int .i64 f.y0, .int .i64 f.step, .int .i64 f.nx, .int .i64 f.ny, .slice A n c], .agg #[.int .i64 g.x0, .int .i64 g.y0, .int .i64 g.step, .int .i64 g.nx, .int .i64 g.ny, .slice B m d], .slice N p q] w fun v e e' => ∃ A1 k1 c1 A2 k2 c2, v = .tuple #[.agg #[.bool (decide (amtLo f l g r nodes < 0)), .slice A1 k1 c1, .slice none 0 0], .agg #[.bool (decide (amtHi f l g r nodes < 0)), .slice A2 k2 c2, .slice none 0 0], .int .i64 (amtE f l g r nodes)] ∧ Has [e, e'] A1 k1 c1 1 eW (dig 4294967296 (amtLo f l g r nodes).natAbs) ∧ Has [e, e'] A2 k2 c2 1 eW (dig 4294967296 (amtHi f l g r nodes).natAbs) := by
  have hs := (ha.sl hK).has
  have ht := (hb.sl hK).has
  have hn := (hc.sl hK).has
  have hln := ha.len
  have hlm := hb.len
  have hlp := hc.len
  have hsm := ha.small
  have hsm2 := hb.small
  have hsm3 := hc.small
  have hlnn : l.length = n := hln
  refine CtL.mk 84 Try.func19 rfl Try.ntmps19 (by kernel_rfl) rfl ?_
  show T 84 _ [(0, .agg #[.int .i64 (f.x0), .int .i64 (f.y0), .int .i64 (f.step), .int .i64 (f.nx), .int .i64 (f.ny), .slice (A) (n) (c)]), (1, .agg #[.int .i64 (g.x0), .int .i64 (g.y0), .int .i64 (g.step), .int .i64 (g.nx), .int .i64 (g.ny), .slice (B) (m) (d)]), (2, .slice (N) (p) (q))] _
  refine T_seq ?_
  refine T_reg ?_
  refine T_x (Wx_box rfl rfl rfl (fun g1 => ?_))
  refine T_x (Wx_box rfl rfl rfl (fun g2 => ?_))
  refine T_x (Wx_alloc zer32 rfl (fun g3 => ?_))
  refine T_x (Wx_alloc zer32 rfl (fun g4 => ?_))
  refine T_val (Ev_assign rfl) rfl ?_
  refine T_nil ?_
  refine T_next ?_
  refine T_seq ?_
  refine T_seq ?_
  refine T_reg ?_
  refine T_val (Ev_loadK rfl (i := 3) rfl rfl agg26) rfl ?_
  refine T_val (Ev_loadK rfl (i := 2) rfl rfl agg26) rfl ?_
  refine T_x (Wx_call rfl (fun w1 hw1 => pair_ok f g hs ht  w1 (okAll (K := [.old w]) (by exact (SubE.cons2 (i := 4) rfl (SubE.nil))) hw1)) rfl ?_)
  rintro _ rfl
  refine T_val (Ev_assign rfl) rfl ?_
  refine T_nil ?_
  refine T_next ?_
  refine T_seq ?_
  refine T_reg ?_
  refine T_val (Ev_move rfl) rfl ?_
  refine T_val (Ev_neq rfl rfl) rfl ?_
  refine T_nil ?_
  refine T_next ?_
  refine T_caseNP (s := 19) rfl (fun h5 => ?_) (fun h5 => ?_)
  · refine T_condT rfl ?_
    refine T_seq ?_
    refine T_reg ?_
    refine T_val (Ev_build rfl (bld32_)) rfl ?_
    refine T_val (Ev_build rfl (bld32_)) rfl ?_
    refine T_val (Ev_move rfl) rfl ?_
    refine T_h (Wh_store rfl rfl rfl (.there (.here)) (.put (.put (.put (.done)))) rfl (List.cons_ne_nil _ _) agg32.2 ?_)
    refine T_h (Wh_store rfl rfl rfl (.here) (.put (.put (.put (.done)))) rfl (List.cons_ne_nil _ _) agg32.2 ?_)
    refine T_val (Ev_assign rfl) rfl ?_
    refine T_nil ?_
    refine T_next ?_
    refine T_retc ?_
    refine T_outR ?_
    refine T_none 0 1 ?_
    refine T_none 0 1 ?_
    have hE : amtE f l g r nodes = pairE f l g r := by (simp only [amtE]; rw [if_neg (by assumption)])
    have hE0 : amtE f l g r nodes ≠ 0 := by rw [hE]; first | assumption | decide
    have hL : amtLo f l g r nodes = 0 := by simp only [amtLo]; rw [if_neg hE0]
    have hH : amtHi f l g r nodes = 0 := by simp only [amtHi]; rw [if_neg hE0]
    refine T_retL (rs := [.cell 6 32, .cell 7 32, .tmp 8]) Try.results19 (.cell rfl (i := 3) rfl rfl agg32 (.cell rfl (i := 2) rfl rfl agg32 (.tmp rfl (.nil)))) (Ln := [.r none 0 0 0 1 [], .r none 0 0 0 1 []]) (⟨.r none 0 0 0 1 [], .r none 0 0 0 1 [], ⟨none, 0, 0, none, 0, 0, by rw [hL, hH, hE]; rfl, by rw [hL]; exact Has.nil, by rw [hH]; exact Has.nil⟩, rfl⟩) (loCons rfl (loCons rfl (loNil))) (.keep (.keep (.drop (.drop (.drop (.drop (.refl)))))))
  · refine T_condF rfl ?_
    refine T_skip ?_
    refine T_next ?_
    refine T_seq ?_
    refine T_seq ?_
    refine T_reg ?_
    have hpz := pair_zero (f := f) (l := l) (g := g) (r := r) (by assumption)
    have hvl := valid_len hpz.1
    refine T_val (Ev_move rfl) rfl ?_
    refine T_val (Ev_len rfl 3 Try.underlying27) rfl ?_
    refine T_val (Ev_move rfl) rfl ?_
    refine T_nil ?_
    refine T_next ?_
    refine T_block ?_
    refine T_loop (σ := Nat) (fun k => [(0, .agg #[.int .i64 (f.x0), .int .i64 (f.y0), .int .i64 (f.step), .int .i64 (f.nx), .int .i64 (f.ny), .slice (A) (n) (c)]), (1, .agg #[.int .i64 (g.x0), .int .i64 (g.y0), .int .i64 (g.step), .int .i64 (g.nx), .int .i64 (g.ny), .slice (B) (m) (d)]), (2, .slice (N) (p) (q)), (3, .pointer (some ⟨g1, 0, none⟩)), (4, .pointer (some ⟨g2, 0, none⟩)), (6, .pointer (some ⟨g3, 0, none⟩)), (7, .pointer (some ⟨g4, 0, none⟩)), (9, .int .i64 (pairE f (l) g (r))), (15, .agg #[.int .i64 (f.x0), .int .i64 (f.y0), .int .i64 (f.step), .int .i64 (f.nx), .int .i64 (f.ny), .slice (A) (n) (c)]), (16, .agg #[.int .i64 (g.x0), .int .i64 (g.y0), .int .i64 (g.step), .int .i64 (g.nx), .int .i64 (g.ny), .slice (B) (m) (d)]), (17, .int .i64 (pairE f (l) g (r))), (18, .int .i64 (pairE f (l) g (r))), (19, .bool (false)), (23, .slice (N) (p) (q)), (24, .int .i64 (((p : Nat) : Int))), (25, .int .i64 (((k : Nat) : Int)))]) (fun k => [.m g4 32 [.bool (false), .slice (none) (0) (0), .slice (none) (0) (0)], .m g3 32 [.bool (false), .slice (none) (0) (0), .slice (none) (0) (0)], .m g2 26 [.int .i64 (g.x0), .int .i64 (g.y0), .int .i64 (g.step), .int .i64 (g.nx), .int .i64 (g.ny), .slice (B) (m) (d)], .m g1 26 [.int .i64 (f.x0), .int .i64 (f.y0), .int .i64 (f.step), .int .i64 (f.nx), .int .i64 (f.ny), .slice (A) (n) (c)]] ++ [.old w]) (fun k => k ≤ p ∧ ∀ (j : Nat) (hj : j < nodes.length), j < k → inB l.length nodes[j] = true) (fun k => p - k) (0) ?_ ?_ ?_ ?_
    · exact ⟨Nat.zero_le _, fun j hj h => absurd h (by omega)⟩
    · exact .cons rfl (.cons rfl (.cons rfl (.cons rfl (.cons rfl (.cons rfl (.cons rfl (.cons rfl (.cons rfl (.cons rfl (.cons rfl (.cons rfl (.cons rfl (.cons rfl (.cons rfl (.cons rfl (.nil))))))))))))))))
    · exact .keep (.keep (.keep (.keep (.refl))))
    intro k hC
    obtain ⟨hC1, hC2⟩ := hC
    refine T_seq ?_
    refine T_reg ?_
    refine T_val (Ev_lss rfl rfl) rfl ?_
    refine T_nil ?_
    refine T_next ?_
    refine T_seq ?_
    refine T_caseP (s := 26) rfl (fun h6 => ?_) (fun h6 => ?_)
    · refine T_condT rfl ?_
      refine T_skip ?_
      refine T_next ?_
      refine T_seq ?_
      refine T_block ?_
      refine T_seq ?_
      refine T_reg ?_
      obtain ⟨b7, o8, hA9, hp10⟩ := Has.elem hn (i := k) (by omega)
      refine T_val (Ev_index rfl rfl hA9 (j := k) (by rfl) (by omega) slc27) rfl ?_
      refine T_val (Ev_loadP0 rfl hp10 (SubE.cons2 (i := 4) rfl (SubE.nil)) rfl one3) rfl ?_
      refine T_val (Ev_assign rfl) rfl ?_
      refine T_nil ?_
      refine T_next ?_
      refine T_seq ?_
      refine T_reg ?_
      refine T_val (Ev_move rfl) rfl ?_
      refine T_val (Ev_field rfl fld26_1 rfl) rfl ?_
      refine T_val (Ev_load1 rfl (i := 3) rfl rfl one24) rfl ?_
      refine T_val (Ev_len rfl 41 Try.underlying24) rfl ?_
      refine T_val (Ev_sub rfl rfl (by omega) (by omega)) rfl ?_
      refine T_x (Wx_call rfl (fun w hw => within_ok _ _ _ w) rfl ?_)
      rintro _ rfl
      refine T_val (Ev_not rfl) rfl ?_
      refine T_nil ?_
      refine T_next ?_
      refine T_caseNB (s := 35) rfl (fun h11 => ?_) (fun h11 => ?_)
      · refine T_condT rfl ?_
        refine T_seq ?_
        refine T_reg ?_
        refine T_val (Ev_build rfl (bld32_)) rfl ?_
        refine T_val (Ev_build rfl (bld32_)) rfl ?_
        refine T_h (Wh_store rfl rfl rfl (.there (.here)) (.put (.put (.put (.done)))) rfl (List.cons_ne_nil _ _) agg32.2 ?_)
        refine T_h (Wh_store rfl rfl rfl (.here) (.put (.put (.put (.done)))) rfl (List.cons_ne_nil _ _) agg32.2 ?_)
        refine T_val (Ev_assign rfl) rfl ?_
        refine T_nil ?_
        refine T_next ?_
        refine T_retc ?_
        refine T_inR ?_
        refine T_outR ?_
        refine T_outR ?_
        refine T_inR ?_
        refine T_outR ?_
        refine T_none 0 1 ?_
        refine T_none 0 1 ?_
        have hE : amtE f l g r nodes = 92 := by (simp only [amtE]; rw [if_pos (by assumption), if_neg (by rw [all_no (k := k) (by omega) (by rw [hlnn]; assumption)]; simp)])
        have hE0 : amtE f l g r nodes ≠ 0 := by rw [hE]; first | assumption | decide
        have hL : amtLo f l g r nodes = 0 := by simp only [amtLo]; rw [if_neg hE0]
        have hH : amtHi f l g r nodes = 0 := by simp only [amtHi]; rw [if_neg hE0]
        refine T_retL (rs := [.cell 6 32, .cell 7 32, .tmp 8]) Try.results19 (.cell rfl (i := 3) rfl rfl agg32 (.cell rfl (i := 2) rfl rfl agg32 (.tmp rfl (.nil)))) (Ln := [.r none 0 0 0 1 [], .r none 0 0 0 1 []]) (⟨.r none 0 0 0 1 [], .r none 0 0 0 1 [], ⟨none, 0, 0, none, 0, 0, by rw [hL, hH, hE]; rfl, by rw [hL]; exact Has.nil, by rw [hH]; exact Has.nil⟩, rfl⟩) (loCons rfl (loCons rfl (loNil))) (.keep (.keep (.drop (.drop (.drop (.drop (.refl)))))))
      · refine T_condF rfl ?_
        refine T_skip ?_
        refine T_inN ?_
        refine T_next ?_
        refine T_reg ?_
        refine T_val (Ev_addN (k) (1) rfl rfl (by simp only [top]; omega)) rfl ?_
        refine T_val (Ev_move rfl) rfl ?_
        refine T_nil ?_
        refine T_round (σ := Nat) (I := fun k => [(0, .agg #[.int .i64 (f.x0), .int .i64 (f.y0), .int .i64 (f.step), .int .i64 (f.nx), .int .i64 (f.ny), .slice (A) (n) (c)]), (1, .agg #[.int .i64 (g.x0), .int .i64 (g.y0), .int .i64 (g.step), .int .i64 (g.nx), .int .i64 (g.ny), .slice (B) (m) (d)]), (2, .slice (N) (p) (q)), (3, .pointer (some ⟨g1, 0, none⟩)), (4, .pointer (some ⟨g2, 0, none⟩)), (6, .pointer (some ⟨g3, 0, none⟩)), (7, .pointer (some ⟨g4, 0, none⟩)), (9, .int .i64 (pairE f (l) g (r))), (15, .agg #[.int .i64 (f.x0), .int .i64 (f.y0), .int .i64 (f.step), .int .i64 (f.nx), .int .i64 (f.ny), .slice (A) (n) (c)]), (16, .agg #[.int .i64 (g.x0), .int .i64 (g.y0), .int .i64 (g.step), .int .i64 (g.nx), .int .i64 (g.ny), .slice (B) (m) (d)]), (17, .int .i64 (pairE f (l) g (r))), (18, .int .i64 (pairE f (l) g (r))), (19, .bool (false)), (23, .slice (N) (p) (q)), (24, .int .i64 (((p : Nat) : Int))), (25, .int .i64 (((k : Nat) : Int)))]) (H := fun k => [.m g4 32 [.bool (false), .slice (none) (0) (0), .slice (none) (0) (0)], .m g3 32 [.bool (false), .slice (none) (0) (0), .slice (none) (0) (0)], .m g2 26 [.int .i64 (g.x0), .int .i64 (g.y0), .int .i64 (g.step), .int .i64 (g.nx), .int .i64 (g.ny), .slice (B) (m) (d)], .m g1 26 [.int .i64 (f.x0), .int .i64 (f.y0), .int .i64 (f.step), .int .i64 (f.nx), .int .i64 (f.ny), .slice (A) (n) (c)]] ++ [.old w]) (C := fun k => k ≤ p ∧ ∀ (j : Nat) (hj : j < nodes.length), j < k → inB l.length nodes[j] = true) (μ := fun k => p - k) (s := k) (k + 1) ?_ ?_ ?_ ?_
        · exact ⟨by omega, fun j hj h => (by rcases Nat.lt_or_ge j k with hq | hq; exact hC2 j hj hq; have e : j = k := (by omega); subst e; rw [hlnn]; assumption)⟩
        · exact (show p - (k + 1) < p - k by omega)
        · exact .cons rfl (.cons rfl (.cons rfl (.cons rfl (.cons rfl (.cons rfl (.cons rfl (.cons rfl (.cons rfl (.cons rfl (.cons rfl (.cons rfl (.cons rfl (.cons rfl (.cons rfl (.cons rfl (.nil))))))))))))))))
        · exact .keep (.keep (.keep (.keep (.refl))))
    · refine T_condF rfl ?_
      refine T_exit ?_
      refine T_outX ?_
      refine T_outX ?_
      refine T_here ?_
      refine T_next ?_
      refine T_seq ?_
      refine T_reg ?_
      refine T_val (Ev_field rfl fld26_1 rfl) rfl ?_
      refine T_val (Ev_load1 rfl (i := 3) rfl rfl one24) rfl ?_
      refine T_val (Ev_len rfl 41 Try.underlying24) rfl ?_
      have hall : nodes.all (inB l.length) = true := all_yes (k := k) (by omega) hC2
      have hin : ∀ i ∈ nodes, 0 ≤ i ∧ i < l.length ∧ i < r.length := by (intro i hi; have := List.all_eq_true.1 hall i hi; simp only [inB, Bool.and_eq_true, decide_eq_true_eq] at this; omega)
      refine T_x (Wx_make1 (z := .bool (false)) rfl rfl (m := n) rfl rfl Try.underlying37 (show Try.prog.info? 4 = some Try.t4 from by kernel_rfl) (by kernel_rfl) rfl (by kernel_rfl) (by show 1 * _ ≤ _; omega) (by omega) rfl (fun A12 => ?_))
      refine T_ent .here (e' := .r (A12) (n) (n) 4 1 ((List.replicate (n) false).flatMap eB)) (by simp [eB, List.flatMap_replicate]) ?_
      refine T_val (Ev_assign rfl) rfl ?_
      refine T_nil ?_
      refine T_next ?_
      refine T_seq ?_
      refine T_seq ?_
      refine T_reg ?_
      refine T_val (Ev_move rfl) rfl ?_
      refine T_val (Ev_len rfl 3 Try.underlying27) rfl ?_
      refine T_val (Ev_move rfl) rfl ?_
      refine T_nil ?_
      refine T_next ?_
      refine T_block ?_
      refine T_loop (σ := List Bool × Nat) (fun (seen, i2) => [(0, .agg #[.int .i64 (f.x0), .int .i64 (f.y0), .int .i64 (f.step), .int .i64 (f.nx), .int .i64 (f.ny), .slice (A) (n) (c)]), (1, .agg #[.int .i64 (g.x0), .int .i64 (g.y0), .int .i64 (g.step), .int .i64 (g.nx), .int .i64 (g.ny), .slice (B) (m) (d)]), (2, .slice (N) (p) (q)), (3, .pointer (some ⟨g1, 0, none⟩)), (4, .pointer (some ⟨g2, 0, none⟩)), (6, .pointer (some ⟨g3, 0, none⟩)), (7, .pointer (some ⟨g4, 0, none⟩)), (9, .int .i64 (pairE f (l) g (r))), (12, .slice (A12) (n) (n)), (15, .agg #[.int .i64 (f.x0), .int .i64 (f.y0), .int .i64 (f.step), .int .i64 (f.nx), .int .i64 (f.ny), .slice (A) (n) (c)]), (16, .agg #[.int .i64 (g.x0), .int .i64 (g.y0), .int .i64 (g.step), .int .i64 (g.nx), .int .i64 (g.ny), .slice (B) (m) (d)]), (17, .int .i64 (pairE f (l) g (r))), (18, .int .i64 (pairE f (l) g (r))), (19, .bool (false)), (23, .slice (N) (p) (q)), (24, .int .i64 (((p : Nat) : Int))), (25, .int .i64 (((k : Nat) : Int))), (26, .bool (false)), (39, .pointer (some ⟨g1, 5, none⟩)), (40, .slice (A) (n) (c)), (41, .int .i64 (((n : Nat) : Int))), (42, .slice (A12) (n) (n)), (43, .slice (N) (p) (q)), (44, .int .i64 (((p : Nat) : Int))), (45, .int .i64 (((i2 : Nat) : Int)))]) (fun (seen, i2) => [.r (A12) (n) (n) 4 1 ((seen).flatMap eB), .m g4 32 [.bool (false), .slice (none) (0) (0), .slice (none) (0) (0)], .m g3 32 [.bool (false), .slice (none) (0) (0), .slice (none) (0) (0)], .m g2 26 [.int .i64 (g.x0), .int .i64 (g.y0), .int .i64 (g.step), .int .i64 (g.nx), .int .i64 (g.ny), .slice (B) (m) (d)], .m g1 26 [.int .i64 (f.x0), .int .i64 (f.y0), .int .i64 (f.step), .int .i64 (f.nx), .int .i64 (f.ny), .slice (A) (n) (c)]] ++ [.old w]) (fun (seen, i2) => seen.length = n ∧ i2 ≤ p ∧ freeB l r (List.replicate l.length false) nodes = freeB l r seen (nodes.drop i2)) (fun (seen, i2) => p - i2) ((List.replicate n false, 0)) ?_ ?_ ?_ ?_
      · exact ⟨by simp, Nat.zero_le _, by rw [hlnn]; rfl⟩
      · exact .cons rfl (.cons rfl (.cons rfl (.cons rfl (.cons rfl (.cons rfl (.cons rfl (.cons rfl (.cons rfl (.cons rfl (.cons rfl (.cons rfl (.cons rfl (.cons rfl (.cons rfl (.cons rfl (.cons rfl (.cons rfl (.cons rfl (.cons rfl (.cons rfl (.cons rfl (.cons rfl (.cons rfl (.cons rfl (.nil)))))))))))))))))))))))))
      · exact .keep (.keep (.keep (.keep (.keep (.refl)))))
      intro ⟨seen, i2⟩ hC
      replace hC : seen.length = n ∧ i2 ≤ p ∧ freeB l r (List.replicate l.length false) nodes = freeB l r seen (nodes.drop i2) := hC
      show T 84 _ [(0, .agg #[.int .i64 (f.x0), .int .i64 (f.y0), .int .i64 (f.step), .int .i64 (f.nx), .int .i64 (f.ny), .slice (A) (n) (c)]), (1, .agg #[.int .i64 (g.x0), .int .i64 (g.y0), .int .i64 (g.step), .int .i64 (g.nx), .int .i64 (g.ny), .slice (B) (m) (d)]), (2, .slice (N) (p) (q)), (3, .pointer (some ⟨g1, 0, none⟩)), (4, .pointer (some ⟨g2, 0, none⟩)), (6, .pointer (some ⟨g3, 0, none⟩)), (7, .pointer (some ⟨g4, 0, none⟩)), (9, .int .i64 (pairE f (l) g (r))), (12, .slice (A12) (n) (n)), (15, .agg #[.int .i64 (f.x0), .int .i64 (f.y0), .int .i64 (f.step), .int .i64 (f.nx), .int .i64 (f.ny), .slice (A) (n) (c)]), (16, .agg #[.int .i64 (g.x0), .int .i64 (g.y0), .int .i64 (g.step), .int .i64 (g.nx), .int .i64 (g.ny), .slice (B) (m) (d)]), (17, .int .i64 (pairE f (l) g (r))), (18, .int .i64 (pairE f (l) g (r))), (19, .bool (false)), (23, .slice (N) (p) (q)), (24, .int .i64 (((p : Nat) : Int))), (25, .int .i64 (((k : Nat) : Int))), (26, .bool (false)), (39, .pointer (some ⟨g1, 5, none⟩)), (40, .slice (A) (n) (c)), (41, .int .i64 (((n : Nat) : Int))), (42, .slice (A12) (n) (n)), (43, .slice (N) (p) (q)), (44, .int .i64 (((p : Nat) : Int))), (45, .int .i64 (((i2 : Nat) : Int)))] ([.r (A12) (n) (n) 4 1 ((seen).flatMap eB), .m g4 32 [.bool (false), .slice (none) (0) (0), .slice (none) (0) (0)], .m g3 32 [.bool (false), .slice (none) (0) (0), .slice (none) (0) (0)], .m g2 26 [.int .i64 (g.x0), .int .i64 (g.y0), .int .i64 (g.step), .int .i64 (g.nx), .int .i64 (g.ny), .slice (B) (m) (d)], .m g1 26 [.int .i64 (f.x0), .int .i64 (f.y0), .int .i64 (f.step), .int .i64 (f.nx), .int .i64 (f.ny), .slice (A) (n) (c)]] ++ [.old w])
      obtain ⟨hC1, hC0, hC3⟩ := hC
      refine T_seq ?_
      refine T_reg ?_
      refine T_val (Ev_lss rfl rfl) rfl ?_
      refine T_nil ?_
      refine T_next ?_
      refine T_seq ?_
      refine T_caseP (s := 46) rfl (fun h13 => ?_) (fun h13 => ?_)
      · refine T_condT rfl ?_
        refine T_skip ?_
        refine T_next ?_
        refine T_seq ?_
        refine T_block ?_
        refine T_seq ?_
        refine T_reg ?_
        obtain ⟨b14, o15, hA16, hp17⟩ := Has.elem hn (i := i2) (by omega)
        refine T_val (Ev_index rfl rfl hA16 (j := i2) (by rfl) (by omega) slc27) rfl ?_
        refine T_val (Ev_loadP0 rfl hp17 (SubE.cons2 (i := 5) rfl (SubE.nil)) rfl one3) rfl ?_
        refine T_val (Ev_assign rfl) rfl ?_
        refine T_nil ?_
        refine T_next ?_
        refine T_seq ?_
        refine T_seq ?_
        refine T_reg ?_
        refine T_val (Ev_move rfl) rfl ?_
        refine T_val (Ev_move rfl) rfl ?_
        have hik := hin (nodes[i2]'(by omega)) (List.getElem_mem _)
        have hfs := free_step (l := l) (r := r) (seen := seen) (nodes := nodes) (k := i2) (by omega) (by omega) (by omega) (by omega)
        refine T_rowH eB (seen) (i := 0) rfl (by decide) (fun _ => rfl) (fun hn22 hs23 => ?_)
        refine T_rowA (i := 0) rfl (by omega) (fun g24 hA20 => ?_)
        have hl25 : (nodes[i2]'(by omega)).toNat < (seen).length := by omega
        obtain ⟨b18, o19, hA20', hp21⟩ := Has.elem hs23 (i := (nodes[i2]'(by omega)).toNat) hl25
        obtain ⟨rfl, rfl⟩ : g24 = b18 ∧ 0 = o19 := by rw [hA20] at hA20'; simpa using hA20'
        refine T_val (Ev_index rfl rfl hA20 (j := (nodes[i2]'(by omega)).toNat) (by omega) (by omega) slc37) rfl ?_
        refine T_val (Ev_loadP0 rfl hp21 (SubE.cons2 (i := 0) rfl (SubE.nil)) rfl one4) rfl ?_
        refine T_val (Ev_move rfl) rfl ?_
        refine T_caseB (s := 53) rfl (fun h26 => ?_) (fun h26 => ?_)
        · refine T_skipG rfl rfl rfl rfl rfl ?_
          refine T_skipG rfl rfl rfl rfl rfl ?_
          refine T_skipG rfl rfl rfl rfl rfl ?_
          refine T_skipG rfl rfl rfl rfl rfl ?_
          refine T_skipG rfl rfl rfl rfl rfl ?_
          refine T_skipG rfl rfl rfl rfl rfl ?_
          refine T_val (Ev_pickT rfl rfl) rfl ?_
          refine T_val (Ev_move rfl) rfl ?_
          refine T_skipG rfl rfl rfl rfl rfl ?_
          refine T_skipG rfl rfl rfl rfl rfl ?_
          refine T_skipG rfl rfl rfl rfl rfl ?_
          refine T_skipG rfl rfl rfl rfl rfl ?_
          refine T_skipG rfl rfl rfl rfl rfl ?_
          refine T_skipG rfl rfl rfl rfl rfl ?_
          refine T_val (Ev_pickT rfl rfl) rfl ?_
          refine T_nil ?_
          refine T_next ?_
          refine T_condT rfl ?_
          refine T_seq ?_
          refine T_reg ?_
          refine T_val (Ev_build rfl (bld32_)) rfl ?_
          refine T_val (Ev_build rfl (bld32_)) rfl ?_
          refine T_h (Wh_store rfl rfl rfl (.there (.there (.here))) (.put (.put (.put (.done)))) rfl (List.cons_ne_nil _ _) agg32.2 ?_)
          refine T_h (Wh_store rfl rfl rfl (.there (.here)) (.put (.put (.put (.done)))) rfl (List.cons_ne_nil _ _) agg32.2 ?_)
          refine T_val (Ev_assign rfl) rfl ?_
          refine T_nil ?_
          refine T_next ?_
          refine T_retc ?_
          refine T_outR ?_
          refine T_inR ?_
          refine T_outR ?_
          refine T_outR ?_
          refine T_inR ?_
          refine T_outR ?_
          refine T_none 0 1 ?_
          refine T_none 0 1 ?_
          have hE : amtE f l g r nodes = 2 := by (simp only [amtE]; rw [if_pos (by assumption), if_pos hall, if_neg (by rw [hC3, hfs]; simp [*])])
          have hE0 : amtE f l g r nodes ≠ 0 := by rw [hE]; first | assumption | decide
          have hL : amtLo f l g r nodes = 0 := by simp only [amtLo]; rw [if_neg hE0]
          have hH : amtHi f l g r nodes = 0 := by simp only [amtHi]; rw [if_neg hE0]
          refine T_retL (rs := [.cell 6 32, .cell 7 32, .tmp 8]) Try.results19 (.cell rfl (i := 4) rfl rfl agg32 (.cell rfl (i := 3) rfl rfl agg32 (.tmp rfl (.nil)))) (Ln := [.r none 0 0 0 1 [], .r none 0 0 0 1 []]) (⟨.r none 0 0 0 1 [], .r none 0 0 0 1 [], ⟨none, 0, 0, none, 0, 0, by rw [hL, hH, hE]; rfl, by rw [hL]; exact Has.nil, by rw [hH]; exact Has.nil⟩, rfl⟩) (loCons rfl (loCons rfl (loNil))) (.keep (.keep (.drop (.drop (.drop (.drop (.drop (.refl))))))))
        · refine T_valG rfl rfl rfl (Ev_field rfl fld26_1 rfl) rfl ?_
          refine T_valG rfl rfl rfl (Ev_load1 rfl (i := 4) rfl rfl one24) rfl ?_
          refine T_valG rfl rfl rfl (Ev_move rfl) rfl ?_
          obtain ⟨b27, o28, hA29, hp30⟩ := Has.elem hs (i := (nodes[i2]'(by omega)).toNat) (by omega)
          refine T_valG rfl rfl rfl (Ev_index rfl rfl hA29 (j := (nodes[i2]'(by omega)).toNat) (by omega) (by omega) slc24) rfl ?_
          refine T_valG rfl rfl rfl (Ev_field rfl fld41_0 rfl) rfl ?_
          refine T_valG rfl rfl rfl (Ev_loadP1 (d := 0) rfl hp30 (SubE.cons2 (i := 5) rfl (SubE.nil)) rfl one4) rfl ?_
          refine T_val (Ev_pickF rfl rfl) rfl ?_
          refine T_val (Ev_move rfl) rfl ?_
          refine T_caseB (s := 61) rfl (fun h31 => ?_) (fun h31 => ?_)
          · refine T_skipG rfl rfl rfl rfl rfl ?_
            refine T_skipG rfl rfl rfl rfl rfl ?_
            refine T_skipG rfl rfl rfl rfl rfl ?_
            refine T_skipG rfl rfl rfl rfl rfl ?_
            refine T_skipG rfl rfl rfl rfl rfl ?_
            refine T_skipG rfl rfl rfl rfl rfl ?_
            refine T_val (Ev_pickT rfl rfl) rfl ?_
            refine T_nil ?_
            refine T_next ?_
            refine T_condT rfl ?_
            refine T_seq ?_
            refine T_reg ?_
            refine T_val (Ev_build rfl (bld32_)) rfl ?_
            refine T_val (Ev_build rfl (bld32_)) rfl ?_
            refine T_h (Wh_store rfl rfl rfl (.there (.there (.here))) (.put (.put (.put (.done)))) rfl (List.cons_ne_nil _ _) agg32.2 ?_)
            refine T_h (Wh_store rfl rfl rfl (.there (.here)) (.put (.put (.put (.done)))) rfl (List.cons_ne_nil _ _) agg32.2 ?_)
            refine T_val (Ev_assign rfl) rfl ?_
            refine T_nil ?_
            refine T_next ?_
            refine T_retc ?_
            refine T_outR ?_
            refine T_inR ?_
            refine T_outR ?_
            refine T_outR ?_
            refine T_inR ?_
            refine T_outR ?_
            refine T_none 0 1 ?_
            refine T_none 0 1 ?_
            have hE : amtE f l g r nodes = 2 := by (simp only [amtE]; rw [if_pos (by assumption), if_pos hall, if_neg (by rw [hC3, hfs]; simp [*])])
            have hE0 : amtE f l g r nodes ≠ 0 := by rw [hE]; first | assumption | decide
            have hL : amtLo f l g r nodes = 0 := by simp only [amtLo]; rw [if_neg hE0]
            have hH : amtHi f l g r nodes = 0 := by simp only [amtHi]; rw [if_neg hE0]
            refine T_retL (rs := [.cell 6 32, .cell 7 32, .tmp 8]) Try.results19 (.cell rfl (i := 4) rfl rfl agg32 (.cell rfl (i := 3) rfl rfl agg32 (.tmp rfl (.nil)))) (Ln := [.r none 0 0 0 1 [], .r none 0 0 0 1 []]) (⟨.r none 0 0 0 1 [], .r none 0 0 0 1 [], ⟨none, 0, 0, none, 0, 0, by rw [hL, hH, hE]; rfl, by rw [hL]; exact Has.nil, by rw [hH]; exact Has.nil⟩, rfl⟩) (loCons rfl (loCons rfl (loNil))) (.keep (.keep (.drop (.drop (.drop (.drop (.drop (.refl))))))))
          · refine T_valG rfl rfl rfl (Ev_field rfl fld26_1 rfl) rfl ?_
            refine T_valG rfl rfl rfl (Ev_load1 rfl (i := 3) rfl rfl one24) rfl ?_
            refine T_valG rfl rfl rfl (Ev_move rfl) rfl ?_
            obtain ⟨b32, o33, hA34, hp35⟩ := Has.elem ht (i := (nodes[i2]'(by omega)).toNat) (by omega)
            refine T_valG rfl rfl rfl (Ev_index rfl rfl hA34 (j := (nodes[i2]'(by omega)).toNat) (by omega) (by omega) slc24) rfl ?_
            refine T_valG rfl rfl rfl (Ev_field rfl fld41_0 rfl) rfl ?_
            refine T_valG rfl rfl rfl (Ev_loadP1 (d := 0) rfl hp35 (SubE.cons2 (i := 5) rfl (SubE.nil)) rfl one4) rfl ?_
            refine T_val (Ev_pickF rfl rfl) rfl ?_
            refine T_nil ?_
            refine T_next ?_
            refine T_caseB (s := 68) rfl (fun h36 => ?_) (fun h36 => ?_)
            · refine T_condT rfl ?_
              refine T_seq ?_
              refine T_reg ?_
              refine T_val (Ev_build rfl (bld32_)) rfl ?_
              refine T_val (Ev_build rfl (bld32_)) rfl ?_
              refine T_h (Wh_store rfl rfl rfl (.there (.there (.here))) (.put (.put (.put (.done)))) rfl (List.cons_ne_nil _ _) agg32.2 ?_)
              refine T_h (Wh_store rfl rfl rfl (.there (.here)) (.put (.put (.put (.done)))) rfl (List.cons_ne_nil _ _) agg32.2 ?_)
              refine T_val (Ev_assign rfl) rfl ?_
              refine T_nil ?_
              refine T_next ?_
              refine T_retc ?_
              refine T_outR ?_
              refine T_inR ?_
              refine T_outR ?_
              refine T_outR ?_
              refine T_inR ?_
              refine T_outR ?_
              refine T_none 0 1 ?_
              refine T_none 0 1 ?_
              have hE : amtE f l g r nodes = 2 := by (simp only [amtE]; rw [if_pos (by assumption), if_pos hall, if_neg (by rw [hC3, hfs]; simp [*])])
              have hE0 : amtE f l g r nodes ≠ 0 := by rw [hE]; first | assumption | decide
              have hL : amtLo f l g r nodes = 0 := by simp only [amtLo]; rw [if_neg hE0]
              have hH : amtHi f l g r nodes = 0 := by simp only [amtHi]; rw [if_neg hE0]
              refine T_retL (rs := [.cell 6 32, .cell 7 32, .tmp 8]) Try.results19 (.cell rfl (i := 4) rfl rfl agg32 (.cell rfl (i := 3) rfl rfl agg32 (.tmp rfl (.nil)))) (Ln := [.r none 0 0 0 1 [], .r none 0 0 0 1 []]) (⟨.r none 0 0 0 1 [], .r none 0 0 0 1 [], ⟨none, 0, 0, none, 0, 0, by rw [hL, hH, hE]; rfl, by rw [hL]; exact Has.nil, by rw [hH]; exact Has.nil⟩, rfl⟩) (loCons rfl (loCons rfl (loNil))) (.keep (.keep (.drop (.drop (.drop (.drop (.drop (.refl))))))))
            · refine T_condF rfl ?_
              refine T_skip ?_
              refine T_next ?_
              refine T_reg ?_
              refine T_val (Ev_move rfl) rfl ?_
              refine T_val (Ev_move rfl) rfl ?_
              refine T_rowH eB (seen) (i := 0) rfl (by decide) (fun _ => rfl) (fun hn41 hs42 => ?_)
              refine T_rowA (i := 0) rfl (by omega) (fun g43 hA39 => ?_)
              have hl44 : (nodes[i2]'(by omega)).toNat < (seen).length := by omega
              obtain ⟨b37, o38, hA39', hp40⟩ := Has.elem hs42 (i := (nodes[i2]'(by omega)).toNat) hl44
              obtain ⟨rfl, rfl⟩ : g43 = b37 ∧ 0 = o38 := by rw [hA39] at hA39'; simpa using hA39'
              refine T_val (Ev_index rfl rfl hA39 (j := (nodes[i2]'(by omega)).toNat) (by omega) (by omega) slc37) rfl ?_
              refine T_h (Wh_storeN eB (seen) (true) ((nodes[i2]'(by omega)).toNat) 1 rfl rfl rfl (.here) (by first | omega | simp; done | (simp; omega)) hA39 (by omega) (by omega) (fun _ _ => rfl) rfl (by decide) rfl one4.2 ?_)
              refine T_nil ?_
              refine T_inN ?_
              refine T_next ?_
              refine T_reg ?_
              refine T_val (Ev_addN (i2) (1) rfl rfl (by simp only [top]; omega)) rfl ?_
              refine T_val (Ev_move rfl) rfl ?_
              refine T_nil ?_
              refine T_round (σ := List Bool × Nat) (I := fun (seen, i2) => [(0, .agg #[.int .i64 (f.x0), .int .i64 (f.y0), .int .i64 (f.step), .int .i64 (f.nx), .int .i64 (f.ny), .slice (A) (n) (c)]), (1, .agg #[.int .i64 (g.x0), .int .i64 (g.y0), .int .i64 (g.step), .int .i64 (g.nx), .int .i64 (g.ny), .slice (B) (m) (d)]), (2, .slice (N) (p) (q)), (3, .pointer (some ⟨g1, 0, none⟩)), (4, .pointer (some ⟨g2, 0, none⟩)), (6, .pointer (some ⟨g3, 0, none⟩)), (7, .pointer (some ⟨g4, 0, none⟩)), (9, .int .i64 (pairE f (l) g (r))), (12, .slice (A12) (n) (n)), (15, .agg #[.int .i64 (f.x0), .int .i64 (f.y0), .int .i64 (f.step), .int .i64 (f.nx), .int .i64 (f.ny), .slice (A) (n) (c)]), (16, .agg #[.int .i64 (g.x0), .int .i64 (g.y0), .int .i64 (g.step), .int .i64 (g.nx), .int .i64 (g.ny), .slice (B) (m) (d)]), (17, .int .i64 (pairE f (l) g (r))), (18, .int .i64 (pairE f (l) g (r))), (19, .bool (false)), (23, .slice (N) (p) (q)), (24, .int .i64 (((p : Nat) : Int))), (25, .int .i64 (((k : Nat) : Int))), (26, .bool (false)), (39, .pointer (some ⟨g1, 5, none⟩)), (40, .slice (A) (n) (c)), (41, .int .i64 (((n : Nat) : Int))), (42, .slice (A12) (n) (n)), (43, .slice (N) (p) (q)), (44, .int .i64 (((p : Nat) : Int))), (45, .int .i64 (((i2 : Nat) : Int)))]) (H := fun (seen, i2) => [.r (A12) (n) (n) 4 1 ((seen).flatMap eB), .m g4 32 [.bool (false), .slice (none) (0) (0), .slice (none) (0) (0)], .m g3 32 [.bool (false), .slice (none) (0) (0), .slice (none) (0) (0)], .m g2 26 [.int .i64 (g.x0), .int .i64 (g.y0), .int .i64 (g.step), .int .i64 (g.nx), .int .i64 (g.ny), .slice (B) (m) (d)], .m g1 26 [.int .i64 (f.x0), .int .i64 (f.y0), .int .i64 (f.step), .int .i64 (f.nx), .int .i64 (f.ny), .slice (A) (n) (c)]] ++ [.old w]) (C := fun (seen, i2) => seen.length = n ∧ i2 ≤ p ∧ freeB l r (List.replicate l.length false) nodes = freeB l r seen (nodes.drop i2)) (μ := fun (seen, i2) => p - i2) (s := (seen, i2)) ((seen.set (nodes[i2]'(by omega)).toNat true, i2 + 1)) ?_ ?_ ?_ ?_
              · exact ⟨by simp [hC1], by omega, by rw [hC3, hfs]; simp [*]⟩
              · exact (show p - (i2 + 1) < p - i2 by omega)
              · exact .cons rfl (.cons rfl (.cons rfl (.cons rfl (.cons rfl (.cons rfl (.cons rfl (.cons rfl (.cons rfl (.cons rfl (.cons rfl (.cons rfl (.cons rfl (.cons rfl (.cons rfl (.cons rfl (.cons rfl (.cons rfl (.cons rfl (.cons rfl (.cons rfl (.cons rfl (.cons rfl (.cons rfl (.cons rfl (.nil)))))))))))))))))))))))))
              · exact .keep (.keep (.keep (.keep (.keep (.refl)))))
      · refine T_condF rfl ?_
        refine T_exit ?_
        refine T_outX ?_
        refine T_outX ?_
        refine T_here ?_
        refine T_next ?_
        refine T_seq ?_
        refine T_reg ?_
        refine T_val (Ev_loadK rfl (i := 4) rfl rfl agg26) rfl ?_
        refine T_val (Ev_loadK rfl (i := 3) rfl rfl agg26) rfl ?_
        refine T_val (Ev_move rfl) rfl ?_
        have hbd := cells_lo (cell_bd hpz.1) (cell_bd hpz.2.1) hin
        have hgr := good_of hvl.1
        have hst := mul_bd (a := f.step) (b := f.step) (A := 1000000) (B := 1000000) (by have := hgr.s1; omega) hgr.s2 (by have := hgr.s1; omega) hgr.s2
        refine T_x (Wx_call2 rfl (fun w1 hw1 => amount_ok f g hs ht hn (by omega) (by intro i hi; have := hin i hi; omega) (by exact hbd.1) (by exact hbd.2) (by omega) w1 (okAll (K := [.old w]) (by exact (SubE.cons2 (i := 5) rfl (SubE.nil))) hw1)) rfl ?_)
        rintro _ e45 e46 lo_e45 lo_e46 ⟨A47, k48, c49, A50, k51, c52, rfl, hs53, hs54⟩
        refine T_val (Ev_move rfl) rfl ?_
        refine T_val (Ev_extract rfl rfl) rfl ?_
        refine T_val (Ev_extract rfl rfl) rfl ?_
        refine T_h (Wh_store rfl rfl rfl (.there (.there (.there (.there (.here))))) (.put (.put (.put (.done)))) rfl (List.cons_ne_nil _ _) agg32.2 ?_)
        refine T_h (Wh_store rfl rfl rfl (.there (.there (.there (.here)))) (.put (.put (.put (.done)))) rfl (List.cons_ne_nil _ _) agg32.2 ?_)
        refine T_nil ?_
        refine T_next ?_
        refine T_seq ?_
        refine T_draw [1, 2, 3, 3, 2] [[], [], [0], [0, 1, 2], [0, 1, 2, 3]] (.q 0 (.e 1 (.e 2 (.e 3 (.e 4 (.done) (.stop)) (.stop)) (.stop)) (.e 2 (.e 1 (.e 3 (.e 4 (.done) (.stop)) (.stop)) (.stop)) (.stop)))) mixed (by kernel_rfl) (by kernel_rfl) ?_
        refine P_q rfl rfl (Ev_loadK rfl (i := 4) rfl rfl agg32) rfl ?_
        refine P_x rfl (Wx_val (Ev_loadK rfl (i := 3) rfl rfl agg32) rfl ?_) ?_
        · refine P_h rfl rfl (Wh_store rfl rfl rfl (.there (.there (.there (.there (.here))))) (.put (.put (.put (.done)))) rfl (List.cons_ne_nil _ _) agg32.2 ?_) ?_
          rotate_left; exact P_stop
          refine P_h rfl rfl (Wh_store rfl rfl rfl (.there (.there (.there (.here)))) (.put (.put (.put (.done)))) rfl (List.cons_ne_nil _ _) agg32.2 ?_) ?_
          rotate_left; exact P_stop
          refine P_x rfl (Wx_val (Ev_assign rfl) rfl ?_) ?_
          rotate_left; exact P_stop
          refine P_done ?_
          refine T_next ?_
          refine T_retc ?_
          have hE : amtE f l g r nodes = 0 := by (simp only [amtE]; rw [if_pos (by assumption), if_pos hall, if_pos (by rw [hC3, List.drop_eq_nil_of_le (by omega)]; rfl)])
          have hL : amtLo f l g r nodes = f.step * f.step * sumF (loF l r) nodes := by simp only [amtLo]; rw [if_pos hE]
          have hH : amtHi f l g r nodes = f.step * f.step * sumF (hiF l r) nodes := by simp only [amtHi]; rw [if_pos hE]
          refine T_retL (rs := [.cell 6 32, .cell 7 32, .tmp 8]) Try.results19 (.cell rfl (i := 4) rfl rfl agg32 (.cell rfl (i := 3) rfl rfl agg32 (.tmp rfl (.nil)))) (Ln := [e45, e46]) (⟨e45, e46, ⟨_, _, _, _, _, _, by rw [hL, hH, hE]; rfl, by rw [hL]; exact hs53.up (SubE.cons2 (i := 0) rfl (SubE.cons2 (i := 1) rfl SubE.nil)), by rw [hH]; exact hs54.up (SubE.cons2 (i := 0) rfl (SubE.cons2 (i := 1) rfl SubE.nil))⟩, rfl⟩) (loCons lo_e45 (loCons lo_e46 (loNil))) (.keep (.keep (.drop (.drop (.drop (.drop (.drop (.refl))))))))
        · refine P_h rfl rfl (Wh_store rfl rfl rfl (.there (.there (.there (.there (.here))))) (.put (.put (.put (.done)))) rfl (List.cons_ne_nil _ _) agg32.2 ?_) ?_
          rotate_left; exact P_stop
          refine P_x rfl (Wx_val (Ev_loadK rfl (i := 3) rfl rfl agg32) rfl ?_) ?_
          rotate_left; exact P_stop
          refine P_h rfl rfl (Wh_store rfl rfl rfl (.there (.there (.there (.here)))) (.put (.put (.put (.done)))) rfl (List.cons_ne_nil _ _) agg32.2 ?_) ?_
          rotate_left; exact P_stop
          refine P_x rfl (Wx_val (Ev_assign rfl) rfl ?_) ?_
          rotate_left; exact P_stop
          refine P_done ?_
          refine T_next ?_
          refine T_retc ?_
          have hE : amtE f l g r nodes = 0 := by (simp only [amtE]; rw [if_pos (by assumption), if_pos hall, if_pos (by rw [hC3, List.drop_eq_nil_of_le (by omega)]; rfl)])
          have hL : amtLo f l g r nodes = f.step * f.step * sumF (loF l r) nodes := by simp only [amtLo]; rw [if_pos hE]
          have hH : amtHi f l g r nodes = f.step * f.step * sumF (hiF l r) nodes := by simp only [amtHi]; rw [if_pos hE]
          refine T_retL (rs := [.cell 6 32, .cell 7 32, .tmp 8]) Try.results19 (.cell rfl (i := 4) rfl rfl agg32 (.cell rfl (i := 3) rfl rfl agg32 (.tmp rfl (.nil)))) (Ln := [e45, e46]) (⟨e45, e46, ⟨_, _, _, _, _, _, by rw [hL, hH, hE]; rfl, by rw [hL]; exact hs53.up (SubE.cons2 (i := 0) rfl (SubE.cons2 (i := 1) rfl SubE.nil)), by rw [hH]; exact hs54.up (SubE.cons2 (i := 0) rfl (SubE.cons2 (i := 1) rfl SubE.nil))⟩, rfl⟩) (loCons lo_e45 (loCons lo_e46 (loNil))) (.keep (.keep (.drop (.drop (.drop (.drop (.drop (.refl))))))))
set_option maxRecDepth 100000 in
theorem first_ok (w : World) : Ct Try.prog 18 [] w fun v => v = .bool true := by
  refine CtL.mk 63 Try.func18 rfl Try.ntmps18 (by kernel_rfl) rfl ?_
  refine T_seq ?_
  refine T_reg ?_
  refine T_val (Ev_assign rfl) rfl ?_
  refine T_nil ?_
  refine T_next ?_
  refine T_seq ?_
  refine T_reg ?_
  refine T_x (Wx_call rfl (fun w _ => known_ok _ _  w) rfl ?_)
  rintro _ rfl
  refine T_x (Wx_call rfl (fun w _ => known_ok _ _  w) rfl ?_)
  rintro _ rfl
  refine T_x (Wx_buildSlice rfl (bls24_2_0abi64i641abi64i64 _ _ _ _ _ _) rfl (fun g1 => ?_))
  refine T_x (Wx_call rfl (fun w _ => row_ok _ _ _  w) rfl ?_)
  rintro _ rfl
  refine T_x (Wx_call rfl (fun w _ => known_ok _ _  w) rfl ?_)
  rintro _ rfl
  refine T_x (Wx_call rfl (fun w _ => known_ok _ _  w) rfl ?_)
  rintro _ rfl
  refine T_x (Wx_buildSlice rfl (bls24_2_0abi64i641abi64i64 _ _ _ _ _ _) rfl (fun g2 => ?_))
  refine T_x (Wx_call rfl (fun w _ => row_ok _ _ _  w) rfl ?_)
  rintro _ rfl
  refine T_x (Wx_alloc zer26 rfl (fun g3 => ?_))
  refine T_x (Wx_alloc zer26 rfl (fun g4 => ?_))
  refine T_h (Wh_store rfl rfl rfl (.there (.here)) (.put (.put (.put (.put (.put (.put (.done))))))) rfl (List.cons_ne_nil _ _) agg26.2 ?_)
  refine T_h (Wh_store rfl rfl rfl (.here) (.put (.put (.put (.put (.put (.put (.done))))))) rfl (List.cons_ne_nil _ _) agg26.2 ?_)
  refine T_nil ?_
  refine T_next ?_
  refine T_seq ?_
  refine T_reg ?_
  refine T_val (Ev_loadK rfl (i := 1) rfl rfl agg26) rfl ?_
  refine T_val (Ev_loadK rfl (i := 0) rfl rfl agg26) rfl ?_
  have hs5 : Has [.m g1 41 [.bool (false), .int .i64 (1), .int .i64 (3), .bool (false), .int .i64 (0), .int .i64 (1)]] (some ⟨g1, 0, none⟩) 2 2 3 eC [⟨false, 1, 3⟩, ⟨false, 0, 1⟩] := Has.ofM (by simp [eC]) rfl (by decide) rfl
  have hs6 : Has [.m g2 41 [.bool (false), .int .i64 (4), .int .i64 (5), .bool (false), .int .i64 (5), .int .i64 (7)]] (some ⟨g2, 0, none⟩) 2 2 3 eC [⟨false, 4, 5⟩, ⟨false, 5, 7⟩] := Has.ofM (by simp [eC]) rfl (by decide) rfl
  refine T_x (Wx_call1 rfl (fun w1 hw1 => compare_ok ((⟨0, 0, 10, ((2 : Nat) : Int), 1⟩ : Raster)) ((⟨0, 0, 10, ((2 : Nat) : Int), 1⟩ : Raster)) (hs5.up (K := [.m g1 41 [.bool (false), .int .i64 (1), .int .i64 (3), .bool (false), .int .i64 (0), .int .i64 (1)]]) (L := [.m g1 41 [.bool (false), .int .i64 (1), .int .i64 (3), .bool (false), .int .i64 (0), .int .i64 (1)], .m g2 41 [.bool (false), .int .i64 (4), .int .i64 (5), .bool (false), .int .i64 (5), .int .i64 (7)]]) (SubE.cons2 (i := 0) rfl (SubE.nil))) (hs6.up (K := [.m g2 41 [.bool (false), .int .i64 (4), .int .i64 (5), .bool (false), .int .i64 (5), .int .i64 (7)]]) (L := [.m g1 41 [.bool (false), .int .i64 (1), .int .i64 (3), .bool (false), .int .i64 (0), .int .i64 (1)], .m g2 41 [.bool (false), .int .i64 (4), .int .i64 (5), .bool (false), .int .i64 (5), .int .i64 (7)]]) (SubE.cons2 (i := 1) rfl (SubE.nil)))  w1 (okAll (K := [.m g1 41 [.bool (false), .int .i64 (1), .int .i64 (3), .bool (false), .int .i64 (0), .int .i64 (1)], .m g2 41 [.bool (false), .int .i64 (4), .int .i64 (5), .bool (false), .int .i64 (5), .int .i64 (7)]]) (by exact (SubE.cons2 (i := 3) rfl (SubE.cons2 (i := 2) rfl (SubE.nil)))) hw1)) rfl ?_)
  rintro _ e7 lo_e7 ⟨A8, k9, c10, rfl, hs11⟩
  have hpe : pairE ((⟨0, 0, 10, ((2 : Nat) : Int), 1⟩ : Raster)) ([⟨false, 1, 3⟩, ⟨false, 0, 1⟩]) ((⟨0, 0, 10, ((2 : Nat) : Int), 1⟩ : Raster)) ([⟨false, 4, 5⟩, ⟨false, 5, 7⟩]) = 0 := by decide
  have hzp : List.zipWith stateI ([⟨false, 1, 3⟩, ⟨false, 0, 1⟩]) ([⟨false, 4, 5⟩, ⟨false, 5, 7⟩]) = [(1 : Int), 1] := by decide
  have hcmp := hs11
  rw [if_pos hpe, hzp] at hcmp
  refine T_slot (s := 19) (v' := .tuple #[.slice (A8) (k9) (c10), .int .i64 (0)]) rfl (by rw [hpe]) ?_
  have hq35 : k9 = 2 := hcmp.len.symm
  refine T_val (Ev_move rfl) rfl ?_
  refine T_val (Ev_extract rfl rfl) rfl ?_
  refine T_val (Ev_extract rfl rfl) rfl ?_
  refine T_val (Ev_assign rfl) rfl ?_
  refine T_val (Ev_assign rfl) rfl ?_
  refine T_nil ?_
  refine T_next ?_
  refine T_seq ?_
  refine T_reg ?_
  refine T_val (Ev_loadK rfl (i := 2) rfl rfl agg26) rfl ?_
  refine T_val (Ev_loadK rfl (i := 1) rfl rfl agg26) rfl ?_
  refine T_x (Wx_buildSlice rfl (bls27_1_0i64 _) rfl (fun g12 => ?_))
  have hs13 : Has [.m g1 41 [.bool (false), .int .i64 (1), .int .i64 (3), .bool (false), .int .i64 (0), .int .i64 (1)]] (some ⟨g1, 0, none⟩) 2 2 3 eC [⟨false, 1, 3⟩, ⟨false, 0, 1⟩] := Has.ofM (by simp [eC]) rfl (by decide) rfl
  have hs14 : Has [.m g2 41 [.bool (false), .int .i64 (4), .int .i64 (5), .bool (false), .int .i64 (5), .int .i64 (7)]] (some ⟨g2, 0, none⟩) 2 2 3 eC [⟨false, 4, 5⟩, ⟨false, 5, 7⟩] := Has.ofM (by simp [eC]) rfl (by decide) rfl
  have hs15 : Has [.m g12 3 [.int .i64 (1)]] (some ⟨g12, 0, none⟩) 1 1 1 eI [1] := Has.ofM (by simp [eI]) rfl (by decide) rfl
  refine T_x (Wx_call2 rfl (fun w1 hw1 => amt_ok ((⟨0, 0, 10, ((2 : Nat) : Int), 1⟩ : Raster)) ((⟨0, 0, 10, ((2 : Nat) : Int), 1⟩ : Raster)) (hs13.up (K := [.m g1 41 [.bool (false), .int .i64 (1), .int .i64 (3), .bool (false), .int .i64 (0), .int .i64 (1)]]) (L := [.m g1 41 [.bool (false), .int .i64 (1), .int .i64 (3), .bool (false), .int .i64 (0), .int .i64 (1)], .m g2 41 [.bool (false), .int .i64 (4), .int .i64 (5), .bool (false), .int .i64 (5), .int .i64 (7)], .m g12 3 [.int .i64 (1)]]) (SubE.cons2 (i := 0) rfl (SubE.nil))) (hs14.up (K := [.m g2 41 [.bool (false), .int .i64 (4), .int .i64 (5), .bool (false), .int .i64 (5), .int .i64 (7)]]) (L := [.m g1 41 [.bool (false), .int .i64 (1), .int .i64 (3), .bool (false), .int .i64 (0), .int .i64 (1)], .m g2 41 [.bool (false), .int .i64 (4), .int .i64 (5), .bool (false), .int .i64 (5), .int .i64 (7)], .m g12 3 [.int .i64 (1)]]) (SubE.cons2 (i := 1) rfl (SubE.nil))) (hs15.up (K := [.m g12 3 [.int .i64 (1)]]) (L := [.m g1 41 [.bool (false), .int .i64 (1), .int .i64 (3), .bool (false), .int .i64 (0), .int .i64 (1)], .m g2 41 [.bool (false), .int .i64 (4), .int .i64 (5), .bool (false), .int .i64 (5), .int .i64 (7)], .m g12 3 [.int .i64 (1)]]) (SubE.cons2 (i := 2) rfl (SubE.nil))) (by omega) w1 (okAll (K := [.m g1 41 [.bool (false), .int .i64 (1), .int .i64 (3), .bool (false), .int .i64 (0), .int .i64 (1)], .m g2 41 [.bool (false), .int .i64 (4), .int .i64 (5), .bool (false), .int .i64 (5), .int .i64 (7)], .m g12 3 [.int .i64 (1)]]) (by exact (SubE.cons2 (i := 5) rfl (SubE.cons2 (i := 4) rfl (SubE.cons2 (i := 0) rfl (SubE.nil))))) hw1)) rfl ?_)
  rintro _ e16 e17 lo_e16 lo_e17 ⟨A18, k19, c20, A21, k22, c23, rfl, hs24, hs25⟩
  have hL : amtLo ((⟨0, 0, 10, ((2 : Nat) : Int), 1⟩ : Raster)) ([⟨false, 1, 3⟩, ⟨false, 0, 1⟩]) ((⟨0, 0, 10, ((2 : Nat) : Int), 1⟩ : Raster)) ([⟨false, 4, 5⟩, ⟨false, 5, 7⟩]) ([1]) = 400 := by decide
  have hH : amtHi ((⟨0, 0, 10, ((2 : Nat) : Int), 1⟩ : Raster)) ([⟨false, 1, 3⟩, ⟨false, 0, 1⟩]) ((⟨0, 0, 10, ((2 : Nat) : Int), 1⟩ : Raster)) ([⟨false, 4, 5⟩, ⟨false, 5, 7⟩]) ([1]) = 700 := by decide
  have hE : amtE ((⟨0, 0, 10, ((2 : Nat) : Int), 1⟩ : Raster)) ([⟨false, 1, 3⟩, ⟨false, 0, 1⟩]) ((⟨0, 0, 10, ((2 : Nat) : Int), 1⟩ : Raster)) ([⟨false, 4, 5⟩, ⟨false, 5, 7⟩]) ([1]) = 0 := by decide
  have hlo4 := hs24
  rw [hL] at hlo4
  have hhi7 := hs25
  rw [hH] at hhi7
  refine T_slot (s := 26) (v' := .tuple #[.agg #[.bool (decide ((400 : Int) < 0)), .slice (A18) (k19) (c20), .slice (none) (0) (0)], .agg #[.bool (decide ((700 : Int) < 0)), .slice (A21) (k22) (c23), .slice (none) (0) (0)], .int .i64 (0)]) rfl (by rw [hL, hH, hE]) ?_
  refine T_val (Ev_move rfl) rfl ?_
  refine T_val (Ev_extract rfl rfl) rfl ?_
  refine T_val (Ev_extract rfl rfl) rfl ?_
  refine T_val (Ev_extract rfl rfl) rfl ?_
  refine T_x (Wx_alloc zer32 rfl (fun g26 => ?_))
  refine T_x (Wx_alloc zer32 rfl (fun g27 => ?_))
  refine T_h (Wh_store rfl rfl rfl (.there (.here)) (.put (.put (.put (.done)))) rfl (List.cons_ne_nil _ _) agg32.2 ?_)
  refine T_h (Wh_store rfl rfl rfl (.here) (.put (.put (.put (.done)))) rfl (List.cons_ne_nil _ _) agg32.2 ?_)
  refine T_val (Ev_assign rfl) rfl ?_
  refine T_nil ?_
  refine T_next ?_
  refine T_seq ?_
  refine T_draw [0, 0, 0, 0, 0, 0, 0, 0, 0, 0, 1, 0, 0, 0, 0, 0, 1, 0, 0, 0, 0, 0, 0, 0, 1, 2, 2, 0, 0, 1, 2, 2, 0, 2] [[], [0], [0, 1], [0, 1, 2], [0, 1, 2, 3], [0, 1, 2, 3, 4], [0, 1, 2, 3, 4, 5], [0, 1, 2, 3, 4, 5, 6], [0, 1, 2, 3, 4, 5, 6, 7], [0, 1, 2, 3, 4, 5, 6, 7, 8], [0, 1, 2, 3, 4, 5, 6, 7, 8, 9], [0, 1, 2, 3, 4, 5, 6, 7, 8, 9, 10], [0, 1, 2, 3, 4, 5, 6, 7, 8, 9, 10, 11], [0, 1, 2, 3, 4, 5, 6, 7, 8, 9, 10, 11, 12], [0, 1, 2, 3, 4, 5, 6, 7, 8, 9, 10, 11, 12, 13], [0, 1, 2, 3, 4, 5, 6, 7, 8, 9, 10, 11, 12, 13, 14], [0, 1, 2, 3, 4, 5, 6, 7, 8, 9, 10, 11, 12, 13, 14, 15], [0, 1, 2, 3, 4, 5, 6, 7, 8, 9, 10, 11, 12, 13, 14, 15, 16], [0, 1, 2, 3, 4, 5, 6, 7, 8, 9, 10, 11, 12, 13, 14, 15, 16, 17], [0, 1, 2, 3, 4, 5, 6, 7, 8, 9, 10, 11, 12, 13, 14, 15, 16, 17, 18], [0, 1, 2, 3, 4, 5, 6, 7, 8, 9, 10, 11, 12, 13, 14, 15, 16, 17, 18, 19], [0, 1, 2, 3, 4, 5, 6, 7, 8, 9, 10, 11, 12, 13, 14, 15, 16, 17, 18, 19, 20], [0, 1, 2, 3, 4, 5, 6, 7, 8, 9, 10, 11, 12, 13, 14, 15, 16, 17, 18, 19, 20, 21], [0, 1, 2, 3, 4, 5, 6, 7, 8, 9, 10, 11, 12, 13, 14, 15, 16, 17, 18, 19, 20, 21, 22], [0, 1, 2, 3, 4, 5, 6, 7, 8, 9, 10, 11, 12, 13, 14, 15, 16, 17, 18, 19, 20, 21, 22, 23], [0, 1, 2, 3, 4, 5, 6, 7, 8, 9, 10, 11, 12, 13, 14, 15, 16, 17, 18, 19, 20, 21, 22, 23], [0, 1, 2, 3, 4, 5, 6, 7, 8, 9, 10, 11, 12, 13, 14, 15, 16, 17, 18, 19, 20, 21, 22, 23, 24, 25], [0, 1, 2, 3, 4, 5, 6, 7, 8, 9, 10, 11, 12, 13, 14, 15, 16, 17, 18, 19, 20, 21, 22, 23, 24, 25, 26], [0, 1, 2, 3, 4, 5, 6, 7, 8, 9, 10, 11, 12, 13, 14, 15, 16, 17, 18, 19, 20, 21, 22, 23, 24, 25, 26, 27], [0, 1, 2, 3, 4, 5, 6, 7, 8, 9, 10, 11, 12, 13, 14, 15, 16, 17, 18, 19, 20, 21, 22, 23, 24, 25, 26, 27, 28], [0, 1, 2, 3, 4, 5, 6, 7, 8, 9, 10, 11, 12, 13, 14, 15, 16, 17, 18, 19, 20, 21, 22, 23, 24, 25, 26, 27, 28], [0, 1, 2, 3, 4, 5, 6, 7, 8, 9, 10, 11, 12, 13, 14, 15, 16, 17, 18, 19, 20, 21, 22, 23, 24, 25, 26, 27, 28, 29, 30], [0, 1, 2, 3, 4, 5, 6, 7, 8, 9, 10, 11, 12, 13, 14, 15, 16, 17, 18, 19, 20, 21, 22, 23, 24, 25, 26, 27, 28, 29, 30, 31], [0, 1, 2, 3, 4, 5, 6, 7, 8, 9, 10, 11, 12, 13, 14, 15, 16, 17, 18, 19, 20, 21, 22, 23, 24, 25, 26, 27, 28, 29, 30, 31, 32]] (.q 0 (.q 1 (.q 2 (.q 3 (.q 4 (.q 5 (.q 6 (.q 7 (.q 8 (.q 9 (.q 10 (.q 11 (.q 12 (.q 13 (.q 14 (.q 15 (.q 16 (.q 17 (.q 18 (.q 19 (.q 20 (.q 21 (.q 22 (.q 23 (.q 24 (.e 25 (.e 26 (.q 27 (.q 28 (.q 29 (.e 30 (.e 31 (.q 32 (.e 33 (.done) (.stop))) (.stop)) (.stop))))) (.stop)) (.stop))))))))))))))))))))))))))) mixed (by kernel_rfl) (by kernel_rfl) ?_
  refine P_p rfl rfl (Ev_move rfl) rfl ?_
  refine P_p rfl rfl (Ev_eql rfl rfl) rfl ?_
  refine P_p rfl rfl (Ev_move rfl) rfl ?_
  refine P_pG rfl rfl rfl rfl rfl (Ev_move rfl) rfl ?_
  refine P_pG rfl rfl rfl rfl rfl (Ev_len rfl 3 Try.underlying27) rfl ?_
  refine P_pG rfl rfl rfl rfl rfl (Ev_eql rfl rfl) rfl ?_
  refine P_p rfl rfl (Ev_pickT rfl rfl) rfl ?_
  refine P_p rfl rfl (Ev_move rfl) rfl ?_
  have hx28 : decide ((((k9 : Nat) : Int)) = (2)) = true := by first | (exact decide_eq_true (by omega))
  refine T_slot (s := 37) (v' := .bool true) rfl (by rw [hx28]) ?_
  refine P_pG rfl rfl rfl rfl rfl (Ev_move rfl) rfl ?_
  obtain ⟨b29, o30, hA31, hp32⟩ := Has.elem hcmp (i := 0) (by decide)
  refine P_pG rfl rfl rfl rfl rfl (Ev_index rfl rfl hA31 (j := 0) rfl (by omega) slc27) rfl ?_
  refine P_qG rfl rfl rfl rfl rfl (Ev_loadP0 rfl hp32 (SubE.cons2 (i := 5) rfl (SubE.nil)) rfl one3) rfl ?_
  refine P_pG rfl rfl rfl rfl rfl (Ev_eql rfl rfl) rfl ?_
  refine P_p rfl rfl (Ev_pickT rfl rfl) rfl ?_
  refine P_p rfl rfl (Ev_move rfl) rfl ?_
  have hx33 : decide ((([(1 : Int), 1])[0]) = (1)) = true := by first | (exact decide_eq_true (by rfl))
  refine T_slot (s := 43) (v' := .bool true) rfl (by rw [hx33]) ?_
  refine P_pG rfl rfl rfl rfl rfl (Ev_move rfl) rfl ?_
  obtain ⟨b34, o35, hA36, hp37⟩ := Has.elem hcmp (i := 1) (by decide)
  refine P_pG rfl rfl rfl rfl rfl (Ev_index rfl rfl hA36 (j := 1) rfl (by omega) slc27) rfl ?_
  refine P_qG rfl rfl rfl rfl rfl (Ev_loadP0 rfl hp37 (SubE.cons2 (i := 5) rfl (SubE.nil)) rfl one3) rfl ?_
  refine P_pG rfl rfl rfl rfl rfl (Ev_eql rfl rfl) rfl ?_
  refine P_p rfl rfl (Ev_pickT rfl rfl) rfl ?_
  refine P_p rfl rfl (Ev_move rfl) rfl ?_
  have hx38 : decide ((([(1 : Int), 1])[1]) = (1)) = true := by first | (exact decide_eq_true (by rfl))
  refine T_slot (s := 49) (v' := .bool true) rfl (by rw [hx38]) ?_
  refine P_pG rfl rfl rfl rfl rfl (Ev_move rfl) rfl ?_
  refine P_pG rfl rfl rfl rfl rfl (Ev_eql rfl rfl) rfl ?_
  refine P_p rfl rfl (Ev_pickT rfl rfl) rfl ?_
  refine P_p rfl rfl (Ev_move rfl) rfl ?_
  refine P_qG rfl rfl rfl rfl rfl (Ev_loadK rfl (i := 1) rfl rfl agg32) rfl ?_
  refine P_xG rfl rfl rfl rfl (Wx_call2 rfl (fun w _ => whole_ok (400) (by omega) (by omega) w) rfl ?_) ?_
  rotate_left; exact P_stop
  rintro _ e39 e40 lo_e39 lo_e40 ⟨A41, k42, c43, B44, m45, d46, rfl, hs47, ht48⟩
  have hq56 := hs47.len
  have hd56 := dig_len (b := 65536) (by omega) 4 (400 : Int).natAbs (by decide)
  refine P_xG rfl rfl rfl rfl (Wx_call rfl (fun w1 hw1 => same_ok  (hlo4.up (K := [e16, e17]) (L := [e16, e17, e39, e40]) (SubE.cons2 (i := 0) rfl (SubE.cons2 (i := 1) rfl (SubE.nil)))) (hs47.up (K := [e39, e40]) (L := [e16, e17, e39, e40]) (SubE.cons2 (i := 2) rfl (SubE.cons2 (i := 3) rfl (SubE.nil)))) (ht48.up (K := [e39, e40]) (L := [e16, e17, e39, e40]) (SubE.cons2 (i := 2) rfl (SubE.cons2 (i := 3) rfl (SubE.nil)))) (by omega) w1 (okAll (K := [e16, e17, e39, e40]) (by exact (SubE.cons2 (i := 4) rfl (SubE.cons2 (i := 5) rfl (SubE.cons2 (i := 0) rfl (SubE.cons2 (i := 1) rfl (SubE.nil)))))) hw1)) rfl ?_) ?_
  rotate_left; exact P_stop
  rintro _ rfl
  refine P_p rfl rfl (Ev_pickT rfl rfl) rfl ?_
  refine P_p rfl rfl (Ev_move rfl) rfl ?_
  refine P_qG rfl rfl rfl rfl rfl (Ev_loadK rfl (i := 2) rfl rfl agg32) rfl ?_
  refine P_xG rfl rfl rfl rfl (Wx_call2 rfl (fun w _ => whole_ok (700) (by omega) (by omega) w) rfl ?_) ?_
  rotate_left; exact P_stop
  rintro _ e49 e50 lo_e49 lo_e50 ⟨A51, k52, c53, B54, m55, d56, rfl, hs57, ht58⟩
  have hq61 := hs57.len
  have hd61 := dig_len (b := 65536) (by omega) 4 (700 : Int).natAbs (by decide)
  refine P_xG rfl rfl rfl rfl (Wx_call rfl (fun w1 hw1 => same_ok  (hhi7.up (K := [e16, e17]) (L := [e16, e17, e49, e50]) (SubE.cons2 (i := 0) rfl (SubE.cons2 (i := 1) rfl (SubE.nil)))) (hs57.up (K := [e49, e50]) (L := [e16, e17, e49, e50]) (SubE.cons2 (i := 2) rfl (SubE.cons2 (i := 3) rfl (SubE.nil)))) (ht58.up (K := [e49, e50]) (L := [e16, e17, e49, e50]) (SubE.cons2 (i := 2) rfl (SubE.cons2 (i := 3) rfl (SubE.nil)))) (by omega) w1 (okAll (K := [e16, e17, e49, e50]) (by exact (SubE.cons2 (i := 6) rfl (SubE.cons2 (i := 7) rfl (SubE.cons2 (i := 0) rfl (SubE.cons2 (i := 1) rfl (SubE.nil)))))) hw1)) rfl ?_) ?_
  rotate_left; exact P_stop
  rintro _ rfl
  refine P_p rfl rfl (Ev_pickT rfl rfl) rfl ?_
  refine P_x rfl (Wx_val (Ev_assign rfl) rfl ?_) ?_
  rotate_left; exact P_stop
  refine P_done ?_
  refine T_next ?_
  refine T_retc ?_
  refine T_retL (rs := [.tmp 0]) Try.results18 (.tmp rfl (.nil)) (Ln := []) (⟨by rfl, rfl⟩) (loNil) (.drop (.drop (.drop (.drop (.drop (.drop (.drop (.drop (.drop (.drop (.drop (.drop (.drop (.drop (.refl)))))))))))))))
set_option maxRecDepth 100000 in
theorem modelNodes_ok (f : Raster) (i : Int) (w : World) : Ct Try.prog 4 [.agg #[.int .i64 f.x0, .int .i64 f.y0, .int .i64 f.step, .int .i64 f.nx, .int .i64 f.ny], .int .i64 i] w fun v => v = .bool true := by
  refine CtL.mk 39 Try.func4 rfl Try.ntmps4 (by kernel_rfl) rfl ?_
  show T 39 _ [(0, .agg #[.int .i64 (f.x0), .int .i64 (f.y0), .int .i64 (f.step), .int .i64 (f.nx), .int .i64 (f.ny)]), (1, .int .i64 (i))] _
  refine T_seq ?_
  refine T_reg ?_
  refine T_x (Wx_box rfl rfl rfl (fun g1 => ?_))
  refine T_val (Ev_assign rfl) rfl ?_
  refine T_nil ?_
  refine T_next ?_
  refine T_seq ?_
  refine T_reg ?_
  refine T_val (Ev_loadK rfl (i := 0) rfl rfl agg23) rfl ?_
  refine T_val (Ev_move rfl) rfl ?_
  refine T_x (Wx_call rfl (fun w _ => nodeN_ok f _  w) rfl ?_)
  rintro _ rfl
  refine T_val (Ev_move rfl) rfl ?_
  refine T_val (Ev_extract rfl rfl) rfl ?_
  refine T_val (Ev_extract rfl rfl) rfl ?_
  refine T_x (Wx_alloc zer51 rfl (fun g2 => ?_))
  refine T_h (Wh_store rfl rfl rfl (.here) (.put (.put (.done))) rfl (List.cons_ne_nil _ _) agg51.2 ?_)
  refine T_val (Ev_assign rfl) rfl ?_
  refine T_nil ?_
  refine T_next ?_
  refine T_seq ?_
  refine T_reg ?_
  refine T_val (Ev_loadK rfl (i := 1) rfl rfl agg23) rfl ?_
  refine T_val (Ev_move rfl) rfl ?_
  refine T_x (Wx_call rfl (fun w _ => refNode_ok f _  w) rfl ?_)
  rintro _ rfl
  refine T_val (Ev_move rfl) rfl ?_
  refine T_val (Ev_extract rfl rfl) rfl ?_
  refine T_val (Ev_extract rfl rfl) rfl ?_
  refine T_x (Wx_alloc zer51 rfl (fun g3 => ?_))
  refine T_h (Wh_store rfl rfl rfl (.here) (.put (.put (.done))) rfl (List.cons_ne_nil _ _) agg51.2 ?_)
  refine T_val (Ev_assign rfl) rfl ?_
  refine T_nil ?_
  refine T_next ?_
  refine T_seq ?_
  refine T_draw [1, 2, 1, 2, 0, 0, 1, 1, 0, 0, 0, 0, 0, 0, 0, 0, 2, 0, 2] [[], [0], [], [0, 1, 2], [0, 1, 2, 3], [0, 1, 2, 3, 4], [0, 1, 2, 3, 4, 5], [0, 1, 2, 3, 4, 5], [0, 1, 2, 3, 4, 5, 6, 7], [0, 1, 2, 3, 4, 5, 6, 7, 8], [0, 1, 2, 3, 4, 5, 6, 7, 8, 9], [0, 1, 2, 3, 4, 5, 6, 7, 8, 9, 10], [0, 1, 2, 3, 4, 5, 6, 7, 8, 9, 10], [0, 1, 2, 3, 4, 5, 6, 7, 8, 9, 10, 11, 12], [0, 1, 2, 3, 4, 5, 6, 7, 8, 9, 10, 11, 12, 13], [0, 1, 2, 3, 4, 5, 6, 7, 8, 9, 10, 11, 12, 13, 14], [0, 1, 2, 3, 4, 5, 6, 7, 8, 9, 10, 11, 12, 13, 14, 15], [0, 1, 2, 3, 4, 5, 6, 7, 8, 9, 10, 11, 12, 13, 14, 15, 16], [0, 1, 2, 3, 4, 5, 6, 7, 8, 9, 10, 11, 12, 13, 14, 15, 16, 17]] (.q 0 (.q 2 (.e 1 (.e 3 (.q 4 (.q 5 (.q 6 (.q 7 (.q 8 (.q 9 (.q 10 (.q 11 (.q 12 (.q 13 (.q 14 (.q 15 (.e 16 (.q 17 (.e 18 (.done) (.stop))) (.stop)))))))))))))) (.stop)) (.stop)))) mixed (by kernel_rfl) (by kernel_rfl) ?_
  refine P_q rfl rfl (Ev_loadK rfl (i := 2) rfl rfl agg23) rfl ?_
  refine P_q rfl rfl (Ev_loadK rfl (i := 2) rfl rfl agg23) rfl ?_
  refine P_x rfl (Wx_call rfl (fun w _ => validRaster_ok f  w) rfl ?_) ?_
  rotate_left; exact P_stop
  rintro _ rfl
  refine P_x rfl (Wx_call rfl (fun w _ => refValidRaster_ok f  w) rfl ?_) ?_
  rotate_left; exact P_stop
  rintro _ rfl
  refine P_p rfl rfl (Ev_eqlB rfl rfl (by kernel_rfl)) rfl ?_
  refine P_p rfl rfl (Ev_move rfl) rfl ?_
  have hx4 : ((rasterB f) == (rasterB f)) = true := by simp
  refine T_slot (s := 26) (v' := .bool true) rfl (by rw [hx4]) ?_
  refine P_qG rfl rfl rfl rfl rfl (Ev_loadK rfl (i := 1) rfl rfl agg51) rfl ?_
  refine P_qG rfl rfl rfl rfl rfl (Ev_loadK rfl (i := 0) rfl rfl agg51) rfl ?_
  refine P_pG rfl rfl rfl rfl rfl (Ev_eqlS rfl rfl (by kernel_rfl) (seq51 _ _ _ _)) rfl ?_
  refine P_p rfl rfl (Ev_pickT rfl rfl) rfl ?_
  refine P_p rfl rfl (Ev_move rfl) rfl ?_
  have hx5 : ((((nodeX f (i)) == (nodeX f (i))) && (((nodeY f (i)) == (nodeY f (i))) && true))) = true := by simp
  refine T_slot (s := 31) (v' := .bool true) rfl (by rw [hx5]) ?_
  refine P_pG rfl rfl rfl rfl rfl (Ev_move rfl) rfl ?_
  refine P_pG rfl rfl rfl rfl rfl (Ev_move rfl) rfl ?_
  refine P_pG rfl rfl rfl rfl rfl (Ev_eql rfl rfl) rfl ?_
  refine P_p rfl rfl (Ev_pickT rfl rfl) rfl ?_
  refine P_p rfl rfl (Ev_move rfl) rfl ?_
  have hx6 : decide ((nodeE f (i)) = (nodeE f (i))) = true := by first | (exact decide_eq_true (by rfl))
  refine T_slot (s := 36) (v' := .bool true) rfl (by rw [hx6]) ?_
  refine P_xG rfl rfl rfl rfl (Wx_call rfl (fun w _ => first_ok   w) rfl ?_) ?_
  rotate_left; exact P_stop
  rintro _ rfl
  refine P_p rfl rfl (Ev_pickT rfl rfl) rfl ?_
  refine P_x rfl (Wx_val (Ev_assign rfl) rfl ?_) ?_
  rotate_left; exact P_stop
  refine P_done ?_
  refine T_next ?_
  refine T_retc ?_
  refine T_retL (rs := [.tmp 4]) Try.results4 (.tmp rfl (.nil)) (Ln := []) (⟨by first | rfl | simp [resVal], rfl⟩) (loNil) (.drop (.drop (.drop (.refl))))
end Go.Proofs.Ytjhknbpiaikblaa
