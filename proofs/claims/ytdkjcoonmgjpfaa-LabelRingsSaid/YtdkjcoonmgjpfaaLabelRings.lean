/- LabelRings returns true for any ring, any place and any number, and leaves them as they were. No conditions. -/
import Derived.Test.YtdkjcoonmgjpfaaX7
import Derived.Test.YtdkjcoonmgjpfaaRd
namespace Go.Proofs.Ytdkjcoonmgjpfaa
open Go Go.ChangeShapes Go.WideShapes Go.ChangeAt Go.RowKit
def ok_S_api_XY (x : S_api_XY) : Prop := rI64 x.X ∧ rI64 x.Y
theorem rd3 {H : Type} {enc : TypeId × Value → H} {w : World} {base : Nat} {spare : Nat → Bool} {held : Bool} {fuel : Nat} {cs : List Value} {x : DataW H × List MemPlace} (h : DataW.trod enc Try.prog w base spare held fuel 3 cs = some x) : ∃ (v : Int), cs = [.int .i64 (v)] ∧ rI64 v ∧ True := by
  obtain ⟨z, h1, h2⟩ := rd_i64 Try.underlying3 h
  exact ⟨z, h1, h2, trivial⟩
theorem rd24 {H : Type} {enc : TypeId × Value → H} {w : World} {base : Nat} {spare : Nat → Bool} {held : Bool} {fuel : Nat} {cs : List Value} {x : DataW H × List MemPlace} (h : DataW.trod enc Try.prog w base spare held fuel 24 cs = some x) : ∃ (v : S_api_XY), cs = [.int .i64 (v.X), .int .i64 (v.Y)] ∧ ok_S_api_XY v ∧ True := by
  obtain ⟨xs, n, _, _, hl, hlen, hf⟩ := DataW.trod_struct Try.underlying24 h
  have hlen' : xs.length = 2 := hlen
  have hl' : cs.length = 2 := hl.trans (by kernel_rfl)
  have h0 : DataW.trod enc Try.prog w base spare held n 3 (List.take (Try.prog.cellsOf 3) (List.drop 0 cs)) = xs[0]? := hf 0 _ rfl
  rw [show Try.prog.cellsOf 3 = 1 from by kernel_rfl, List.getElem?_eq_getElem (by omega)] at h0
  obtain ⟨v0, e0, o0, -⟩ := rd3 h0
  have h1 : DataW.trod enc Try.prog w base spare held n 3 (List.take (Try.prog.cellsOf 3) (List.drop 1 cs)) = xs[1]? := hf 1 _ rfl
  rw [show Try.prog.cellsOf 3 = 1 from by kernel_rfl, List.getElem?_eq_getElem (by omega)] at h1
  obtain ⟨v1, e1, o1, -⟩ := rd3 h1
  refine ⟨⟨v0, v1⟩, ?_, ⟨o0, o1⟩, trivial⟩
  have := sp_cons (o := 0) (o' := 1) e0 (sp_cons (o := 1) (o' := 2) e1 (sp_nil hl') rfl) rfl
  simpa using this
theorem rd22 {H : Type} {enc : TypeId × Value → H} {w : World} {base : Nat} {spare : Nat → Bool} {held : Bool} {fuel : Nat} {cs : List Value} {x : DataW H × List MemPlace} (h : DataW.trod enc Try.prog w base spare held fuel 22 cs = some x) : ∃ (v : List S_api_XY) (A0 : Option Addr) (c0 : Nat), cs = [.slice (A0) ((v).length) (c0)] ∧ Has [.old w] A0 (v).length c0 2 e_api_XY (v) ∧ (∀ z ∈ v, ok_S_api_XY z) ∧ True := by
  obtain ⟨v, A, c, h1, h2, h3⟩ := rd_slice (en := e_api_XY) (okα := ok_S_api_XY) Try.underlying22 (show Try.prog.cellsOf 24 = 2 from by kernel_rfl) (by decide) (fun h => by obtain ⟨v, h1, h2⟩ := rd24 h; exact ⟨v, h1, h2.1⟩) h
  exact ⟨v, A, c, h1, h2, h3, trivial⟩
theorem rd5 {H : Type} {enc : TypeId × Value → H} {w : World} {base : Nat} {spare : Nat → Bool} {held : Bool} {fuel : Nat} {cs : List Value} {x : DataW H × List MemPlace} (h : DataW.trod enc Try.prog w base spare held fuel 5 cs = some x) : ∃ (v : Int), cs = [.int .u8 (v)] ∧ rU8 v ∧ True := by
  obtain ⟨z, h1, h2⟩ := rd_u8 Try.underlying5 h
  exact ⟨z, h1, h2, trivial⟩
set_option maxRecDepth 100000 in
set_option maxHeartbeats 1000000 in
theorem labelRingsLifted (os : Os) (started : os.Started) (H : Type) (enc : TypeId × Value → H) :
    ReturnsInHanded {} Try.checked os 4 .any (Rows.labelRingsSpec.pre6 enc Try.prog Try.f4 Rows.labelRingsRow.domain false) (Rows.labelRingsSpec.post enc Try.prog Try.f4 false true false false) := by
  refine returnsInHanded_of_change (C := Try.checked) own2 started (by kernel_rfl) Try.func4
    (ChangeSpec.witness6 (enc := enc) (C := Try.checked) false ⟨#[], #[.slice (none) (0) (0), .agg #[.int .i64 (0), .int .i64 (0)], .int .u8 (0)], []⟩ 16 (by kernel_rfl) (by kernel_rfl) (by kernel_rfl) (by kernel_rfl)) ?_
  intro W base args ds gs before hval0 hW hcnd _
  have hval : ∀ (j : Nat) t v, Try.f4.params[j]? = some t → args[j]? = some v → Value.okWide Try.prog W .any base t v := hval0
  have hW' := hW
  obtain ⟨p, q, hA0, hV, rfl, hfz, hnd⟩ := hW
  have hA : DataW.TrodAll enc Try.prog W 0 (fun _ => true) true Try.f4.params.toList args.toList ds p := hA0
  rw [Try.params4] at hA hval
  obtain ⟨v0, vs0, d0, ds0, m0, q0, hargs, rfl, rfl, h0, r0⟩ := trodAll_cons hA
  obtain ⟨v1, vs1, d1, ds1, m1, q1, rfl, rfl, rfl, h1, r1⟩ := trodAll_cons r0
  obtain ⟨v2, vs2, d2, ds2, m2, q2, rfl, rfl, rfl, h2, r2⟩ := trodAll_cons r1
  obtain ⟨rfl, rfl, rfl⟩ := trodAll_nil r2
  obtain rfl : args = #[v0, v1, v2] := by cases args; simp_all
  obtain ⟨rfl, rfl⟩ := trodVars_none hV
  have k0 := h0
  have lt0 : ∀ x ∈ m0, x.block < W.heap.size := by obtain ⟨m, hm⟩ := k0; exact DataW.trod_lt m _ _ _ hm
  obtain ⟨fu0, hh0⟩ := h0
  obtain ⟨a0, A0_0, c0_0, e0, f0_0, o0, -⟩ := rd22 hh0
  obtain ⟨za0, zl0, zc0, rfl⟩ := okWide_slice Try.underlying22 (hval 0 22 v0 rfl rfl)
  obtain ⟨rfl, rfl, rfl⟩ : A0_0 = za0 ∧ (a0).length = zl0 ∧ c0_0 = zc0 := by simpa [Value.cells, eq_comm] using e0
  have k1 := h1
  have lt1 : ∀ x ∈ m1, x.block < W.heap.size := by obtain ⟨m, hm⟩ := k1; exact DataW.trod_lt m _ _ _ hm
  obtain ⟨fu1, hh1⟩ := h1
  obtain ⟨a1, e1, o1, -⟩ := rd24 hh1
  obtain ⟨⟨cs1⟩, rfl, _⟩ := okWide_struct Try.underlying24 (hval 1 24 v1 rfl rfl)
  have e1' : cs1 = _ := e1
  subst e1'
  have k2 := h2
  have lt2 : ∀ x ∈ m2, x.block < W.heap.size := by obtain ⟨m, hm⟩ := k2; exact DataW.trod_lt m _ _ _ hm
  obtain ⟨fu2, hh2⟩ := h2
  obtain ⟨a2, e2, o2, -⟩ := rd5 hh2
  obtain ⟨z2, rfl⟩ := okWide_int Try.underlying5 (hval 2 5 v2 rfl rfl)
  obtain rfl : a2 = z2 := (by simpa [Value.cells] using e2 : z2 = a2).symm
  clear hA0 hval0
  refine (lidarlaw07_LabelRings_ok a0 a1 a2 f0_0 ((fun _ _ _ _ _ o => labelRings_eq _ _ _ o.1 o.2) a0 a1 a2 o0 o1 o2) W (okOld W)).2.mono fun e W' hr => ?_
  obtain ⟨v, Ln, rfl, ⟨hv, rfl, -⟩, _, hh⟩ := hr
  subst hv
  have bel : Below W.heap.size W W' := hh.ok (.old W) (by simp)
  exact ⟨_, rfl, _, _, _, [], _, [], hW', trodAll_mk1 (shut_bool Try.underlying4 _), (trodAll_cons_mk (Below.trod laidOut2 (by kernel_rfl) (of_decide_eq_true (by kernel_rfl)) k0 bel lt0) (trodAll_cons_mk (Below.trod laidOut2 (by kernel_rfl) (of_decide_eq_true (by kernel_rfl)) k1 bel lt1) (trodAll_cons_mk (Below.trod laidOut2 (by kernel_rfl) (of_decide_eq_true (by kernel_rfl)) k2 bel lt2) trodAll_mk0))), rfl, bel.frame _, fun h => by cases h⟩
theorem labelRings_proved : Rows.LabelRingsSaid :=
  OpenClaim.holds_of_wide 4 Try.f4 rfl rfl rfl rfl rfl rfl rfl ⟨rfl, rfl, rfl, rfl, rfl⟩ rfl rfl rfl rfl rfl (by kernel_rfl) Try.func4 (by kernel_rfl)
    (of_decide_eq_true (by kernel_rfl)) (by unfold Func.isWrapper; first | (rw [if_pos (by decide +kernel)]; kernel_rfl) | (rw [if_neg (by decide +kernel)]; exact ⟨rfl, rfl⟩))
    (fun os started H enc _ => labelRingsLifted os started H enc)
#print axioms labelRings_proved
end Go.Proofs.Ytdkjcoonmgjpfaa
