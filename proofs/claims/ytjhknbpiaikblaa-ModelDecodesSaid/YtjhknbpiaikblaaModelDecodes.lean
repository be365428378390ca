/- ModelDecodes returns true for any bytes, and leaves them as they were. No conditions. -/
import Derived.Test.YtjhknbpiaikblaaP18
import Derived.Test.YtjhknbpiaikblaaRd
namespace Go.Proofs.Ytjhknbpiaikblaa
open Go Go.ChangeShapes Go.WideShapes Go.ChangeAt Go.RowKit
theorem rd5 {H : Type} {enc : TypeId × Value → H} {w : World} {base : Nat} {spare : Nat → Bool} {held : Bool} {fuel : Nat} {cs : List Value} {x : DataW H × List MemPlace} (h : DataW.trod enc Try.prog w base spare held fuel 5 cs = some x) : ∃ (v : Int), cs = [.int .u8 (v)] ∧ rU8 v ∧ True := by
  obtain ⟨z, h1, h2⟩ := rd_u8 Try.underlying5 h
  exact ⟨z, h1, h2, trivial⟩
theorem rd73 {H : Type} {enc : TypeId × Value → H} {w : World} {base : Nat} {spare : Nat → Bool} {held : Bool} {fuel : Nat} {cs : List Value} {x : DataW H × List MemPlace} (h : DataW.trod enc Try.prog w base spare held fuel 73 cs = some x) : ∃ (v : List Int) (A0 : Option Addr) (c0 : Nat), cs = [.slice (A0) ((v).length) (c0)] ∧ Has [.old w] A0 (v).length c0 1 e_u8 (v) ∧ (∀ z ∈ v, rU8 z) ∧ True := by
  obtain ⟨v, A, c, h1, h2, h3⟩ := rd_slice (en := e_u8) (okα := rU8) Try.underlying73 (show Try.prog.cellsOf 5 = 1 from by kernel_rfl) (by decide) (fun h => by obtain ⟨v, h1, h2⟩ := rd5 h; exact ⟨v, h1, h2.1⟩) h
  exact ⟨v, A, c, h1, h2, h3, trivial⟩
set_option maxRecDepth 100000 in
set_option maxHeartbeats 1000000 in
theorem modelDecodesLifted (os : Os) (started : os.Started) (H : Type) (enc : TypeId × Value → H) :
    ReturnsInHanded {} Try.checked os 11 .any (Rows.modelDecodesSpec.pre6 enc Try.prog Try.f11 Rows.modelDecodesRow.domain false) (Rows.modelDecodesSpec.post enc Try.prog Try.f11 false true false false) := by
  refine returnsInHanded_of_change (C := Try.checked) own2 started (by kernel_rfl) Try.func11
    (ChangeSpec.witness6 (enc := enc) (C := Try.checked) false ⟨#[], #[.slice (none) (0) (0)], []⟩ 16 (by kernel_rfl) (by kernel_rfl) (by kernel_rfl) (by kernel_rfl)) ?_
  intro W base args ds gs before hval0 hW hcnd _
  have hval : ∀ (j : Nat) t v, Try.f11.params[j]? = some t → args[j]? = some v → Value.okWide Try.prog W .any base t v := hval0
  have hW' := hW
  obtain ⟨p, q, hA0, hV, rfl, hfz, hnd⟩ := hW
  have hA : DataW.TrodAll enc Try.prog W 0 (fun _ => true) true Try.f11.params.toList args.toList ds p := hA0
  rw [Try.params11] at hA hval
  obtain ⟨v0, vs0, d0, ds0, m0, q0, hargs, rfl, rfl, h0, r0⟩ := trodAll_cons hA
  obtain ⟨rfl, rfl, rfl⟩ := trodAll_nil r0
  obtain rfl : args = #[v0] := by cases args; simp_all
  obtain ⟨rfl, rfl⟩ := trodVars_none hV
  have k0 := h0
  have lt0 : ∀ x ∈ m0, x.block < W.heap.size := by obtain ⟨m, hm⟩ := k0; exact DataW.trod_lt m _ _ _ hm
  obtain ⟨fu0, hh0⟩ := h0
  obtain ⟨a0, A0_0, c0_0, e0, f0_0, o0, -⟩ := rd73 hh0
  obtain ⟨za0, zl0, zc0, rfl⟩ := okWide_slice Try.underlying73 (hval 0 73 v0 rfl rfl)
  obtain ⟨rfl, rfl, rfl⟩ : A0_0 = za0 ∧ (a0).length = zl0 ∧ c0_0 = zc0 := by simpa [Value.cells, eq_comm] using e0
  clear hA0 hval0
  refine (lidarlaw09_ModelDecodes_ok a0 f0_0 ((fun (b : List Int) (hb : ∀ z ∈ b, rU8 z) => modelDecodes_eq b (fun x hx => by have := hb x hx; unfold rU8 at this; unfold isB; omega)) a0 o0) W (okOld W)).2.mono fun e W' hr => ?_
  obtain ⟨v, Ln, rfl, ⟨hv, rfl, -⟩, _, hh⟩ := hr
  subst hv
  have bel : Below W.heap.size W W' := hh.ok (.old W) (by simp)
  exact ⟨_, rfl, _, _, _, [], _, [], hW', trodAll_mk1 (shut_bool Try.underlying4 _), (trodAll_cons_mk (Below.trod laidOut2 (by kernel_rfl) (of_decide_eq_true (by kernel_rfl)) k0 bel lt0) trodAll_mk0), rfl, bel.frame _, fun h => by cases h⟩
theorem modelDecodes_proved : Rows.ModelDecodesSaid :=
  OpenClaim.holds_of_wide 11 Try.f11 rfl rfl rfl rfl rfl rfl rfl ⟨rfl, rfl, rfl, rfl, rfl⟩ rfl rfl rfl rfl rfl (by kernel_rfl) Try.func11 (by kernel_rfl)
    (of_decide_eq_true (by kernel_rfl)) (by unfold Func.isWrapper; first | (rw [if_pos (by decide +kernel)]; kernel_rfl) | (rw [if_neg (by decide +kernel)]; exact ⟨rfl, rfl⟩))
    (fun os started H enc _ => modelDecodesLifted os started H enc)
#print axioms modelDecodes_proved
end Go.Proofs.Ytjhknbpiaikblaa
