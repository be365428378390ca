/- What the arguments of a law are, read off the way a law's claim is told of them: rasters. -/
import Derived.Test.YtjhknbpiaikblaaWfirst
import Derived.ProofKit
import Derived.OpenShut
import Derived.ShutString
import Derived.ChangeOld
import Derived.Below
import Derived.Carry
import Derived.ChangeArms
namespace Go.Proofs.Ytjhknbpiaikblaa
open Go.ChangeShapes Go.WideShapes Go.ChangeAt Go.RowKit

theorem own : ownKnob Try.prog.godebug = none := by kernel_rfl
theorem laidOut : laidOutB Try.prog = true := by kernel_rfl

theorem array5 {α : Type} {cs : List α} (h : cs.length = 5) : ∃ c0 c1 c2 c3 c4, cs = [c0, c1, c2, c3, c4] := by
  match cs, h with
  | [c0, c1, c2, c3, c4], _ => exact ⟨c0, c1, c2, c3, c4, rfl⟩
section
variable {H : Type} {enc : TypeId × Value → H} {w : World} {base : Nat} {spare : Nat → Bool} {held : Bool}
theorem read_int {fuel : Nat} {c : Value} {x : Option (DataW H × List MemPlace)} (h : DataW.trod enc Try.prog w base spare held fuel 3 [c] = x) (hx : x.isSome = true) : ∃ z, c = .int .i64 z ∧ -9223372036854775808 ≤ z ∧ z ≤ 9223372036854775807 := by
  obtain ⟨y, rfl⟩ := Option.isSome_iff_exists.1 hx
  obtain ⟨n, hc, _, hw⟩ := DataW.trod_int Try.underlying3 h
  simp only [List.cons.injEq, and_true] at hc
  refine ⟨n, hc, ?_⟩
  have h1 : IntKind.i64.min = -9223372036854775808 := rfl
  have h2 : IntKind.i64.max = 9223372036854775807 := rfl
  simp only [Lit.wf, Bool.and_eq_true, decide_eq_true_eq] at hw
  omega
theorem read_raster {fuel : Nat} {cs : List Value} {x : DataW H × List MemPlace} (h : DataW.trod enc Try.prog w base spare held fuel 23 cs = some x) :
    ∃ f : Raster, cs = [.int .i64 f.x0, .int .i64 f.y0, .int .i64 f.step, .int .i64 f.nx, .int .i64 f.ny] := by
  obtain ⟨xs, n, _, _, hl, hlen, hf⟩ := DataW.trod_struct Try.underlying23 h
  obtain ⟨c0, c1, c2, c3, c4, rfl⟩ := array5 (hl.trans (by kernel_rfl))
  have hcl : Try.prog.cellsOf 3 = 1 := by kernel_rfl
  have h5 : xs.length = 5 := hlen
  have h0' : DataW.trod enc Try.prog w base spare held n 3 (List.take (Try.prog.cellsOf 3) (List.drop 0 [c0, c1, c2, c3, c4])) = xs[0]? := hf 0 _ rfl
  rw [hcl] at h0'
  obtain ⟨z0, rfl, _⟩ := read_int h0' (by rw [List.getElem?_eq_getElem (by omega)]; rfl)
  have h1' : DataW.trod enc Try.prog w base spare held n 3 (List.take (Try.prog.cellsOf 3) (List.drop 1 [.int .i64 z0, c1, c2, c3, c4])) = xs[1]? := hf 1 _ rfl
  rw [hcl] at h1'
  obtain ⟨z1, rfl, _⟩ := read_int h1' (by rw [List.getElem?_eq_getElem (by omega)]; rfl)
  have h2' : DataW.trod enc Try.prog w base spare held n 3 (List.take (Try.prog.cellsOf 3) (List.drop 2 [.int .i64 z0, .int .i64 z1, c2, c3, c4])) = xs[2]? := hf 2 _ rfl
  rw [hcl] at h2'
  obtain ⟨z2, rfl, _⟩ := read_int h2' (by rw [List.getElem?_eq_getElem (by omega)]; rfl)
  have h3' : DataW.trod enc Try.prog w base spare held n 3 (List.take (Try.prog.cellsOf 3) (List.drop 3 [.int .i64 z0, .int .i64 z1, .int .i64 z2, c3, c4])) = xs[3]? := hf 3 _ rfl
  rw [hcl] at h3'
  obtain ⟨z3, rfl, _⟩ := read_int h3' (by rw [List.getElem?_eq_getElem (by omega)]; rfl)
  have h4' : DataW.trod enc Try.prog w base spare held n 3 (List.take (Try.prog.cellsOf 3) (List.drop 4 [.int .i64 z0, .int .i64 z1, .int .i64 z2, .int .i64 z3, c4])) = xs[4]? := hf 4 _ rfl
  rw [hcl] at h4'
  obtain ⟨z4, rfl, _⟩ := read_int h4' (by rw [List.getElem?_eq_getElem (by omega)]; rfl)
  exact ⟨⟨z0, z1, z2, z3, z4⟩, rfl⟩
end
end Go.Proofs.Ytjhknbpiaikblaa
