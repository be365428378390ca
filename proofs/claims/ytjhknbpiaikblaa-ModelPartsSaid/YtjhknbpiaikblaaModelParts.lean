/- ModelParts returns true for any two grids and any few, and leaves them as they were. No conditions. -/
import Derived.Test.YtjhknbpiaikblaaT11
import Derived.Test.YtjhknbpiaikblaaRd
namespace Go.Proofs.Ytjhknbpiaikblaa
open Go Go.ChangeShapes Go.WideShapes Go.ChangeAt Go.RowKit
def ok_S_api_Raster (x : S_api_Raster) : Prop := rI64 x.X0 ∧ rI64 x.Y0 ∧ rI64 x.Step ∧ rI64 x.NX ∧ rI64 x.NY
def ok_S_api_Span (x : S_api_Span) : Prop := rI64 x.Lo ∧ rI64 x.Hi
def ok_S_api_Cell (x : S_api_Cell) : Prop := ok_S_api_Span x.Z
def ok_S_api_Grid (x : S_api_Grid) : Prop := ok_S_api_Raster x.Raster ∧ (∀ z ∈ x.Cells, ok_S_api_Cell z)
theorem rd3 {H : Type} {enc : TypeId × Value → H} {w : World} {base : Nat} {spare : Nat → Bool} {held : Bool} {fuel : Nat} {cs : List Value} {x : DataW H × List MemPlace} (h : DataW.trod enc Try.prog w base spare held fuel 3 cs = some x) : ∃ (v : Int), cs = [.int .i64 (v)] ∧ rI64 v ∧ True := by
  obtain ⟨z, h1, h2⟩ := rd_i64 Try.underlying3 h
  exact ⟨z, h1, h2, trivial⟩
theorem rd23 {H : Type} {enc : TypeId × Value → H} {w : World} {base : Nat} {spare : Nat → Bool} {held : Bool} {fuel : Nat} {cs : List Value} {x : DataW H × List MemPlace} (h : DataW.trod enc Try.prog w base spare held fuel 23 cs = some x) : ∃ (v : S_api_Raster), cs = [.int .i64 (v.X0), .int .i64 (v.Y0), .int .i64 (v.Step), .int .i64 (v.NX), .int .i64 (v.NY)] ∧ ok_S_api_Raster v ∧ True := by
  obtain ⟨xs, n, _, _, hl, hlen, hf⟩ := DataW.trod_struct Try.underlying23 h
  have hlen' : xs.length = 5 := hlen
  have hl' : cs.length = 5 := hl.trans (by kernel_rfl)
  have h0 : DataW.trod enc Try.prog w base spare held n 3 (List.take (Try.prog.cellsOf 3) (List.drop 0 cs)) = xs[0]? := hf 0 _ rfl
  rw [show Try.prog.cellsOf 3 = 1 from by kernel_rfl, List.getElem?_eq_getElem (by omega)] at h0
  obtain ⟨v0, e0, o0, -⟩ := rd3 h0
  have h1 : DataW.trod enc Try.prog w base spare held n 3 (List.take (Try.prog.cellsOf 3) (List.drop 1 cs)) = xs[1]? := hf 1 _ rfl
  rw [show Try.prog.cellsOf 3 = 1 from by kernel_rfl, List.getElem?_eq_getElem (by omega)] at h1
  obtain ⟨v1, e1, o1, -⟩ := rd3 h1
  have h2 : DataW.trod enc Try.prog w base spare held n 3 (List.take (Try.prog.cellsOf 3) (List.drop 2 cs)) = xs[2]? := hf 2 _ rfl
  rw [show Try.prog.cellsOf 3 = 1 from by kernel_rfl, List.getElem?_eq_getElem (by omega)] at h2
  obtain ⟨v2, e2, o2, -⟩ := rd3 h2
  have h3 : DataW.trod enc Try.prog w base spare held n 3 (List.take (Try.prog.cellsOf 3) (List.drop 3 cs)) = xs[3]? := hf 3 _ rfl
  rw [show Try.prog.cellsOf 3 = 1 from by kernel_rfl, List.getElem?_eq_getElem (by omega)] at h3
  obtain ⟨v3, e3, o3, -⟩ := rd3 h3
  have h4 : DataW.trod enc Try.prog w base spare held n 3 (List.take (Try.prog.cellsOf 3) (List.drop 4 cs)) = xs[4]? := hf 4 _ rfl
  rw [show Try.prog.cellsOf 3 = 1 from by kernel_rfl, List.getElem?_eq_getElem (by omega)] at h4
  obtain ⟨v4, e4, o4, -⟩ := rd3 h4
  refine ⟨⟨v0, v1, v2, v3, v4⟩, ?_, ⟨o0, o1, o2, o3, o4⟩, trivial⟩
  have := sp_cons (o := 0) (o' := 1) e0 (sp_cons (o := 1) (o' := 2) e1 (sp_cons (o := 2) (o' := 3) e2 (sp_cons (o := 3) (o' := 4) e3 (sp_cons (o := 4) (o' := 5) e4 (sp_nil hl') rfl) rfl) rfl) rfl) rfl
  simpa using this
theorem rd4 {H : Type} {enc : TypeId × Value → H} {w : World} {base : Nat} {spare : Nat → Bool} {held : Bool} {fuel : Nat} {cs : List Value} {x : DataW H × List MemPlace} (h : DataW.trod enc Try.prog w base spare held fuel 4 cs = some x) : ∃ (v : Bool), cs = [.bool (v)] ∧ True := by
  obtain ⟨z, h1⟩ := rd_bool Try.underlying4 h
  exact ⟨z, h1, trivial⟩
theorem rd39 {H : Type} {enc : TypeId × Value → H} {w : World} {base : Nat} {spare : Nat → Bool} {held : Bool} {fuel : Nat} {cs : List Value} {x : DataW H × List MemPlace} (h : DataW.trod enc Try.prog w base spare held fuel 39 cs = some x) : ∃ (v : S_api_Span), cs = [.int .i64 (v.Lo), .int .i64 (v.Hi)] ∧ ok_S_api_Span v ∧ True := by
  obtain ⟨xs, n, _, _, hl, hlen, hf⟩ := DataW.trod_struct Try.underlying39 h
  have hlen' : xs.length = 2 := hlen
  have hl' : cs.length = 2 := hl.trans (by kernel_rfl)
  have h0 : DataW.trod enc Try.prog w base spare held n 3 (List.take (Try.prog.cellsOf 3) (List.drop 0 cs)) = xs[0]? := hf 0 _ rfl
  rw [show Try.prog.cellsOf 3 = 1 from by kernel_rfl, List.getElem?_eq_getElem (by omega)] at h0
  obtain ⟨v0, e0, o0, -⟩ := rd3 h0
  have h1 : DataW.trod enc Try.prog w base spare held n 3 (List.take (Try.prog.cellsOf 3) (List.drop 1 cs)) = xs[1]? := hf 1 _ rfl
  rw [show Try.prog.cellsOf 3 = 1 from by kernel_rfl, List.getElem?_eq_getElem (by omega)] at h1
  obtain ⟨v1, e1, o1, -⟩ := rd3 h1
  refine ⟨⟨v0, v1⟩, ?_, ⟨o0, o1⟩, trivial⟩
  have := sp_cons (o := 0) (o' := 1) e0 (sp_cons (o := 1) (o' := 2) e1 (sp_nil hl') rfl) rfl
  simpa using this
theorem rd41 {H : Type} {enc : TypeId × Value → H} {w : World} {base : Nat} {spare : Nat → Bool} {held : Bool} {fuel : Nat} {cs : List Value} {x : DataW H × List MemPlace} (h : DataW.trod enc Try.prog w base spare held fuel 41 cs = some x) : ∃ (v : S_api_Cell), cs = [.bool (v.Void), .int .i64 (v.Z.Lo), .int .i64 (v.Z.Hi)] ∧ ok_S_api_Cell v ∧ True := by
  obtain ⟨xs, n, _, _, hl, hlen, hf⟩ := DataW.trod_struct Try.underlying41 h
  have hlen' : xs.length = 2 := hlen
  have hl' : cs.length = 3 := hl.trans (by kernel_rfl)
  have h0 : DataW.trod enc Try.prog w base spare held n 4 (List.take (Try.prog.cellsOf 4) (List.drop 0 cs)) = xs[0]? := hf 0 _ rfl
  rw [show Try.prog.cellsOf 4 = 1 from by kernel_rfl, List.getElem?_eq_getElem (by omega)] at h0
  obtain ⟨v0, e0, -⟩ := rd4 h0
  have h1 : DataW.trod enc Try.prog w base spare held n 39 (List.take (Try.prog.cellsOf 39) (List.drop 1 cs)) = xs[1]? := hf 1 _ rfl
  rw [show Try.prog.cellsOf 39 = 2 from by kernel_rfl, List.getElem?_eq_getElem (by omega)] at h1
  obtain ⟨v1, e1, o1, -⟩ := rd39 h1
  refine ⟨⟨v0, v1⟩, ?_, o1, trivial⟩
  have := sp_cons (o := 0) (o' := 1) e0 (sp_cons (o := 1) (o' := 3) e1 (sp_nil hl') rfl) rfl
  simpa using this
theorem rd24 {H : Type} {enc : TypeId × Value → H} {w : World} {base : Nat} {spare : Nat → Bool} {held : Bool} {fuel : Nat} {cs : List Value} {x : DataW H × List MemPlace} (h : DataW.trod enc Try.prog w base spare held fuel 24 cs = some x) : ∃ (v : List S_api_Cell) (A0 : Option Addr) (c0 : Nat), cs = [.slice (A0) ((v).length) (c0)] ∧ Has [.old w] A0 (v).length c0 3 e_api_Cell (v) ∧ (∀ z ∈ v, ok_S_api_Cell z) ∧ True := by
  obtain ⟨v, A, c, h1, h2, h3⟩ := rd_slice (en := e_api_Cell) (okα := ok_S_api_Cell) Try.underlying24 (show Try.prog.cellsOf 41 = 3 from by kernel_rfl) (by decide) (fun h => by obtain ⟨v, h1, h2⟩ := rd41 h; exact ⟨v, h1, h2.1⟩) h
  exact ⟨v, A, c, h1, h2, h3, trivial⟩
theorem rd26 {H : Type} {enc : TypeId × Value → H} {w : World} {base : Nat} {spare : Nat → Bool} {held : Bool} {fuel : Nat} {cs : List Value} {x : DataW H × List MemPlace} (h : DataW.trod enc Try.prog w base spare held fuel 26 cs = some x) : ∃ (v : S_api_Grid) (A0 : Option Addr) (c0 : Nat), cs = [.int .i64 (v.Raster.X0), .int .i64 (v.Raster.Y0), .int .i64 (v.Raster.Step), .int .i64 (v.Raster.NX), .int .i64 (v.Raster.NY), .slice (A0) ((v.Cells).length) (c0)] ∧ Has [.old w] A0 (v.Cells).length c0 3 e_api_Cell (v.Cells) ∧ ok_S_api_Grid v ∧ True := by
  obtain ⟨xs, n, _, _, hl, hlen, hf⟩ := DataW.trod_struct Try.underlying26 h
  have hlen' : xs.length = 2 := hlen
  have hl' : cs.length = 6 := hl.trans (by kernel_rfl)
  have h0 : DataW.trod enc Try.prog w base spare held n 23 (List.take (Try.prog.cellsOf 23) (List.drop 0 cs)) = xs[0]? := hf 0 _ rfl
  rw [show Try.prog.cellsOf 23 = 5 from by kernel_rfl, List.getElem?_eq_getElem (by omega)] at h0
  obtain ⟨v0, e0, o0, -⟩ := rd23 h0
  have h1 : DataW.trod enc Try.prog w base spare held n 24 (List.take (Try.prog.cellsOf 24) (List.drop 5 cs)) = xs[1]? := hf 1 _ rfl
  rw [show Try.prog.cellsOf 24 = 1 from by kernel_rfl, List.getElem?_eq_getElem (by omega)] at h1
  obtain ⟨v1, A1_0, c1_0, e1, f1_0, o1, -⟩ := rd24 h1
  refine ⟨⟨v0, v1⟩, A1_0, c1_0, ?_, f1_0, ⟨o0, o1⟩, trivial⟩
  have := sp_cons (o := 0) (o' := 5) e0 (sp_cons (o := 5) (o' := 6) e1 (sp_nil hl') rfl) rfl
  simpa using this
theorem rd5 {H : Type} {enc : TypeId × Value → H} {w : World} {base : Nat} {spare : Nat → Bool} {held : Bool} {fuel : Nat} {cs : List Value} {x : DataW H × List MemPlace} (h : DataW.trod enc Try.prog w base spare held fuel 5 cs = some x) : ∃ (v : Int), cs = [.int .u8 (v)] ∧ rU8 v ∧ True := by
  obtain ⟨z, h1, h2⟩ := rd_u8 Try.underlying5 h
  exact ⟨z, h1, h2, trivial⟩
set_option maxRecDepth 100000 in
set_option maxHeartbeats 1000000 in
theorem modelPartsLifted (os : Os) (started : os.Started) (H : Type) (enc : TypeId × Value → H) :
    ReturnsInHanded {} Try.checked os 15 .any (Rows.modelPartsSpec.pre6 enc Try.prog Try.f15 Rows.modelPartsRow.domain false) (Rows.modelPartsSpec.post enc Try.prog Try.f15 false true false false) := by
  refine returnsInHanded_of_change (C := Try.checked) own2 started (by kernel_rfl) Try.func15
    (ChangeSpec.witness6 (enc := enc) (C := Try.checked) false ⟨#[], #[.agg #[.int .i64 (0), .int .i64 (0), .int .i64 (0), .int .i64 (0), .int .i64 (0), .slice (none) (0) (0)], .agg #[.int .i64 (0), .int .i64 (0), .int .i64 (0), .int .i64 (0), .int .i64 (0), .slice (none) (0) (0)], .int .u8 (0)], []⟩ 16 (by kernel_rfl) (by kernel_rfl) (by kernel_rfl) (by kernel_rfl)) ?_
  intro W base args ds gs before hval0 hW hcnd _
  have hval : ∀ (j : Nat) t v, Try.f15.params[j]? = some t → args[j]? = some v → Value.okWide Try.prog W .any base t v := hval0
  have hW' := hW
  obtain ⟨p, q, hA0, hV, rfl, hfz, hnd⟩ := hW
  have hA : DataW.TrodAll enc Try.prog W 0 (fun _ => true) true Try.f15.params.toList args.toList ds p := hA0
  rw [Try.params15] at hA hval
  obtain ⟨v0, vs0, d0, ds0, m0, q0, hargs, rfl, rfl, h0, r0⟩ := trodAll_cons hA
  obtain ⟨v1, vs1, d1, ds1, m1, q1, rfl, rfl, rfl, h1, r1⟩ := trodAll_cons r0
  obtain ⟨v2, vs2, d2, ds2, m2, q2, rfl, rfl, rfl, h2, r2⟩ := trodAll_cons r1
  obtain ⟨rfl, rfl, rfl⟩ := trodAll_nil r2
  obtain rfl : args = #[v0, v1, v2] := by cases args; simp_all
  obtain ⟨rfl, rfl⟩ := trodVars_none hV
  have k0 := h0
  have lt0 : ∀ x ∈ m0, x.block < W.heap.size := by obtain ⟨m, hm⟩ := k0; exact DataW.trod_lt m _ _ _ hm
  obtain ⟨fu0, hh0⟩ := h0
  obtain ⟨a0, A0_0, c0_0, e0, f0_0, o0, -⟩ := rd26 hh0
  obtain ⟨⟨cs0⟩, rfl, _⟩ := okWide_struct Try.underlying26 (hval 0 26 v0 rfl rfl)
  have e0' : cs0 = _ := e0
  subst e0'
  have k1 := h1
  have lt1 : ∀ x ∈ m1, x.block < W.heap.size := by obtain ⟨m, hm⟩ := k1; exact DataW.trod_lt m _ _ _ hm
  obtain ⟨fu1, hh1⟩ := h1
  obtain ⟨a1, A1_0, c1_0, e1, f1_0, o1, -⟩ := rd26 hh1
  obtain ⟨⟨cs1⟩, rfl, _⟩ := okWide_struct Try.underlying26 (hval 1 26 v1 rfl rfl)
  have e1' : cs1 = _ := e1
  subst e1'
  have k2 := h2
  have lt2 : ∀ x ∈ m2, x.block < W.heap.size := by obtain ⟨m, hm⟩ := k2; exact DataW.trod_lt m _ _ _ hm
  obtain ⟨fu2, hh2⟩ := h2
  obtain ⟨a2, e2, o2, -⟩ := rd5 hh2
  obtain ⟨z2, rfl⟩ := okWide_int Try.underlying5 (hval 2 5 v2 rfl rfl)
  obtain rfl : a2 = z2 := (by simpa [Value.cells] using e2 : z2 = a2).symm
  clear hA0 hval0
  refine (lidarlaw09_ModelParts_ok a0 a1 a2 f0_0 f1_0 ((fun g h few _ _ hfew => modelParts_eq g h few hfew) a0 a1 a2 o0 o1 o2) W (okOld W)).2.mono fun e W' hr => ?_
  obtain ⟨v, Ln, rfl, ⟨hv, rfl, -⟩, _, hh⟩ := hr
  subst hv
  have bel : Below W.heap.size W W' := hh.ok (.old W) (by simp)
  exact ⟨_, rfl, _, _, _, [], _, [], hW', trodAll_mk1 (shut_bool Try.underlying4 _), (trodAll_cons_mk (Below.trod laidOut2 (by kernel_rfl) (of_decide_eq_true (by kernel_rfl)) k0 bel lt0) (trodAll_cons_mk (Below.trod laidOut2 (by kernel_rfl) (of_decide_eq_true (by kernel_rfl)) k1 bel lt1) (trodAll_cons_mk (Below.trod laidOut2 (by kernel_rfl) (of_decide_eq_true (by kernel_rfl)) k2 bel lt2) trodAll_mk0))), rfl, bel.frame _, fun h => by cases h⟩
theorem modelParts_proved : Rows.ModelPartsSaid :=
  OpenClaim.holds_of_wide 15 Try.f15 rfl rfl rfl rfl rfl rfl rfl ⟨rfl, rfl, rfl, rfl, rfl⟩ rfl rfl rfl rfl rfl (by kernel_rfl) Try.func15 (by kernel_rfl)
    (of_decide_eq_true (by kernel_rfl)) (by unfold Func.isWrapper; first | (rw [if_pos (by decide +kernel)]; kernel_rfl) | (rw [if_neg (by decide +kernel)]; exact ⟨rfl, rfl⟩))
    (fun os started H enc _ => modelPartsLifted os started H enc)
#print axioms modelParts_proved
end Go.Proofs.Ytjhknbpiaikblaa
