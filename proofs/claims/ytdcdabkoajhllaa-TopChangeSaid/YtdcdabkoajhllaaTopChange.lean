/- TopChange returns true for any survey, numbers and moves, and leaves them as they were. No conditions. -/
import Derived.Test.YtdcdabkoajhllaaKT
import Derived.Test.YtdcdabkoajhllaaRd
namespace Go.Proofs.Ytdcdabkoajhllaa
open Go Go.ChangeShapes Go.WideShapes Go.ChangeAt Go.RowKit
def ok_S_api_Raster (x : S_api_Raster) : Prop := rI64 x.X0 ∧ rI64 x.Y0 ∧ rI64 x.Step ∧ rI64 x.NX ∧ rI64 x.NY
def ok_S_api_Span (x : S_api_Span) : Prop := rI64 x.Lo ∧ rI64 x.Hi
def ok_S_api_Cell (x : S_api_Cell) : Prop := ok_S_api_Span x.Z
def ok_S_api_Grid (x : S_api_Grid) : Prop := ok_S_api_Raster x.Raster ∧ (∀ z ∈ x.Cells, ok_S_api_Cell z)
def ok_S_lidartop_Change (x : S_lidartop_Change) : Prop := ok_S_api_Grid x.G ∧ rU32 x.Part ∧ rU32 x.More ∧ rU16 x.Voids ∧ (∀ z ∈ x.Moved, rI16 z) ∧ rU8 x.Few
theorem rd3 {H : Type} {enc : TypeId × Value → H} {w : World} {base : Nat} {spare : Nat → Bool} {held : Bool} {fuel : Nat} {cs : List Value} {x : DataW H × List MemPlace} (h : DataW.trod enc Try.prog w base spare held fuel 3 cs = some x) : ∃ (v : Int), cs = [.int .i64 (v)] ∧ rI64 v ∧ True := by
  obtain ⟨z, h1, h2⟩ := rd_i64 Try.underlying3 h
  exact ⟨z, h1, h2, trivial⟩
theorem rd23 {H : Type} {enc : TypeId × Value → H} {w : World} {base : Nat} {spare : Nat → Bool} {held : Bool} {fuel : Nat} {cs : List Value} {x : DataW H × List MemPlace} (h : DataW.trod enc Try.prog w base spare held fuel 23 cs = some x) : ∃ (v : S_api_Raster), cs = [.int .i64 (v.X0), .int .i64 (v.Y0), .int .i64 (v.Step), .int .i64 (v.NX), .int .i64 (v.NY)] ∧ ok_S_api_Raster v ∧ True := by
  obtain ⟨xs, n, _, _, hl, hlen, hf⟩ := DataW.trod_struct Try.underlying23 h
  have hlen' : xs.length = 5 := hlen
  have hl' : cs.length = 5 := hl.trans (by kernel_rfl)
  have h0 : DataW.trod enc Try.prog w base spare held n 3 (List.take (Try.prog.cellsOf 3) (List.drop 0 cs)) = xs[0]? := hf 0 _ rfl
  rw [show Try.prog.cellsOf 3 = 1 from by kernel_rfl, List.getElem?_eq_getElem (by omega)] at h0
  obtain ⟨v0, e0, o0, -⟩ := rd3 h0
  have h1 : DataW.trod enc Try.prog w base spare held n 3 (List.take (Try.prog.cellsOf 3) (List.drop 1 cs)) = xs[1]? := hf 1 _ rfl
  rw [show Try.prog.cellsOf 3 = 1 from by kernel_rfl, List.getElem?_eq_getElem (by omega)] at h1
  obtain ⟨v1, e1, o1, -⟩ := rd3 h1
  have h2 : DataW.trod enc Try.prog w base spare held n 3 (List.take (Try.prog.cellsOf 3) (List.drop 2 cs)) = xs[2]? := hf 2 _ rfl
  rw [show Try.prog.cellsOf 3 = 1 from by kernel_rfl, List.getElem?_eq_getElem (by omega)] at h2
  obtain ⟨v2, e2, o2, -⟩ := rd3 h2
  have h3 : DataW.trod enc Try.prog w base spare held n 3 (List.take (Try.prog.cellsOf 3) (List.drop 3 cs)) = xs[3]? := hf 3 _ rfl
  rw [show Try.prog.cellsOf 3 = 1 from by kernel_rfl, List.getElem?_eq_getElem (by omega)] at h3
  obtain ⟨v3, e3, o3, -⟩ := rd3 h3
  have h4 : DataW.trod enc Try.prog w base spare held n 3 (List.take (Try.prog.cellsOf 3) (List.drop 4 cs)) = xs[4]? := hf 4 _ rfl
  rw [show Try.prog.cellsOf 3 = 1 from by kernel_rfl, List.getElem?_eq_getElem (by omega)] at h4
  obtain ⟨v4, e4, o4, -⟩ := rd3 h4
  refine ⟨⟨v0, v1, v2, v3, v4⟩, ?_, ⟨o0, o1, o2, o3, o4⟩, trivial⟩
  have := sp_cons (o := 0) (o' := 1) e0 (sp_cons (o := 1) (o' := 2) e1 (sp_cons (o := 2) (o' := 3) e2 (sp_cons (o := 3) (o' := 4) e3 (sp_cons (o := 4) (o' := 5) e4 (sp_nil hl') rfl) rfl) rfl) rfl) rfl
  simpa using this
theorem rd4 {H : Type} {enc : TypeId × Value → H} {w : World} {base : Nat} {spare : Nat → Bool} {held : Bool} {fuel : Nat} {cs : List Value} {x : DataW H × List MemPlace} (h : DataW.trod enc Try.prog w base spare held fuel 4 cs = some x) : ∃ (v : Bool), cs = [.bool (v)] ∧ True := by
  obtain ⟨z, h1⟩ := rd_bool Try.underlying4 h
  exact ⟨z, h1, trivial⟩
theorem rd37 {H : Type} {enc : TypeId × Value → H} {w : World} {base : Nat} {spare : Nat → Bool} {held : Bool} {fuel : Nat} {cs : List Value} {x : DataW H × List MemPlace} (h : DataW.trod enc Try.prog w base spare held fuel 37 cs = some x) : ∃ (v : S_api_Span), cs = [.int .i64 (v.Lo), .int .i64 (v.Hi)] ∧ ok_S_api_Span v ∧ True := by
  obtain ⟨xs, n, _, _, hl, hlen, hf⟩ := DataW.trod_struct Try.underlying37 h
  have hlen' : xs.length = 2 := hlen
  have hl' : cs.length = 2 := hl.trans (by kernel_rfl)
  have h0 : DataW.trod enc Try.prog w base spare held n 3 (List.take (Try.prog.cellsOf 3) (List.drop 0 cs)) = xs[0]? := hf 0 _ rfl
  rw [show Try.prog.cellsOf 3 = 1 from by kernel_rfl, List.getElem?_eq_getElem (by omega)] at h0
  obtain ⟨v0, e0, o0, -⟩ := rd3 h0
  have h1 : DataW.trod enc Try.prog w base spare held n 3 (List.take (Try.prog.cellsOf 3) (List.drop 1 cs)) = xs[1]? := hf 1 _ rfl
  rw [show Try.prog.cellsOf 3 = 1 from by kernel_rfl, List.getElem?_eq_getElem (by omega)] at h1
  obtain ⟨v1, e1, o1, -⟩ := rd3 h1
  refine ⟨⟨v0, v1⟩, ?_, ⟨o0, o1⟩, trivial⟩
  have := sp_cons (o := 0) (o' := 1) e0 (sp_cons (o := 1) (o' := 2) e1 (sp_nil hl') rfl) rfl
  simpa using this
theorem rd39 {H : Type} {enc : TypeId × Value → H} {w : World} {base : Nat} {spare : Nat → Bool} {held : Bool} {fuel : Nat} {cs : List Value} {x : DataW H × List MemPlace} (h : DataW.trod enc Try.prog w base spare held fuel 39 cs = some x) : ∃ (v : S_api_Cell), cs = [.bool (v.Void), .int .i64 (v.Z.Lo), .int .i64 (v.Z.Hi)] ∧ ok_S_api_Cell v ∧ True := by
  obtain ⟨xs, n, _, _, hl, hlen, hf⟩ := DataW.trod_struct Try.underlying39 h
  have hlen' : xs.length = 2 := hlen
  have hl' : cs.length = 3 := hl.trans (by kernel_rfl)
  have h0 : DataW.trod enc Try.prog w base spare held n 4 (List.take (Try.prog.cellsOf 4) (List.drop 0 cs)) = xs[0]? := hf 0 _ rfl
  rw [show Try.prog.cellsOf 4 = 1 from by kernel_rfl, List.getElem?_eq_getElem (by omega)] at h0
  obtain ⟨v0, e0, -⟩ := rd4 h0
  have h1 : DataW.trod enc Try.prog w base spare held n 37 (List.take (Try.prog.cellsOf 37) (List.drop 1 cs)) = xs[1]? := hf 1 _ rfl
  rw [show Try.prog.cellsOf 37 = 2 from by kernel_rfl, List.getElem?_eq_getElem (by omega)] at h1
  obtain ⟨v1, e1, o1, -⟩ := rd37 h1
  refine ⟨⟨v0, v1⟩, ?_, o1, trivial⟩
  have := sp_cons (o := 0) (o' := 1) e0 (sp_cons (o := 1) (o' := 3) e1 (sp_nil hl') rfl) rfl
  simpa using this
theorem rd24 {H : Type} {enc : TypeId × Value → H} {w : World} {base : Nat} {spare : Nat → Bool} {held : Bool} {fuel : Nat} {cs : List Value} {x : DataW H × List MemPlace} (h : DataW.trod enc Try.prog w base spare held fuel 24 cs = some x) : ∃ (v : List S_api_Cell) (A0 : Option Addr) (c0 : Nat), cs = [.slice (A0) ((v).length) (c0)] ∧ Has [.old w] A0 (v).length c0 3 e_api_Cell (v) ∧ (∀ z ∈ v, ok_S_api_Cell z) ∧ True := by
  obtain ⟨v, A, c, h1, h2, h3⟩ := rd_slice (en := e_api_Cell) (okα := ok_S_api_Cell) Try.underlying24 (show Try.prog.cellsOf 39 = 3 from by kernel_rfl) (by decide) (fun h => by obtain ⟨v, h1, h2⟩ := rd39 h; exact ⟨v, h1, h2.1⟩) h
  exact ⟨v, A, c, h1, h2, h3, trivial⟩
theorem rd26 {H : Type} {enc : TypeId × Value → H} {w : World} {base : Nat} {spare : Nat → Bool} {held : Bool} {fuel : Nat} {cs : List Value} {x : DataW H × List MemPlace} (h : DataW.trod enc Try.prog w base spare held fuel 26 cs = some x) : ∃ (v : S_api_Grid) (A0 : Option Addr) (c0 : Nat), cs = [.int .i64 (v.Raster.X0), .int .i64 (v.Raster.Y0), .int .i64 (v.Raster.Step), .int .i64 (v.Raster.NX), .int .i64 (v.Raster.NY), .slice (A0) ((v.Cells).length) (c0)] ∧ Has [.old w] A0 (v.Cells).length c0 3 e_api_Cell (v.Cells) ∧ ok_S_api_Grid v ∧ True := by
  obtain ⟨xs, n, _, _, hl, hlen, hf⟩ := DataW.trod_struct Try.underlying26 h
  have hlen' : xs.length = 2 := hlen
  have hl' : cs.length = 6 := hl.trans (by kernel_rfl)
  have h0 : DataW.trod enc Try.prog w base spare held n 23 (List.take (Try.prog.cellsOf 23) (List.drop 0 cs)) = xs[0]? := hf 0 _ rfl
  rw [show Try.prog.cellsOf 23 = 5 from by kernel_rfl, List.getElem?_eq_getElem (by omega)] at h0
  obtain ⟨v0, e0, o0, -⟩ := rd23 h0
  have h1 : DataW.trod enc Try.prog w base spare held n 24 (List.take (Try.prog.cellsOf 24) (List.drop 5 cs)) = xs[1]? := hf 1 _ rfl
  rw [show Try.prog.cellsOf 24 = 1 from by kernel_rfl, List.getElem?_eq_getElem (by omega)] at h1
  obtain ⟨v1, A1_0, c1_0, e1, f1_0, o1, -⟩ := rd24 h1
  refine ⟨⟨v0, v1⟩, A1_0, c1_0, ?_, f1_0, ⟨o0, o1⟩, trivial⟩
  have := sp_cons (o := 0) (o' := 5) e0 (sp_cons (o := 5) (o' := 6) e1 (sp_nil hl') rfl) rfl
  simpa using this
theorem rd27 {H : Type} {enc : TypeId × Value → H} {w : World} {base : Nat} {spare : Nat → Bool} {held : Bool} {fuel : Nat} {cs : List Value} {x : DataW H × List MemPlace} (h : DataW.trod enc Try.prog w base spare held fuel 27 cs = some x) : ∃ (v : Int), cs = [.int .u32 (v)] ∧ rU32 v ∧ True := by
  obtain ⟨z, h1, h2⟩ := rd_u32 Try.underlying27 h
  exact ⟨z, h1, h2, trivial⟩
theorem rd28 {H : Type} {enc : TypeId × Value → H} {w : World} {base : Nat} {spare : Nat → Bool} {held : Bool} {fuel : Nat} {cs : List Value} {x : DataW H × List MemPlace} (h : DataW.trod enc Try.prog w base spare held fuel 28 cs = some x) : ∃ (v : Int), cs = [.int .u16 (v)] ∧ rU16 v ∧ True := by
  obtain ⟨z, h1, h2⟩ := rd_u16 Try.underlying28 h
  exact ⟨z, h1, h2, trivial⟩
theorem rd40 {H : Type} {enc : TypeId × Value → H} {w : World} {base : Nat} {spare : Nat → Bool} {held : Bool} {fuel : Nat} {cs : List Value} {x : DataW H × List MemPlace} (h : DataW.trod enc Try.prog w base spare held fuel 40 cs = some x) : ∃ (v : Int), cs = [.int .i16 (v)] ∧ rI16 v ∧ True := by
  obtain ⟨z, h1, h2⟩ := rd_i16 Try.underlying40 h
  exact ⟨z, h1, h2, trivial⟩
theorem rd29 {H : Type} {enc : TypeId × Value → H} {w : World} {base : Nat} {spare : Nat → Bool} {held : Bool} {fuel : Nat} {cs : List Value} {x : DataW H × List MemPlace} (h : DataW.trod enc Try.prog w base spare held fuel 29 cs = some x) : ∃ (v : List Int) (A0 : Option Addr) (c0 : Nat), cs = [.slice (A0) ((v).length) (c0)] ∧ Has [.old w] A0 (v).length c0 1 e_i16 (v) ∧ (∀ z ∈ v, rI16 z) ∧ True := by
  obtain ⟨v, A, c, h1, h2, h3⟩ := rd_slice (en := e_i16) (okα := rI16) Try.underlying29 (show Try.prog.cellsOf 40 = 1 from by kernel_rfl) (by decide) (fun h => by obtain ⟨v, h1, h2⟩ := rd40 h; exact ⟨v, h1, h2.1⟩) h
  exact ⟨v, A, c, h1, h2, h3, trivial⟩
theorem rd5 {H : Type} {enc : TypeId × Value → H} {w : World} {base : Nat} {spare : Nat → Bool} {held : Bool} {fuel : Nat} {cs : List Value} {x : DataW H × List MemPlace} (h : DataW.trod enc Try.prog w base spare held fuel 5 cs = some x) : ∃ (v : Int), cs = [.int .u8 (v)] ∧ rU8 v ∧ True := by
  obtain ⟨z, h1, h2⟩ := rd_u8 Try.underlying5 h
  exact ⟨z, h1, h2, trivial⟩
theorem rd31 {H : Type} {enc : TypeId × Value → H} {w : World} {base : Nat} {spare : Nat → Bool} {held : Bool} {fuel : Nat} {cs : List Value} {x : DataW H × List MemPlace} (h : DataW.trod enc Try.prog w base spare held fuel 31 cs = some x) : ∃ (v : S_lidartop_Change) (A0 : Option Addr) (c0 : Nat) (A1 : Option Addr) (c1 : Nat), cs = [.int .i64 (v.G.Raster.X0), .int .i64 (v.G.Raster.Y0), .int .i64 (v.G.Raster.Step), .int .i64 (v.G.Raster.NX), .int .i64 (v.G.Raster.NY), .slice (A0) ((v.G.Cells).length) (c0), .int .u32 (v.Part), .int .u32 (v.More), .int .u16 (v.Voids), .slice (A1) ((v.Moved).length) (c1), .int .u8 (v.Few)] ∧ Has [.old w] A0 (v.G.Cells).length c0 3 e_api_Cell (v.G.Cells) ∧ Has [.old w] A1 (v.Moved).length c1 1 e_i16 (v.Moved) ∧ ok_S_lidartop_Change v ∧ True := by
  obtain ⟨xs, n, _, _, hl, hlen, hf⟩ := DataW.trod_struct Try.underlying31 h
  have hlen' : xs.length = 6 := hlen
  have hl' : cs.length = 11 := hl.trans (by kernel_rfl)
  have h0 : DataW.trod enc Try.prog w base spare held n 26 (List.take (Try.prog.cellsOf 26) (List.drop 0 cs)) = xs[0]? := hf 0 _ rfl
  rw [show Try.prog.cellsOf 26 = 6 from by kernel_rfl, List.getElem?_eq_getElem (by omega)] at h0
  obtain ⟨v0, A0_0, c0_0, e0, f0_0, o0, -⟩ := rd26 h0
  have h1 : DataW.trod enc Try.prog w base spare held n 27 (List.take (Try.prog.cellsOf 27) (List.drop 6 cs)) = xs[1]? := hf 1 _ rfl
  rw [show Try.prog.cellsOf 27 = 1 from by kernel_rfl, List.getElem?_eq_getElem (by omega)] at h1
  obtain ⟨v1, e1, o1, -⟩ := rd27 h1
  have h2 : DataW.trod enc Try.prog w base spare held n 27 (List.take (Try.prog.cellsOf 27) (List.drop 7 cs)) = xs[2]? := hf 2 _ rfl
  rw [show Try.prog.cellsOf 27 = 1 from by kernel_rfl, List.getElem?_eq_getElem (by omega)] at h2
  obtain ⟨v2, e2, o2, -⟩ := rd27 h2
  have h3 : DataW.trod enc Try.prog w base spare held n 28 (List.take (Try.prog.cellsOf 28) (List.drop 8 cs)) = xs[3]? := hf 3 _ rfl
  rw [show Try.prog.cellsOf 28 = 1 from by kernel_rfl, List.getElem?_eq_getElem (by omega)] at h3
  obtain ⟨v3, e3, o3, -⟩ := rd28 h3
  have h4 : DataW.trod enc Try.prog w base spare held n 29 (List.take (Try.prog.cellsOf 29) (List.drop 9 cs)) = xs[4]? := hf 4 _ rfl
  rw [show Try.prog.cellsOf 29 = 1 from by kernel_rfl, List.getElem?_eq_getElem (by omega)] at h4
  obtain ⟨v4, A4_0, c4_0, e4, f4_0, o4, -⟩ := rd29 h4
  have h5 : DataW.trod enc Try.prog w base spare held n 5 (List.take (Try.prog.cellsOf 5) (List.drop 10 cs)) = xs[5]? := hf 5 _ rfl
  rw [show Try.prog.cellsOf 5 = 1 from by kernel_rfl, List.getElem?_eq_getElem (by omega)] at h5
  obtain ⟨v5, e5, o5, -⟩ := rd5 h5
  refine ⟨⟨v0, v1, v2, v3, v4, v5⟩, A0_0, c0_0, A4_0, c4_0, ?_, f0_0, f4_0, ⟨o0, o1, o2, o3, o4, o5⟩, trivial⟩
  have := sp_cons (o := 0) (o' := 6) e0 (sp_cons (o := 6) (o' := 7) e1 (sp_cons (o := 7) (o' := 8) e2 (sp_cons (o := 8) (o' := 9) e3 (sp_cons (o := 9) (o' := 10) e4 (sp_cons (o := 10) (o' := 11) e5 (sp_nil hl') rfl) rfl) rfl) rfl) rfl) rfl
  simpa using this
set_option maxRecDepth 100000 in
set_option maxHeartbeats 1000000 in
theorem topChangeLifted (os : Os) (started : os.Started) (H : Type) (enc : TypeId × Value → H) :
    ReturnsInHanded {} Try.checked os 3 .any (Rows.topChangeSpec.pre6 enc Try.prog Try.f3 Rows.topChangeRow.domain false) (Rows.topChangeSpec.post enc Try.prog Try.f3 false true false false) := by
  refine returnsInHanded_of_change (C := Try.checked) own2 started (by kernel_rfl) Try.func3
    (ChangeSpec.witness6 (enc := enc) (C := Try.checked) false ⟨#[], #[.agg #[.int .i64 (0), .int .i64 (0), .int .i64 (0), .int .i64 (0), .int .i64 (0), .slice (none) (0) (0), .int .u32 (0), .int .u32 (0), .int .u16 (0), .slice (none) (0) (0), .int .u8 (0)]], []⟩ 16 (by kernel_rfl) (by kernel_rfl) (by kernel_rfl) (by kernel_rfl)) ?_
  intro W base args ds gs before hval0 hW hcnd _
  have hval : ∀ (j : Nat) t v, Try.f3.params[j]? = some t → args[j]? = some v → Value.okWide Try.prog W .any base t v := hval0
  have hW' := hW
  obtain ⟨p, q, hA0, hV, rfl, hfz, hnd⟩ := hW
  have hA : DataW.TrodAll enc Try.prog W 0 (fun _ => true) true Try.f3.params.toList args.toList ds p := hA0
  rw [Try.params3] at hA hval
  obtain ⟨v0, vs0, d0, ds0, m0, q0, hargs, rfl, rfl, h0, r0⟩ := trodAll_cons hA
  obtain ⟨rfl, rfl, rfl⟩ := trodAll_nil r0
  obtain rfl : args = #[v0] := by cases args; simp_all
  obtain ⟨rfl, rfl⟩ := trodVars_none hV
  have k0 := h0
  have lt0 : ∀ x ∈ m0, x.block < W.heap.size := by obtain ⟨m, hm⟩ := k0; exact DataW.trod_lt m _ _ _ hm
  obtain ⟨fu0, hh0⟩ := h0
  obtain ⟨a0, A0_0, c0_0, A0_1, c0_1, e0, f0_0, f0_1, o0, -⟩ := rd31 hh0
  obtain ⟨⟨cs0⟩, rfl, _⟩ := okWide_struct Try.underlying31 (hval 0 31 v0 rfl rfl)
  have e0' : cs0 = _ := e0
  subst e0'
  clear hA0 hval0
  refine (lidartop_TopChange_ok a0 f0_0 f0_1 ((fun v o => topChange_eq v o.2.1 o.2.2.1 o.2.2.2.2.1 o.2.2.2.2.2) a0 o0) W (okOld W)).2.mono fun e W' hr => ?_
  obtain ⟨v, Ln, rfl, ⟨hv, rfl, -⟩, _, hh⟩ := hr
  subst hv
  have bel : Below W.heap.size W W' := hh.ok (.old W) (by simp)
  exact ⟨_, rfl, _, _, _, [], _, [], hW', trodAll_mk1 (shut_bool Try.underlying4 _), (trodAll_cons_mk (Below.trod laidOut2 (by kernel_rfl) (of_decide_eq_true (by kernel_rfl)) k0 bel lt0) trodAll_mk0), rfl, bel.frame _, fun h => by cases h⟩
theorem topChange_proved : Rows.TopChangeSaid :=
  OpenClaim.holds_of_wide 3 Try.f3 rfl rfl rfl rfl rfl rfl rfl ⟨rfl, rfl, rfl, rfl, rfl⟩ rfl rfl rfl rfl rfl (by kernel_rfl) Try.func3 (by kernel_rfl)
    (of_decide_eq_true (by kernel_rfl)) (by unfold Func.isWrapper; first | (rw [if_pos (by decide +kernel)]; kernel_rfl) | (rw [if_neg (by decide +kernel)]; exact ⟨rfl, rfl⟩))
    (fun os started H enc _ => topChangeLifted os started H enc)
#print axioms topChange_proved
end Go.Proofs.Ytdcdabkoajhllaa
