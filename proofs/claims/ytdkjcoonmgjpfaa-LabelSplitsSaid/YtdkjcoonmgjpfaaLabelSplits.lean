/- LabelSplits returns true for any points, classes, edits and number, and leaves them as they were. No conditions. -/
import Derived.Test.YtdkjcoonmgjpfaaX8
import Derived.Test.YtdkjcoonmgjpfaaRd
namespace Go.Proofs.Ytdkjcoonmgjpfaa
open Go Go.ChangeShapes Go.WideShapes Go.ChangeAt Go.RowKit
def ok_S_api_Span (x : S_api_Span) : Prop := rI64 x.Lo ∧ rI64 x.Hi
def ok_S_api_Point (x : S_api_Point) : Prop := rI64 x.Id ∧ rI64 x.X ∧ rI64 x.Y ∧ ok_S_api_Span x.Z ∧ rI64 x.Wide ∧ rI64 x.Num ∧ rI64 x.Of ∧ rI64 x.Class
def ok_S_api_XY (x : S_api_XY) : Prop := rI64 x.X ∧ rI64 x.Y
def ok_S_api_Edit (x : S_api_Edit) : Prop := rI64 x.Id ∧ (∀ z ∈ x.Ring, ok_S_api_XY z) ∧ rI64 x.From ∧ rI64 x.To
def ok_S_lidarlaw07_Splitting (x : S_lidarlaw07_Splitting) : Prop := (∀ z ∈ x.L, ok_S_api_Point z) ∧ (∀ z ∈ x.Classes, rI64 z) ∧ (∀ z ∈ x.Edits, ok_S_api_Edit z) ∧ rU8 x.At
theorem rd3 {H : Type} {enc : TypeId × Value → H} {w : World} {base : Nat} {spare : Nat → Bool} {held : Bool} {fuel : Nat} {cs : List Value} {x : DataW H × List MemPlace} (h : DataW.trod enc Try.prog w base spare held fuel 3 cs = some x) : ∃ (v : Int), cs = [.int .i64 (v)] ∧ rI64 v ∧ True := by
  obtain ⟨z, h1, h2⟩ := rd_i64 Try.underlying3 h
  exact ⟨z, h1, h2, trivial⟩
theorem rd51 {H : Type} {enc : TypeId × Value → H} {w : World} {base : Nat} {spare : Nat → Bool} {held : Bool} {fuel : Nat} {cs : List Value} {x : DataW H × List MemPlace} (h : DataW.trod enc Try.prog w base spare held fuel 51 cs = some x) : ∃ (v : S_api_Span), cs = [.int .i64 (v.Lo), .int .i64 (v.Hi)] ∧ ok_S_api_Span v ∧ True := by
  obtain ⟨xs, n, _, _, hl, hlen, hf⟩ := DataW.trod_struct Try.underlying51 h
  have hlen' : xs.length = 2 := hlen
  have hl' : cs.length = 2 := hl.trans (by kernel_rfl)
  have h0 : DataW.trod enc Try.prog w base spare held n 3 (List.take (Try.prog.cellsOf 3) (List.drop 0 cs)) = xs[0]? := hf 0 _ rfl
  rw [show Try.prog.cellsOf 3 = 1 from by kernel_rfl, List.getElem?_eq_getElem (by omega)] at h0
  obtain ⟨v0, e0, o0, -⟩ := rd3 h0
  have h1 : DataW.trod enc Try.prog w base spare held n 3 (List.take (Try.prog.cellsOf 3) (List.drop 1 cs)) = xs[1]? := hf 1 _ rfl
  rw [show Try.prog.cellsOf 3 = 1 from by kernel_rfl, List.getElem?_eq_getElem (by omega)] at h1
  obtain ⟨v1, e1, o1, -⟩ := rd3 h1
  refine ⟨⟨v0, v1⟩, ?_, ⟨o0, o1⟩, trivial⟩
  have := sp_cons (o := 0) (o' := 1) e0 (sp_cons (o := 1) (o' := 2) e1 (sp_nil hl') rfl) rfl
  simpa using this
theorem rd53 {H : Type} {enc : TypeId × Value → H} {w : World} {base : Nat} {spare : Nat → Bool} {held : Bool} {fuel : Nat} {cs : List Value} {x : DataW H × List MemPlace} (h : DataW.trod enc Try.prog w base spare held fuel 53 cs = some x) : ∃ (v : S_api_Point), cs = [.int .i64 (v.Id), .int .i64 (v.X), .int .i64 (v.Y), .int .i64 (v.Z.Lo), .int .i64 (v.Z.Hi), .int .i64 (v.Wide), .int .i64 (v.Num), .int .i64 (v.Of), .int .i64 (v.Class)] ∧ ok_S_api_Point v ∧ True := by
  obtain ⟨xs, n, _, _, hl, hlen, hf⟩ := DataW.trod_struct Try.underlying53 h
  have hlen' : xs.length = 8 := hlen
  have hl' : cs.length = 9 := hl.trans (by kernel_rfl)
  have h0 : DataW.trod enc Try.prog w base spare held n 3 (List.take (Try.prog.cellsOf 3) (List.drop 0 cs)) = xs[0]? := hf 0 _ rfl
  rw [show Try.prog.cellsOf 3 = 1 from by kernel_rfl, List.getElem?_eq_getElem (by omega)] at h0
  obtain ⟨v0, e0, o0, -⟩ := rd3 h0
  have h1 : DataW.trod enc Try.prog w base spare held n 3 (List.take (Try.prog.cellsOf 3) (List.drop 1 cs)) = xs[1]? := hf 1 _ rfl
  rw [show Try.prog.cellsOf 3 = 1 from by kernel_rfl, List.getElem?_eq_getElem (by omega)] at h1
  obtain ⟨v1, e1, o1, -⟩ := rd3 h1
  have h2 : DataW.trod enc Try.prog w base spare held n 3 (List.take (Try.prog.cellsOf 3) (List.drop 2 cs)) = xs[2]? := hf 2 _ rfl
  rw [show Try.prog.cellsOf 3 = 1 from by kernel_rfl, List.getElem?_eq_getElem (by omega)] at h2
  obtain ⟨v2, e2, o2, -⟩ := rd3 h2
  have h3 : DataW.trod enc Try.prog w base spare held n 51 (List.take (Try.prog.cellsOf 51) (List.drop 3 cs)) = xs[3]? := hf 3 _ rfl
  rw [show Try.prog.cellsOf 51 = 2 from by kernel_rfl, List.getElem?_eq_getElem (by omega)] at h3
  obtain ⟨v3, e3, o3, -⟩ := rd51 h3
  have h4 : DataW.trod enc Try.prog w base spare held n 3 (List.take (Try.prog.cellsOf 3) (List.drop 5 cs)) = xs[4]? := hf 4 _ rfl
  rw [show Try.prog.cellsOf 3 = 1 from by kernel_rfl, List.getElem?_eq_getElem (by omega)] at h4
  obtain ⟨v4, e4, o4, -⟩ := rd3 h4
  have h5 : DataW.trod enc Try.prog w base spare held n 3 (List.take (Try.prog.cellsOf 3) (List.drop 6 cs)) = xs[5]? := hf 5 _ rfl
  rw [show Try.prog.cellsOf 3 = 1 from by kernel_rfl, List.getElem?_eq_getElem (by omega)] at h5
  obtain ⟨v5, e5, o5, -⟩ := rd3 h5
  have h6 : DataW.trod enc Try.prog w base spare held n 3 (List.take (Try.prog.cellsOf 3) (List.drop 7 cs)) = xs[6]? := hf 6 _ rfl
  rw [show Try.prog.cellsOf 3 = 1 from by kernel_rfl, List.getElem?_eq_getElem (by omega)] at h6
  obtain ⟨v6, e6, o6, -⟩ := rd3 h6
  have h7 : DataW.trod enc Try.prog w base spare held n 3 (List.take (Try.prog.cellsOf 3) (List.drop 8 cs)) = xs[7]? := hf 7 _ rfl
  rw [show Try.prog.cellsOf 3 = 1 from by kernel_rfl, List.getElem?_eq_getElem (by omega)] at h7
  obtain ⟨v7, e7, o7, -⟩ := rd3 h7
  refine ⟨⟨v0, v1, v2, v3, v4, v5, v6, v7⟩, ?_, ⟨o0, o1, o2, o3, o4, o5, o6, o7⟩, trivial⟩
  have := sp_cons (o := 0) (o' := 1) e0 (sp_cons (o := 1) (o' := 2) e1 (sp_cons (o := 2) (o' := 3) e2 (sp_cons (o := 3) (o' := 5) e3 (sp_cons (o := 5) (o' := 6) e4 (sp_cons (o := 6) (o' := 7) e5 (sp_cons (o := 7) (o' := 8) e6 (sp_cons (o := 8) (o' := 9) e7 (sp_nil hl') rfl) rfl) rfl) rfl) rfl) rfl) rfl) rfl
  simpa using this
theorem rd31 {H : Type} {enc : TypeId × Value → H} {w : World} {base : Nat} {spare : Nat → Bool} {held : Bool} {fuel : Nat} {cs : List Value} {x : DataW H × List MemPlace} (h : DataW.trod enc Try.prog w base spare held fuel 31 cs = some x) : ∃ (v : List S_api_Point) (A0 : Option Addr) (c0 : Nat), cs = [.slice (A0) ((v).length) (c0)] ∧ Has [.old w] A0 (v).length c0 9 e_api_Point (v) ∧ (∀ z ∈ v, ok_S_api_Point z) ∧ True := by
  obtain ⟨v, A, c, h1, h2, h3⟩ := rd_slice (en := e_api_Point) (okα := ok_S_api_Point) Try.underlying31 (show Try.prog.cellsOf 53 = 9 from by kernel_rfl) (by decide) (fun h => by obtain ⟨v, h1, h2⟩ := rd53 h; exact ⟨v, h1, h2.1⟩) h
  exact ⟨v, A, c, h1, h2, h3, trivial⟩
theorem rd35 {H : Type} {enc : TypeId × Value → H} {w : World} {base : Nat} {spare : Nat → Bool} {held : Bool} {fuel : Nat} {cs : List Value} {x : DataW H × List MemPlace} (h : DataW.trod enc Try.prog w base spare held fuel 35 cs = some x) : ∃ (v : List Int) (A0 : Option Addr) (c0 : Nat), cs = [.slice (A0) ((v).length) (c0)] ∧ Has [.old w] A0 (v).length c0 1 e_i64 (v) ∧ (∀ z ∈ v, rI64 z) ∧ True := by
  obtain ⟨v, A, c, h1, h2, h3⟩ := rd_slice (en := e_i64) (okα := rI64) Try.underlying35 (show Try.prog.cellsOf 3 = 1 from by kernel_rfl) (by decide) (fun h => by obtain ⟨v, h1, h2⟩ := rd3 h; exact ⟨v, h1, h2.1⟩) h
  exact ⟨v, A, c, h1, h2, h3, trivial⟩
theorem rd24 {H : Type} {enc : TypeId × Value → H} {w : World} {base : Nat} {spare : Nat → Bool} {held : Bool} {fuel : Nat} {cs : List Value} {x : DataW H × List MemPlace} (h : DataW.trod enc Try.prog w base spare held fuel 24 cs = some x) : ∃ (v : S_api_XY), cs = [.int .i64 (v.X), .int .i64 (v.Y)] ∧ ok_S_api_XY v ∧ True := by
  obtain ⟨xs, n, _, _, hl, hlen, hf⟩ := DataW.trod_struct Try.underlying24 h
  have hlen' : xs.length = 2 := hlen
  have hl' : cs.length = 2 := hl.trans (by kernel_rfl)
  have h0 : DataW.trod enc Try.prog w base spare held n 3 (List.take (Try.prog.cellsOf 3) (List.drop 0 cs)) = xs[0]? := hf 0 _ rfl
  rw [show Try.prog.cellsOf 3 = 1 from by kernel_rfl, List.getElem?_eq_getElem (by omega)] at h0
  obtain ⟨v0, e0, o0, -⟩ := rd3 h0
  have h1 : DataW.trod enc Try.prog w base spare held n 3 (List.take (Try.prog.cellsOf 3) (List.drop 1 cs)) = xs[1]? := hf 1 _ rfl
  rw [show Try.prog.cellsOf 3 = 1 from by kernel_rfl, List.getElem?_eq_getElem (by omega)] at h1
  obtain ⟨v1, e1, o1, -⟩ := rd3 h1
  refine ⟨⟨v0, v1⟩, ?_, ⟨o0, o1⟩, trivial⟩
  have := sp_cons (o := 0) (o' := 1) e0 (sp_cons (o := 1) (o' := 2) e1 (sp_nil hl') rfl) rfl
  simpa using this
theorem rd22 {H : Type} {enc : TypeId × Value → H} {w : World} {base : Nat} {spare : Nat → Bool} {held : Bool} {fuel : Nat} {cs : List Value} {x : DataW H × List MemPlace} (h : DataW.trod enc Try.prog w base spare held fuel 22 cs = some x) : ∃ (v : List S_api_XY) (A0 : Option Addr) (c0 : Nat), cs = [.slice (A0) ((v).length) (c0)] ∧ Has [.old w] A0 (v).length c0 2 e_api_XY (v) ∧ (∀ z ∈ v, ok_S_api_XY z) ∧ True := by
  obtain ⟨v, A, c, h1, h2, h3⟩ := rd_slice (en := e_api_XY) (okα := ok_S_api_XY) Try.underlying22 (show Try.prog.cellsOf 24 = 2 from by kernel_rfl) (by decide) (fun h => by obtain ⟨v, h1, h2⟩ := rd24 h; exact ⟨v, h1, h2.1⟩) h
  exact ⟨v, A, c, h1, h2, h3, trivial⟩
theorem rd72 {H : Type} {enc : TypeId × Value → H} {w : World} {base : Nat} {spare : Nat → Bool} {held : Bool} {fuel : Nat} {cs : List Value} {x : DataW H × List MemPlace} (h : DataW.trod enc Try.prog w base spare held fuel 72 cs = some x) : ∃ (v : S_api_Edit) (A0 : Option Addr) (c0 : Nat), cs = [.int .i64 (v.Id), .slice (A0) ((v.Ring).length) (c0), .int .i64 (v.From), .int .i64 (v.To)] ∧ Has [.old w] A0 (v.Ring).length c0 2 e_api_XY (v.Ring) ∧ ok_S_api_Edit v ∧ True := by
  obtain ⟨xs, n, _, _, hl, hlen, hf⟩ := DataW.trod_struct Try.underlying72 h
  have hlen' : xs.length = 4 := hlen
  have hl' : cs.length = 4 := hl.trans (by kernel_rfl)
  have h0 : DataW.trod enc Try.prog w base spare held n 3 (List.take (Try.prog.cellsOf 3) (List.drop 0 cs)) = xs[0]? := hf 0 _ rfl
  rw [show Try.prog.cellsOf 3 = 1 from by kernel_rfl, List.getElem?_eq_getElem (by omega)] at h0
  obtain ⟨v0, e0, o0, -⟩ := rd3 h0
  have h1 : DataW.trod enc Try.prog w base spare held n 22 (List.take (Try.prog.cellsOf 22) (List.drop 1 cs)) = xs[1]? := hf 1 _ rfl
  rw [show Try.prog.cellsOf 22 = 1 from by kernel_rfl, List.getElem?_eq_getElem (by omega)] at h1
  obtain ⟨v1, A1_0, c1_0, e1, f1_0, o1, -⟩ := rd22 h1
  have h2 : DataW.trod enc Try.prog w base spare held n 3 (List.take (Try.prog.cellsOf 3) (List.drop 2 cs)) = xs[2]? := hf 2 _ rfl
  rw [show Try.prog.cellsOf 3 = 1 from by kernel_rfl, List.getElem?_eq_getElem (by omega)] at h2
  obtain ⟨v2, e2, o2, -⟩ := rd3 h2
  have h3 : DataW.trod enc Try.prog w base spare held n 3 (List.take (Try.prog.cellsOf 3) (List.drop 3 cs)) = xs[3]? := hf 3 _ rfl
  rw [show Try.prog.cellsOf 3 = 1 from by kernel_rfl, List.getElem?_eq_getElem (by omega)] at h3
  obtain ⟨v3, e3, o3, -⟩ := rd3 h3
  refine ⟨⟨v0, v1, v2, v3⟩, A1_0, c1_0, ?_, f1_0, ⟨o0, o1, o2, o3⟩, trivial⟩
  have := sp_cons (o := 0) (o' := 1) e0 (sp_cons (o := 1) (o' := 2) e1 (sp_cons (o := 2) (o' := 3) e2 (sp_cons (o := 3) (o' := 4) e3 (sp_nil hl') rfl) rfl) rfl) rfl
  simpa using this
theorem rd43 {H : Type} {enc : TypeId × Value → H} {w : World} {base : Nat} {spare : Nat → Bool} {held : Bool} {fuel : Nat} {cs : List Value} {x : DataW H × List MemPlace} (h : DataW.trod enc Try.prog w base spare held fuel 43 cs = some x) : ∃ (v : List S_api_Edit) (A0 : Option Addr) (c0 : Nat), cs = [.slice (A0) ((v).length) (c0)] ∧ HasN [.old w] A0 (v).length c0 4 n_api_Edit (v) ∧ (∀ z ∈ v, ok_S_api_Edit z) ∧ True := by
  obtain ⟨v, A, c, h1, h2, h3⟩ := rd_sliceN (R := n_api_Edit) (okα := ok_S_api_Edit) Try.underlying43 (show Try.prog.cellsOf 72 = 4 from by kernel_rfl) (by decide) (fun h => by obtain ⟨v, A0, c0, h1, f0, o, -⟩ := rd72 h; exact ⟨v, ⟨A0, c0, h1, f0⟩, o⟩) h
  exact ⟨v, A, c, h1, h2, h3, trivial⟩
theorem rd5 {H : Type} {enc : TypeId × Value → H} {w : World} {base : Nat} {spare : Nat → Bool} {held : Bool} {fuel : Nat} {cs : List Value} {x : DataW H × List MemPlace} (h : DataW.trod enc Try.prog w base spare held fuel 5 cs = some x) : ∃ (v : Int), cs = [.int .u8 (v)] ∧ rU8 v ∧ True := by
  obtain ⟨z, h1, h2⟩ := rd_u8 Try.underlying5 h
  exact ⟨z, h1, h2, trivial⟩
theorem rd48 {H : Type} {enc : TypeId × Value → H} {w : World} {base : Nat} {spare : Nat → Bool} {held : Bool} {fuel : Nat} {cs : List Value} {x : DataW H × List MemPlace} (h : DataW.trod enc Try.prog w base spare held fuel 48 cs = some x) : ∃ (v : S_lidarlaw07_Splitting) (A0 : Option Addr) (c0 : Nat) (A1 : Option Addr) (c1 : Nat) (A2 : Option Addr) (c2 : Nat), cs = [.slice (A0) ((v.L).length) (c0), .slice (A1) ((v.Classes).length) (c1), .slice (A2) ((v.Edits).length) (c2), .int .u8 (v.At)] ∧ Has [.old w] A0 (v.L).length c0 9 e_api_Point (v.L) ∧ Has [.old w] A1 (v.Classes).length c1 1 e_i64 (v.Classes) ∧ HasN [.old w] A2 (v.Edits).length c2 4 n_api_Edit (v.Edits) ∧ ok_S_lidarlaw07_Splitting v ∧ True := by
  obtain ⟨xs, n, _, _, hl, hlen, hf⟩ := DataW.trod_struct Try.underlying48 h
  have hlen' : xs.length = 4 := hlen
  have hl' : cs.length = 4 := hl.trans (by kernel_rfl)
  have h0 : DataW.trod enc Try.prog w base spare held n 31 (List.take (Try.prog.cellsOf 31) (List.drop 0 cs)) = xs[0]? := hf 0 _ rfl
  rw [show Try.prog.cellsOf 31 = 1 from by kernel_rfl, List.getElem?_eq_getElem (by omega)] at h0
  obtain ⟨v0, A0_0, c0_0, e0, f0_0, o0, -⟩ := rd31 h0
  have h1 : DataW.trod enc Try.prog w base spare held n 35 (List.take (Try.prog.cellsOf 35) (List.drop 1 cs)) = xs[1]? := hf 1 _ rfl
  rw [show Try.prog.cellsOf 35 = 1 from by kernel_rfl, List.getElem?_eq_getElem (by omega)] at h1
  obtain ⟨v1, A1_0, c1_0, e1, f1_0, o1, -⟩ := rd35 h1
  have h2 : DataW.trod enc Try.prog w base spare held n 43 (List.take (Try.prog.cellsOf 43) (List.drop 2 cs)) = xs[2]? := hf 2 _ rfl
  rw [show Try.prog.cellsOf 43 = 1 from by kernel_rfl, List.getElem?_eq_getElem (by omega)] at h2
  obtain ⟨v2, A2_0, c2_0, e2, f2_0, o2, -⟩ := rd43 h2
  have h3 : DataW.trod enc Try.prog w base spare held n 5 (List.take (Try.prog.cellsOf 5) (List.drop 3 cs)) = xs[3]? := hf 3 _ rfl
  rw [show Try.prog.cellsOf 5 = 1 from by kernel_rfl, List.getElem?_eq_getElem (by omega)] at h3
  obtain ⟨v3, e3, o3, -⟩ := rd5 h3
  refine ⟨⟨v0, v1, v2, v3⟩, A0_0, c0_0, A1_0, c1_0, A2_0, c2_0, ?_, f0_0, f1_0, f2_0, ⟨o0, o1, o2, o3⟩, trivial⟩
  have := sp_cons (o := 0) (o' := 1) e0 (sp_cons (o := 1) (o' := 2) e1 (sp_cons (o := 2) (o' := 3) e2 (sp_cons (o := 3) (o' := 4) e3 (sp_nil hl') rfl) rfl) rfl) rfl
  simpa using this
set_option maxRecDepth 100000 in
set_option maxHeartbeats 1000000 in
theorem labelSplitsLifted (os : Os) (started : os.Started) (H : Type) (enc : TypeId × Value → H) :
    ReturnsInHanded {} Try.checked os 7 .any (Rows.labelSplitsSpec.pre6 enc Try.prog Try.f7 Rows.labelSplitsRow.domain false) (Rows.labelSplitsSpec.post enc Try.prog Try.f7 false true false false) := by
  refine returnsInHanded_of_change (C := Try.checked) own2 started (by kernel_rfl) Try.func7
    (ChangeSpec.witness6 (enc := enc) (C := Try.checked) false ⟨#[], #[.agg #[.slice (none) (0) (0), .slice (none) (0) (0), .slice (none) (0) (0), .int .u8 (0)]], []⟩ 16 (by kernel_rfl) (by kernel_rfl) (by kernel_rfl) (by kernel_rfl)) ?_
  intro W base args ds gs before hval0 hW hcnd _
  have hval : ∀ (j : Nat) t v, Try.f7.params[j]? = some t → args[j]? = some v → Value.okWide Try.prog W .any base t v := hval0
  have hW' := hW
  obtain ⟨p, q, hA0, hV, rfl, hfz, hnd⟩ := hW
  have hA : DataW.TrodAll enc Try.prog W 0 (fun _ => true) true Try.f7.params.toList args.toList ds p := hA0
  rw [Try.params7] at hA hval
  obtain ⟨v0, vs0, d0, ds0, m0, q0, hargs, rfl, rfl, h0, r0⟩ := trodAll_cons hA
  obtain ⟨rfl, rfl, rfl⟩ := trodAll_nil r0
  obtain rfl : args = #[v0] := by cases args; simp_all
  obtain ⟨rfl, rfl⟩ := trodVars_none hV
  have k0 := h0
  have lt0 : ∀ x ∈ m0, x.block < W.heap.size := by obtain ⟨m, hm⟩ := k0; exact DataW.trod_lt m _ _ _ hm
  obtain ⟨fu0, hh0⟩ := h0
  obtain ⟨a0, A0_0, c0_0, A0_1, c0_1, A0_2, c0_2, e0, f0_0, f0_1, f0_2, o0, -⟩ := rd48 hh0
  obtain ⟨⟨cs0⟩, rfl, _⟩ := okWide_struct Try.underlying48 (hval 0 48 v0 rfl rfl)
  have e0' : cs0 = _ := e0
  subst e0'
  clear hA0 hval0
  refine (lidarlaw07_LabelSplits_ok a0 f0_0 f0_1 f0_2 ((fun (v : S_lidarlaw07_Splitting) (o : ok_S_lidarlaw07_Splitting v) => labelSplits_eq v o.2.2.2) a0 o0) W (okOld W)).2.mono fun e W' hr => ?_
  obtain ⟨v, Ln, rfl, ⟨hv, rfl, -⟩, _, hh⟩ := hr
  subst hv
  have bel : Below W.heap.size W W' := hh.ok (.old W) (by simp)
  exact ⟨_, rfl, _, _, _, [], _, [], hW', trodAll_mk1 (shut_bool Try.underlying4 _), (trodAll_cons_mk (Below.trod laidOut2 (by kernel_rfl) (of_decide_eq_true (by kernel_rfl)) k0 bel lt0) trodAll_mk0), rfl, bel.frame _, fun h => by cases h⟩
theorem labelSplits_proved : Rows.LabelSplitsSaid :=
  OpenClaim.holds_of_wide 7 Try.f7 rfl rfl rfl rfl rfl rfl rfl ⟨rfl, rfl, rfl, rfl, rfl⟩ rfl rfl rfl rfl rfl (by kernel_rfl) Try.func7 (by kernel_rfl)
    (of_decide_eq_true (by kernel_rfl)) (by unfold Func.isWrapper; first | (rw [if_pos (by decide +kernel)]; kernel_rfl) | (rw [if_neg (by decide +kernel)]; exact ⟨rfl, rfl⟩))
    (fun os started H enc _ => labelSplitsLifted os started H enc)
#print axioms labelSplits_proved
end Go.Proofs.Ytdkjcoonmgjpfaa
