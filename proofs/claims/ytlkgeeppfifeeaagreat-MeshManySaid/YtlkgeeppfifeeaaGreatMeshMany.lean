/- MeshMany returns true for any vertex, number and line, and leaves them as they were. No conditions. -/
import Derived.Test.YtlkgeeppfifeeaaGreatL14
import Derived.Test.YtlkgeeppfifeeaaGreatRd
namespace Go.Proofs.YtlkgeeppfifeeaaGreat
open Go Go.ChangeShapes Go.WideShapes Go.ChangeAt Go.RowKit
def ok_S_api_Span (x : S_api_Span) : Prop := rI64 x.Lo ∧ rI64 x.Hi
def ok_S_api_Vertex (x : S_api_Vertex) : Prop := rI64 x.X ∧ rI64 x.Y ∧ ok_S_api_Span x.Z
theorem rd3 {H : Type} {enc : TypeId × Value → H} {w : World} {base : Nat} {spare : Nat → Bool} {held : Bool} {fuel : Nat} {cs : List Value} {x : DataW H × List MemPlace} (h : DataW.trod enc Tryz.prog w base spare held fuel 3 cs = some x) : ∃ (v : Int), cs = [.int .i64 (v)] ∧ rI64 v ∧ True := by
  obtain ⟨z, h1, h2⟩ := rd_i64 Tryz.underlying3 h
  exact ⟨z, h1, h2, trivial⟩
theorem rd41 {H : Type} {enc : TypeId × Value → H} {w : World} {base : Nat} {spare : Nat → Bool} {held : Bool} {fuel : Nat} {cs : List Value} {x : DataW H × List MemPlace} (h : DataW.trod enc Tryz.prog w base spare held fuel 41 cs = some x) : ∃ (v : S_api_Span), cs = [.int .i64 (v.Lo), .int .i64 (v.Hi)] ∧ ok_S_api_Span v ∧ True := by
  obtain ⟨xs, n, _, _, hl, hlen, hf⟩ := DataW.trod_struct Tryz.underlying41 h
  have hlen' : xs.length = 2 := hlen
  have hl' : cs.length = 2 := hl.trans (by kernel_rfl)
  have h0 : DataW.trod enc Tryz.prog w base spare held n 3 (List.take (Tryz.prog.cellsOf 3) (List.drop 0 cs)) = xs[0]? := hf 0 _ rfl
  rw [show Tryz.prog.cellsOf 3 = 1 from by kernel_rfl, List.getElem?_eq_getElem (by omega)] at h0
  obtain ⟨v0, e0, o0, -⟩ := rd3 h0
  have h1 : DataW.trod enc Tryz.prog w base spare held n 3 (List.take (Tryz.prog.cellsOf 3) (List.drop 1 cs)) = xs[1]? := hf 1 _ rfl
  rw [show Tryz.prog.cellsOf 3 = 1 from by kernel_rfl, List.getElem?_eq_getElem (by omega)] at h1
  obtain ⟨v1, e1, o1, -⟩ := rd3 h1
  refine ⟨⟨v0, v1⟩, ?_, ⟨o0, o1⟩, trivial⟩
  have := sp_cons (o := 0) (o' := 1) e0 (sp_cons (o := 1) (o' := 2) e1 (sp_nil hl') rfl) rfl
  simpa using this
theorem rd43 {H : Type} {enc : TypeId × Value → H} {w : World} {base : Nat} {spare : Nat → Bool} {held : Bool} {fuel : Nat} {cs : List Value} {x : DataW H × List MemPlace} (h : DataW.trod enc Tryz.prog w base spare held fuel 43 cs = some x) : ∃ (v : S_api_Vertex), cs = [.int .i64 (v.X), .int .i64 (v.Y), .int .i64 (v.Z.Lo), .int .i64 (v.Z.Hi)] ∧ ok_S_api_Vertex v ∧ True := by
  obtain ⟨xs, n, _, _, hl, hlen, hf⟩ := DataW.trod_struct Tryz.underlying43 h
  have hlen' : xs.length = 3 := hlen
  have hl' : cs.length = 4 := hl.trans (by kernel_rfl)
  have h0 : DataW.trod enc Tryz.prog w base spare held n 3 (List.take (Tryz.prog.cellsOf 3) (List.drop 0 cs)) = xs[0]? := hf 0 _ rfl
  rw [show Tryz.prog.cellsOf 3 = 1 from by kernel_rfl, List.getElem?_eq_getElem (by omega)] at h0
  obtain ⟨v0, e0, o0, -⟩ := rd3 h0
  have h1 : DataW.trod enc Tryz.prog w base spare held n 3 (List.take (Tryz.prog.cellsOf 3) (List.drop 1 cs)) = xs[1]? := hf 1 _ rfl
  rw [show Tryz.prog.cellsOf 3 = 1 from by kernel_rfl, List.getElem?_eq_getElem (by omega)] at h1
  obtain ⟨v1, e1, o1, -⟩ := rd3 h1
  have h2 : DataW.trod enc Tryz.prog w base spare held n 41 (List.take (Tryz.prog.cellsOf 41) (List.drop 2 cs)) = xs[2]? := hf 2 _ rfl
  rw [show Tryz.prog.cellsOf 41 = 2 from by kernel_rfl, List.getElem?_eq_getElem (by omega)] at h2
  obtain ⟨v2, e2, o2, -⟩ := rd41 h2
  refine ⟨⟨v0, v1, v2⟩, ?_, ⟨o0, o1, o2⟩, trivial⟩
  have := sp_cons (o := 0) (o' := 1) e0 (sp_cons (o := 1) (o' := 2) e1 (sp_cons (o := 2) (o' := 4) e2 (sp_nil hl') rfl) rfl) rfl
  simpa using this
theorem rd5 {H : Type} {enc : TypeId × Value → H} {w : World} {base : Nat} {spare : Nat → Bool} {held : Bool} {fuel : Nat} {cs : List Value} {x : DataW H × List MemPlace} (h : DataW.trod enc Tryz.prog w base spare held fuel 5 cs = some x) : ∃ (v : Int), cs = [.int .u8 (v)] ∧ rU8 v ∧ True := by
  obtain ⟨z, h1, h2⟩ := rd_u8 Tryz.underlying5 h
  exact ⟨z, h1, h2, trivial⟩
def ok_S_arr2_int (x : S_arr2_int) : Prop := rI64 x.a0 ∧ rI64 x.a1
theorem rd48 {H : Type} {enc : TypeId × Value → H} {w : World} {base : Nat} {spare : Nat → Bool} {held : Bool} {fuel : Nat} {cs : List Value} {x : DataW H × List MemPlace} (h : DataW.trod enc Tryz.prog w base spare held fuel 48 cs = some x) : ∃ (v : S_arr2_int), cs = [.int .i64 (v.a0), .int .i64 (v.a1)] ∧ ok_S_arr2_int v ∧ True := by
  obtain ⟨xs, n, _, _, hl, hlen, hf⟩ := DataW.trod_array Tryz.underlying48 h
  have hlen' : xs.length = 2 := hlen
  have hl' : cs.length = 2 := hl.trans (by kernel_rfl)
  rw [show Tryz.prog.cellsOf 3 = 1 from by kernel_rfl] at hf
  have h0 : DataW.trod enc Tryz.prog w base spare held n 3 (List.take 1 (List.drop 0 cs)) = xs[0]? := hf 0 (by decide)
  rw [List.getElem?_eq_getElem (by omega)] at h0
  obtain ⟨v0, e0, o0, -⟩ := rd3 h0
  have h1 : DataW.trod enc Tryz.prog w base spare held n 3 (List.take 1 (List.drop 1 cs)) = xs[1]? := hf 1 (by decide)
  rw [List.getElem?_eq_getElem (by omega)] at h1
  obtain ⟨v1, e1, o1, -⟩ := rd3 h1
  refine ⟨⟨v0, v1⟩, ?_, ⟨o0, o1⟩, trivial⟩
  have := sp_cons (o := 0) (o' := 1) e0 (sp_cons (o := 1) (o' := 2) e1 (sp_nil hl') rfl) rfl
  simpa using this
theorem okWide_arr {P : Program} {w : World} {r : Reach} {base : Nat} {t : TypeId} {v : Value} {n : Nat} {e : TypeId} (ht : P.underlying t = some (.array n e)) (h : Value.okWide P w r base t v) : ∃ cs, v = .agg cs ∧ cs.size = P.cellsOf t := by
  simp only [Value.okWide, ht] at h
  obtain ⟨cs, h1, h2, _⟩ := h
  exact ⟨cs, h1, h2⟩
set_option maxRecDepth 100000 in
set_option maxHeartbeats 1000000 in
theorem meshManyLifted (os : Os) (started : os.Started) (H : Type) (enc : TypeId × Value → H) :
    ReturnsInHanded {} Tryz.checked os 7 .any (Rows.meshManySpec.pre6 enc Tryz.prog Tryz.f7 Rows.meshManyRow.domain false) (Rows.meshManySpec.post enc Tryz.prog Tryz.f7 false true false false) := by
  refine returnsInHanded_of_change (C := Tryz.checked) own2 started (by kernel_rfl) Tryz.func7
    (ChangeSpec.witness6 (enc := enc) (C := Tryz.checked) false ⟨#[], #[.agg #[.int .i64 (0), .int .i64 (0), .int .i64 (0), .int .i64 (0)], .int .u8 (0), .agg #[.int .i64 (0), .int .i64 (0)]], []⟩ 16 (by kernel_rfl) (by kernel_rfl) (by kernel_rfl) (by kernel_rfl)) ?_
  intro W base args ds gs before hval0 hW hcnd _
  have hval : ∀ (j : Nat) t v, Tryz.f7.params[j]? = some t → args[j]? = some v → Value.okWide Tryz.prog W .any base t v := hval0
  have hW' := hW
  obtain ⟨p, q, hA0, hV, rfl, hfz, hnd⟩ := hW
  have hA : DataW.TrodAll enc Tryz.prog W 0 (fun _ => true) true Tryz.f7.params.toList args.toList ds p := hA0
  rw [Tryz.params7] at hA hval
  obtain ⟨v0, vs0, d0, ds0, m0, q0, hargs, rfl, rfl, h0, r0⟩ := trodAll_cons hA
  obtain ⟨v1, vs1, d1, ds1, m1, q1, rfl, rfl, rfl, h1, r1⟩ := trodAll_cons r0
  obtain ⟨v2, vs2, d2, ds2, m2, q2, rfl, rfl, rfl, h2, r2⟩ := trodAll_cons r1
  obtain ⟨rfl, rfl, rfl⟩ := trodAll_nil r2
  obtain rfl : args = #[v0, v1, v2] := by cases args; simp_all
  obtain ⟨rfl, rfl⟩ := trodVars_none hV
  have k0 := h0
  have lt0 : ∀ x ∈ m0, x.block < W.heap.size := by obtain ⟨m, hm⟩ := k0; exact DataW.trod_lt m _ _ _ hm
  obtain ⟨fu0, hh0⟩ := h0
  obtain ⟨a0, e0, o0, -⟩ := rd43 hh0
  obtain ⟨⟨cs0⟩, rfl, _⟩ := okWide_struct Tryz.underlying43 (hval 0 43 v0 rfl rfl)
  have e0' : cs0 = _ := e0
  subst e0'
  have k1 := h1
  have lt1 : ∀ x ∈ m1, x.block < W.heap.size := by obtain ⟨m, hm⟩ := k1; exact DataW.trod_lt m _ _ _ hm
  obtain ⟨fu1, hh1⟩ := h1
  obtain ⟨a1, e1, o1, -⟩ := rd5 hh1
  obtain ⟨z1, rfl⟩ := okWide_int Tryz.underlying5 (hval 1 5 v1 rfl rfl)
  obtain rfl : a1 = z1 := (by simpa [Value.cells] using e1 : z1 = a1).symm
  have k2 := h2
  have lt2 : ∀ x ∈ m2, x.block < W.heap.size := by obtain ⟨m, hm⟩ := k2; exact DataW.trod_lt m _ _ _ hm
  obtain ⟨fu2, hh2⟩ := h2
  obtain ⟨a2, e2, o2, -⟩ := rd48 hh2
  obtain ⟨⟨cs2⟩, rfl, _⟩ := okWide_arr Tryz.underlying48 (hval 2 48 v2 rfl rfl)
  have e2' : cs2 = _ := e2
  subst e2'
  clear hA0 hval0
  refine (lidarlaw06_MeshMany_ok a0 a1 a2  ((fun v n l _ o _ => meshMany_eq v n l o) a0 a1 a2 o0 o1 o2) W).2.mono fun e W' hr => ?_
  obtain ⟨v, Ln, rfl, ⟨hv, rfl, -⟩, _, hh⟩ := hr
  subst hv
  have bel : Below W.heap.size W W' := (hh.ok (.old W) (by simp)).1
  exact ⟨_, rfl, _, _, _, [], _, [], hW', trodAll_mk1 (shut_bool Tryz.underlying4 _), (trodAll_cons_mk (Below.trod laidOut2 (by kernel_rfl) (of_decide_eq_true (by kernel_rfl)) k0 bel lt0) (trodAll_cons_mk (Below.trod laidOut2 (by kernel_rfl) (of_decide_eq_true (by kernel_rfl)) k1 bel lt1) (trodAll_cons_mk (Below.trod laidOut2 (by kernel_rfl) (of_decide_eq_true (by kernel_rfl)) k2 bel lt2) trodAll_mk0))), rfl, bel.frame _, fun h => by cases h⟩
theorem meshMany_proved : Rows.MeshManySaid :=
  OpenClaim.holds_of_wide 7 Tryz.f7 rfl rfl rfl rfl rfl rfl rfl ⟨rfl, rfl, rfl, rfl, rfl⟩ rfl rfl rfl rfl rfl (by kernel_rfl) Tryz.func7 (by kernel_rfl)
    (of_decide_eq_true (by kernel_rfl)) (by unfold Func.isWrapper; first | (rw [if_pos (by decide +kernel)]; kernel_rfl) | (rw [if_neg (by decide +kernel)]; exact ⟨rfl, rfl⟩))
    (fun os started H enc _ => meshManyLifted os started H enc)
#print axioms meshMany_proved
end Go.Proofs.YtlkgeeppfifeeaaGreat
