/- MeshLegal returns true for any four places, and leaves them as they were. No conditions. -/
import Derived.Test.YtlkgeeppfifeeaaGreatL13
import Derived.Test.YtlkgeeppfifeeaaGreatRd
namespace Go.Proofs.YtlkgeeppfifeeaaGreat
open Go Go.ChangeShapes Go.WideShapes Go.ChangeAt Go.RowKit
def ok_S_api_XY (x : S_api_XY) : Prop := rI64 x.X ∧ rI64 x.Y
def ok_S_arr4_api_XY (x : S_arr4_api_XY) : Prop := ok_S_api_XY x.a0 ∧ ok_S_api_XY x.a1 ∧ ok_S_api_XY x.a2 ∧ ok_S_api_XY x.a3
theorem rd3 {H : Type} {enc : TypeId × Value → H} {w : World} {base : Nat} {spare : Nat → Bool} {held : Bool} {fuel : Nat} {cs : List Value} {x : DataW H × List MemPlace} (h : DataW.trod enc Tryz.prog w base spare held fuel 3 cs = some x) : ∃ (v : Int), cs = [.int .i64 (v)] ∧ rI64 v ∧ True := by
  obtain ⟨z, h1, h2⟩ := rd_i64 Tryz.underlying3 h
  exact ⟨z, h1, h2, trivial⟩
theorem rd38 {H : Type} {enc : TypeId × Value → H} {w : World} {base : Nat} {spare : Nat → Bool} {held : Bool} {fuel : Nat} {cs : List Value} {x : DataW H × List MemPlace} (h : DataW.trod enc Tryz.prog w base spare held fuel 38 cs = some x) : ∃ (v : S_api_XY), cs = [.int .i64 (v.X), .int .i64 (v.Y)] ∧ ok_S_api_XY v ∧ True := by
  obtain ⟨xs, n, _, _, hl, hlen, hf⟩ := DataW.trod_struct Tryz.underlying38 h
  have hlen' : xs.length = 2 := hlen
  have hl' : cs.length = 2 := hl.trans (by kernel_rfl)
  have h0 : DataW.trod enc Tryz.prog w base spare held n 3 (List.take (Tryz.prog.cellsOf 3) (List.drop 0 cs)) = xs[0]? := hf 0 _ rfl
  rw [show Tryz.prog.cellsOf 3 = 1 from by kernel_rfl, List.getElem?_eq_getElem (by omega)] at h0
  obtain ⟨v0, e0, o0, -⟩ := rd3 h0
  have h1 : DataW.trod enc Tryz.prog w base spare held n 3 (List.take (Tryz.prog.cellsOf 3) (List.drop 1 cs)) = xs[1]? := hf 1 _ rfl
  rw [show Tryz.prog.cellsOf 3 = 1 from by kernel_rfl, List.getElem?_eq_getElem (by omega)] at h1
  obtain ⟨v1, e1, o1, -⟩ := rd3 h1
  refine ⟨⟨v0, v1⟩, ?_, ⟨o0, o1⟩, trivial⟩
  have := sp_cons (o := 0) (o' := 1) e0 (sp_cons (o := 1) (o' := 2) e1 (sp_nil hl') rfl) rfl
  simpa using this
theorem rd52 {H : Type} {enc : TypeId × Value → H} {w : World} {base : Nat} {spare : Nat → Bool} {held : Bool} {fuel : Nat} {cs : List Value} {x : DataW H × List MemPlace} (h : DataW.trod enc Tryz.prog w base spare held fuel 52 cs = some x) : ∃ (v : S_arr4_api_XY), cs = [.int .i64 (v.a0.X), .int .i64 (v.a0.Y), .int .i64 (v.a1.X), .int .i64 (v.a1.Y), .int .i64 (v.a2.X), .int .i64 (v.a2.Y), .int .i64 (v.a3.X), .int .i64 (v.a3.Y)] ∧ ok_S_arr4_api_XY v ∧ True := by
  obtain ⟨xs, n, _, _, hl, hlen, hf⟩ := DataW.trod_array Tryz.underlying52 h
  have hlen' : xs.length = 4 := hlen
  have hl' : cs.length = 8 := hl.trans (by kernel_rfl)
  rw [show Tryz.prog.cellsOf 38 = 2 from by kernel_rfl] at hf
  have h0 : DataW.trod enc Tryz.prog w base spare held n 38 (List.take 2 (List.drop 0 cs)) = xs[0]? := hf 0 (by decide)
  rw [List.getElem?_eq_getElem (by omega)] at h0
  obtain ⟨v0, e0, o0, -⟩ := rd38 h0
  have h1 : DataW.trod enc Tryz.prog w base spare held n 38 (List.take 2 (List.drop 2 cs)) = xs[1]? := hf 1 (by decide)
  rw [List.getElem?_eq_getElem (by omega)] at h1
  obtain ⟨v1, e1, o1, -⟩ := rd38 h1
  have h2 : DataW.trod enc Tryz.prog w base spare held n 38 (List.take 2 (List.drop 4 cs)) = xs[2]? := hf 2 (by decide)
  rw [List.getElem?_eq_getElem (by omega)] at h2
  obtain ⟨v2, e2, o2, -⟩ := rd38 h2
  have h3 : DataW.trod enc Tryz.prog w base spare held n 38 (List.take 2 (List.drop 6 cs)) = xs[3]? := hf 3 (by decide)
  rw [List.getElem?_eq_getElem (by omega)] at h3
  obtain ⟨v3, e3, o3, -⟩ := rd38 h3
  refine ⟨⟨v0, v1, v2, v3⟩, ?_, ⟨o0, o1, o2, o3⟩, trivial⟩
  have := sp_cons (o := 0) (o' := 2) e0 (sp_cons (o := 2) (o' := 4) e1 (sp_cons (o := 4) (o' := 6) e2 (sp_cons (o := 6) (o' := 8) e3 (sp_nil hl') rfl) rfl) rfl) rfl
  simpa using this
theorem okWide_arr {P : Program} {w : World} {r : Reach} {base : Nat} {t : TypeId} {v : Value} {n : Nat} {e : TypeId} (ht : P.underlying t = some (.array n e)) (h : Value.okWide P w r base t v) : ∃ cs, v = .agg cs ∧ cs.size = P.cellsOf t := by
  simp only [Value.okWide, ht] at h
  obtain ⟨cs, h1, h2, _⟩ := h
  exact ⟨cs, h1, h2⟩
set_option maxRecDepth 100000 in
set_option maxHeartbeats 1000000 in
theorem meshLegalLifted (os : Os) (started : os.Started) (H : Type) (enc : TypeId × Value → H) :
    ReturnsInHanded {} Tryz.checked os 4 .any (Rows.meshLegalSpec.pre6 enc Tryz.prog Tryz.f4 Rows.meshLegalRow.domain false) (Rows.meshLegalSpec.post enc Tryz.prog Tryz.f4 false true false false) := by
  refine returnsInHanded_of_change (C := Tryz.checked) own2 started (by kernel_rfl) Tryz.func4
    (ChangeSpec.witness6 (enc := enc) (C := Tryz.checked) false ⟨#[], #[.agg #[.int .i64 (0), .int .i64 (0), .int .i64 (0), .int .i64 (0), .int .i64 (0), .int .i64 (0), .int .i64 (0), .int .i64 (0)]], []⟩ 16 (by kernel_rfl) (by kernel_rfl) (by kernel_rfl) (by kernel_rfl)) ?_
  intro W base args ds gs before hval0 hW hcnd _
  have hval : ∀ (j : Nat) t v, Tryz.f4.params[j]? = some t → args[j]? = some v → Value.okWide Tryz.prog W .any base t v := hval0
  have hW' := hW
  obtain ⟨p, q, hA0, hV, rfl, hfz, hnd⟩ := hW
  have hA : DataW.TrodAll enc Tryz.prog W 0 (fun _ => true) true Tryz.f4.params.toList args.toList ds p := hA0
  rw [Tryz.params4] at hA hval
  obtain ⟨v0, vs0, d0, ds0, m0, q0, hargs, rfl, rfl, h0, r0⟩ := trodAll_cons hA
  obtain ⟨rfl, rfl, rfl⟩ := trodAll_nil r0
  obtain rfl : args = #[v0] := by cases args; simp_all
  obtain ⟨rfl, rfl⟩ := trodVars_none hV
  have k0 := h0
  have lt0 : ∀ x ∈ m0, x.block < W.heap.size := by obtain ⟨m, hm⟩ := k0; exact DataW.trod_lt m _ _ _ hm
  obtain ⟨fu0, hh0⟩ := h0
  obtain ⟨a0, e0, o0, -⟩ := rd52 hh0
  obtain ⟨⟨cs0⟩, rfl, _⟩ := okWide_arr Tryz.underlying52 (hval 0 52 v0 rfl rfl)
  have e0' : cs0 = _ := e0
  subst e0'
  clear hA0 hval0
  refine (lidarlaw06_MeshLegal_ok a0  ((fun p _ => meshLegal_eq p) a0 o0) W).2.mono fun e W' hr => ?_
  obtain ⟨v, Ln, rfl, ⟨hv, rfl, -⟩, _, hh⟩ := hr
  subst hv
  have bel : Below W.heap.size W W' := (hh.ok (.old W) (by simp)).1
  exact ⟨_, rfl, _, _, _, [], _, [], hW', trodAll_mk1 (shut_bool Tryz.underlying4 _), (trodAll_cons_mk (Below.trod laidOut2 (by kernel_rfl) (of_decide_eq_true (by kernel_rfl)) k0 bel lt0) trodAll_mk0), rfl, bel.frame _, fun h => by cases h⟩
theorem meshLegal_proved : Rows.MeshLegalSaid :=
  OpenClaim.holds_of_wide 4 Tryz.f4 rfl rfl rfl rfl rfl rfl rfl ⟨rfl, rfl, rfl, rfl, rfl⟩ rfl rfl rfl rfl rfl (by kernel_rfl) Tryz.func4 (by kernel_rfl)
    (of_decide_eq_true (by kernel_rfl)) (by unfold Func.isWrapper; first | (rw [if_pos (by decide +kernel)]; kernel_rfl) | (rw [if_neg (by decide +kernel)]; exact ⟨rfl, rfl⟩))
    (fun os started H enc _ => meshLegalLifted os started H enc)
#print axioms meshLegal_proved
end Go.Proofs.YtlkgeeppfifeeaaGreat
