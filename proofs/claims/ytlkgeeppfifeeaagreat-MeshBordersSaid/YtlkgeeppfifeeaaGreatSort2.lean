/- The comparators of the mesh, and the sorts by them. -/
import Derived.Test.YtlkgeeppfifeeaaGreatD3
import Derived.Test.YtlkgeeppfifeeaaGreatSl
namespace Go.Proofs.YtlkgeeppfifeeaaGreat
open Go Go.RowKit Go.Shelf Go.Lib Go.Sort
theorem enters_my {P : Program} {f : FuncId} (h : Enters P f) : ∀ (args : Array Value) (w : World), (callFunc f args).run P w = .ok (.enter f args) w := by
  obtain ⟨fn, h1, h2, h3⟩ := h
  obtain ⟨c, hc⟩ : ∃ c, fn.body = some c := by cases hb : fn.body with
    | none => rw [hb] at h3; cases h3
    | some c => exact ⟨c, rfl⟩
  exact enters_of h1 h2 hc
def smallI (z : Int) : Prop := -1000000000000 ≤ z ∧ z ≤ 1000000000000
instance (z : Int) : Decidable (smallI z) := by unfold smallI; infer_instance
def small2 (x : S_arr2_int) : Prop := smallI x.a0 ∧ smallI x.a1
instance (x : S_arr2_int) : Decidable (small2 x) := by unfold small2; infer_instance
def cmp2 (x y : S_arr2_int) : Int := if x.a0 = y.a0 then x.a1 - y.a1 else x.a0 - y.a0
theorem cmp2_lt (x y : S_arr2_int) : cmp2 x y < 0 ↔ x.a0 < y.a0 ∨ x.a0 = y.a0 ∧ x.a1 < y.a1 := by unfold cmp2; split <;> omega
theorem tot2 : TotOn small2 cmp2 where
  irr x _ := by rw [cmp2_lt]; omega
  trans x y z _ _ _ h1 h2 := by rw [cmp2_lt] at *; omega
  tot x y _ _ h1 h2 := by
    rw [cmp2_lt] at h1 h2
    obtain ⟨x0, x1⟩ := x
    obtain ⟨y0, y1⟩ := y
    simp only at h1 h2
    rw [show x0 = y0 by omega, show x1 = y1 by omega]
theorem order_cmp {x y : S_arr2_int} (hx : small2 x) (hy : small2 y) : mesh_order x y = some (cmp2 x y) := by
  obtain ⟨⟨_, _⟩, _, _⟩ := hx
  obtain ⟨⟨_, _⟩, _, _⟩ := hy
  unfold mesh_order cmp2
  split <;> (rw [w64_id (by omega) (by omega)])
theorem sort2_runs (l : List S_arr2_int) (hb : l.length ≤ 1000000000) (hp : ∀ x ∈ l, small2 x) {A : Option Addr} {m c : Nat} {t : TypeId} {gf : Nat} {cb : Array Value} (w : World) (hok : Ent.ok w (.r A m c t 2 (l.flatMap e_arr2_int)))
    (hcmp : CmpIn Tryz.prog small2 cmp2 (fun x => .agg #[.int .i64 x.a0, .int .i64 x.a1]) A m c t 2 gf cb w (l.flatMap e_arr2_int)) (eg : Enters Tryz.prog gf) : Sorts Tryz.prog 63 A m c t 2 gf cb w (l.flatMap e_arr2_int) ((sortBy cmp2 l).flatMap e_arr2_int) :=
  sortK_runs (ρ := Tryz.laysSort2_ren) Tryz.laysSort2 (k := 2) Tryz.isAgg48 Tryz.sizeOf48 (enc := e_arr2_int) (fun _ => rfl) (by decide) (fun x v hv => by simp [e_arr2_int] at hv; rcases hv with rfl | rfl <;> rfl) tot2 (enters_my eg) l hb hp w hok hcmp
def small3 (x : S_arr3_int) : Prop := True
instance (x : S_arr3_int) : Decidable (small3 x) := by unfold small3; infer_instance
def cmpI (x y : Int) : Int := if x < y then -1 else if y < x then 1 else 0
theorem cmpI_lt (x y : Int) : cmpI x y < 0 ↔ x < y := by
  unfold cmpI
  split
  · omega
  · split <;> omega
theorem cmpI_eq (x y : Int) : cmpI x y = 0 ↔ x = y := by
  unfold cmpI
  split
  · omega
  · split <;> omega
def cmp3 (x y : S_arr3_int) : Int := if cmpI x.a0 y.a0 = 0 then if cmpI x.a1 y.a1 = 0 then cmpI x.a2 y.a2 else cmpI x.a1 y.a1 else cmpI x.a0 y.a0
theorem cmp3_lt (x y : S_arr3_int) : cmp3 x y < 0 ↔ x.a0 < y.a0 ∨ x.a0 = y.a0 ∧ (x.a1 < y.a1 ∨ x.a1 = y.a1 ∧ x.a2 < y.a2) := by
  unfold cmp3
  simp only [cmpI_eq]
  split
  · split <;> rw [cmpI_lt] <;> omega
  · rw [cmpI_lt]; omega
theorem tot3 : TotOn small3 cmp3 where
  irr x _ := by rw [cmp3_lt]; omega
  trans x y z _ _ _ h1 h2 := by rw [cmp3_lt] at *; omega
  tot x y _ _ h1 h2 := by
    rw [cmp3_lt] at h1 h2
    obtain ⟨x0, x1, x2⟩ := x
    obtain ⟨y0, y1, y2⟩ := y
    simp only at h1 h2
    rw [show x0 = y0 by omega, show x1 = y1 by omega, show x2 = y2 by omega]
theorem cmp_int (x y : Int) : cmp_Compare_int_ x y = some (cmpI x y) := by
  unfold cmp_Compare_int_ cmp_isNaN_int_ cmpI
  simp only [bnd, decide_true, Bool.not_true, Bool.false_eq_true, if_false]
  split
  · rfl
  · split <;> rfl
theorem triangle_cmp {x y : S_arr3_int} (hx : small3 x) (hy : small3 y) : mesh_builder_triangles_1 x y = some (cmp3 x y) := by
  obtain ⟨x0, x1, x2⟩ := x
  obtain ⟨y0, y1, y2⟩ := y
  unfold mesh_builder_triangles_1 slices_Compare___int_int_ jn cmp3
  simp only
  have step : ∀ i : Int, slices_Compare___int_int__l2 [x0, x1, x2] [y0, y1, y2] i = if i < 3 then bnd (idx [x0, x1, x2] i) fun a => bnd (idx [y0, y1, y2] i) fun b => if cmpI a b = 0 then some (.inl (w64 (i + 1))) else some (.inr (.inr (cmpI a b))) else some (.inr (.inl ())) := by
    intro i
    unfold slices_Compare___int_int__l2
    simp only [cmp_int, List.length_cons, List.length_nil]
    by_cases h : i < 3
    · rw [if_pos (by omega), if_pos h]
      congr 1
      funext a
      rw [if_neg (by omega)]
      rfl
    · rw [if_neg (by omega), if_neg h]
  have w1 : w64 (0 + 1) = 1 := w64_id (by omega) (by omega)
  have w2 : w64 (1 + 1) = 2 := w64_id (by omega) (by omega)
  have w3 : w64 (2 + 1) = 3 := w64_id (by omega) (by omega)
  have i0 : ∀ a b c : Int, idx [a, b, c] 0 = some a := fun _ _ _ => rfl
  have i1 : ∀ a b c : Int, idx [a, b, c] 1 = some b := fun _ _ _ => rfl
  have i2 : ∀ a b c : Int, idx [a, b, c] 2 = some c := fun _ _ _ => rfl
  have s0 : slices_Compare___int_int__l2 [x0, x1, x2] [y0, y1, y2] 0 = if cmpI x0 y0 = 0 then some (.inl 1) else some (.inr (.inr (cmpI x0 y0))) := by rw [step, if_pos (by omega), w1]; simp only [i0, bnd]
  have s1 : slices_Compare___int_int__l2 [x0, x1, x2] [y0, y1, y2] 1 = if cmpI x1 y1 = 0 then some (.inl 2) else some (.inr (.inr (cmpI x1 y1))) := by rw [step, if_pos (by omega), w2]; simp only [i1, bnd]
  have s2 : slices_Compare___int_int__l2 [x0, x1, x2] [y0, y1, y2] 2 = if cmpI x2 y2 = 0 then some (.inl 3) else some (.inr (.inr (cmpI x2 y2))) := by rw [step, if_pos (by omega), w3]; simp only [i2, bnd]
  have s3 : slices_Compare___int_int__l2 [x0, x1, x2] [y0, y1, y2] 3 = some (.inr (.inl ())) := by rw [step, if_neg (by omega)]
  rw [lfix_eq, s0]
  by_cases h0 : cmpI x0 y0 = 0
  · rw [if_pos h0, if_pos h0]
    simp only
    rw [lfix_eq, s1]
    by_cases h1 : cmpI x1 y1 = 0
    · rw [if_pos h1, if_pos h1]
      simp only
      rw [lfix_eq, s2]
      by_cases h2 : cmpI x2 y2 = 0
      · rw [if_pos h2, h2]
        simp only
        rw [lfix_eq, s3]
        simp [bnd]
      · rw [if_neg h2]
        simp [bnd]
    · rw [if_neg h1, if_neg h1]
      simp [bnd]
  · rw [if_neg h0, if_neg h0]
    simp [bnd]
theorem sort3_runs (l : List S_arr3_int) (hb : l.length ≤ 1000000000) (hp : ∀ x ∈ l, small3 x) {A : Option Addr} {m c : Nat} {t : TypeId} {gf : Nat} {cb : Array Value} (w : World) (hok : Ent.ok w (.r A m c t 3 (l.flatMap e_arr3_int)))
    (hcmp : CmpIn Tryz.prog small3 cmp3 (fun x => .agg #[.int .i64 x.a0, .int .i64 x.a1, .int .i64 x.a2]) A m c t 3 gf cb w (l.flatMap e_arr3_int)) (eg : Enters Tryz.prog gf) : Sorts Tryz.prog 73 A m c t 3 gf cb w (l.flatMap e_arr3_int) ((sortBy cmp3 l).flatMap e_arr3_int) :=
  sortK_runs (ρ := Tryz.laysSort3_ren) Tryz.laysSort3 (k := 3) Tryz.isAgg35 Tryz.sizeOf35 (enc := e_arr3_int) (fun _ => rfl) (by decide) (fun x v hv => by simp [e_arr3_int] at hv; rcases hv with rfl | rfl | rfl <;> rfl) tot3 (enters_my eg) l hb hp w hok hcmp
/-- The order of places. -/
def befV (a b : S_api_Vertex) : Prop := a.X < b.X ∨ a.X = b.X ∧ a.Y < b.Y
instance (a b : S_api_Vertex) : Decidable (befV a b) := by unfold befV; infer_instance
def sameV (a b : S_api_Vertex) : Prop := a.X = b.X ∧ a.Y = b.Y
instance (a b : S_api_Vertex) : Decidable (sameV a b) := by unfold sameV; infer_instance
def distinctV (v : List S_api_Vertex) : Prop := v.Pairwise fun a b => ¬ sameV a b
instance (v : List S_api_Vertex) : Decidable (distinctV v) := by unfold distinctV; infer_instance
def okIx (v : List S_api_Vertex) (i : Int) : Prop := 0 ≤ i ∧ i < (v.length : Int)
instance (v : List S_api_Vertex) (i : Int) : Decidable (okIx v i) := by unfold okIx; infer_instance
def cmpR (v : List S_api_Vertex) (i j : Int) : Int := match idx v i, idx v j with
  | some a, some b => if befV a b then -1 else if befV b a then 1 else 0
  | _, _ => 0
theorem okIx_get {v : List S_api_Vertex} {i : Int} (h : okIx v i) : ∃ (k : Nat) (hk : k < v.length), i = (k : Int) ∧ idx v i = some v[k] := by
  obtain ⟨h0, h1⟩ := h
  obtain ⟨k, rfl⟩ := Int.eq_ofNat_of_zero_le h0
  have hk : k < v.length := by omega
  exact ⟨k, hk, rfl, idx_nat hk⟩
theorem cmpR_lt {v : List S_api_Vertex} {i j : Nat} (hi : i < v.length) (hj : j < v.length) : cmpR v (i : Int) (j : Int) < 0 ↔ befV v[i] v[j] := by
  unfold cmpR
  rw [idx_nat hi, idx_nat hj]
  simp only
  split
  · simp_all
  · split <;> simp_all
theorem totR {v : List S_api_Vertex} (hd : distinctV v) : TotOn (okIx v) (cmpR v) where
  irr x hx := by
    obtain ⟨i, hi, rfl, _⟩ := okIx_get hx
    rw [cmpR_lt hi hi]
    unfold befV
    omega
  trans x y z hx hy hz h1 h2 := by
    obtain ⟨i, hi, rfl, _⟩ := okIx_get hx
    obtain ⟨j, hj, rfl, _⟩ := okIx_get hy
    obtain ⟨k, hk, rfl, _⟩ := okIx_get hz
    rw [cmpR_lt hi hj] at h1
    rw [cmpR_lt hj hk] at h2
    rw [cmpR_lt hi hk]
    unfold befV at *
    omega
  tot x y hx hy h1 h2 := by
    obtain ⟨i, hi, rfl, _⟩ := okIx_get hx
    obtain ⟨j, hj, rfl, _⟩ := okIx_get hy
    rw [cmpR_lt hi hj] at h1
    rw [cmpR_lt hj hi] at h2
    have hs : sameV v[i] v[j] := by unfold befV at h1 h2; unfold sameV; omega
    unfold distinctV at hd
    rw [List.pairwise_iff_getElem] at hd
    rcases Nat.lt_trichotomy i j with h | h | h
    · exact absurd hs (hd i j hi hj h)
    · rw [h]
    · exact absurd ⟨hs.1.symm, hs.2.symm⟩ (hd j i hj hi h)
theorem before_eq (a b : S_api_Vertex) : mesh_before ⟨a.X, a.Y⟩ ⟨b.X, b.Y⟩ = some (decide (befV a b)) := by
  unfold mesh_before jn befV
  simp only
  by_cases h1 : a.X < b.X
  · simp [h1]
  · by_cases h2 : a.X = b.X
    · simp [h2]
    · simp [h1, h2]
theorem ranks_cmp (v : List S_api_Vertex) {x y : Int} (hx : okIx v x) (hy : okIx v y) : mesh_ranks_1 x y v = some (cmpR v x y) := by
  obtain ⟨i, hi, rfl, ei⟩ := okIx_get hx
  obtain ⟨j, hj, rfl, ej⟩ := okIx_get hy
  unfold mesh_ranks_1 cmpR
  simp only [ei, ej, bnd, mesh_at, before_eq, decide_eq_true_eq]
  split
  · rfl
  · split <;> rfl
theorem sort1_ranks (v : List S_api_Vertex) (hd : distinctV v) (l : List Int) (hb : l.length ≤ 1000000000) (hp : ∀ x ∈ l, okIx v x) {A : Option Addr} {m c : Nat} {t : TypeId} {gf : Nat} {cb : Array Value} (w : World) (hok : Ent.ok w (.r A m c t 1 (l.flatMap e_i64)))
    (hcmp : CmpIn Tryz.prog (okIx v) (cmpR v) (fun x => .int .i64 x) A m c t 1 gf cb w (l.flatMap e_i64)) (eg : Enters Tryz.prog gf) : Sorts Tryz.prog 68 A m c t 1 gf cb w (l.flatMap e_i64) ((sortBy (cmpR v) l).flatMap e_i64) :=
  sort1_runs (ρ := Tryz.laysSort1_ren) Tryz.laysSort1 (enc := Value.int .i64) (fun _ => rfl) (totR hd) (enters_my eg) l hb hp w hok hcmp
end Go.Proofs.YtlkgeeppfifeeaaGreat
