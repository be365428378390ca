/- Plain laws of layer 9: Thin and Coarse. -/
import Derived.Test.YtjhknbpiaikblaaP3
namespace Go.Proofs.Ytjhknbpiaikblaa
open Go Go.RowKit
/-! ### Thin -/
def thinC (g : S_api_Grid) (nx ny k : Nat) : List S_api_Cell := (List.range (dim nx k * dim ny k)).map (fun i => g.Cells.getD (i / dim nx k * k * nx + i % dim nx k * k) default)
theorem at_bd {nx ny k x y : Nat} (hk : 1 ≤ k) (hx : x < dim nx k) (hy : y < dim ny k) : x * k < nx ∧ y * k < ny ∧ y * k * nx + x * k < nx * ny := by
  have h1 := (lt_dim hk).1 hx
  have h2 := (lt_dim hk).1 hy
  exact ⟨h1, h2, cell_lt h1 h2⟩
theorem thin_step {g : S_api_Grid} {nx ny st k : Nat} (h : Dims g nx ny st) (hk : 1 ≤ k) {r : S_api_Raster} (hr : r.NX = ((dim nx k : Nat) : Int)) {y x : Nat} (hy : y < dim ny k) (hx : x < dim nx k) {s : List S_api_Cell × Int} (hs : s.2 = (y : Int)) {acc : List S_api_Cell} (ha : acc.length ≤ 100000) :
    model_Thin_l9 r g s (k : Int) (acc, (x : Int)) = some (.inl (acc ++ [g.Cells.getD (y * k * nx + x * k) default], ((x + 1 : Nat) : Int))) := by
  obtain ⟨b1, b2, b3⟩ := at_bd (nx := nx) (ny := ny) hk hx hy
  have hb := h.le; have hbx := h.bx; have hby := h.by_
  have hyk : y * k * nx ≤ 4096 := by omega
  have hdx := (dim_le h.bx.1 hk).2
  have hxx : x < 64 := by unfold dim at hx; omega
  unfold model_Thin_l9
  simp only
  rw [if_pos (by omega), hs, h.ex]
  have e1 : w64 ((y : Int) * (k : Int)) = ((y * k : Nat) : Int) := by rw [← Int.natCast_mul, w64_nat (by omega)]
  have e2 : w64 (((y * k : Nat) : Int) * (nx : Int)) = ((y * k * nx : Nat) : Int) := by rw [← Int.natCast_mul, w64_nat (by omega)]
  have e3 : w64 ((x : Int) * (k : Int)) = ((x * k : Nat) : Int) := by rw [← Int.natCast_mul, w64_nat (by omega)]
  have e4 : w64 (((y * k * nx : Nat) : Int) + ((x * k : Nat) : Int)) = ((y * k * nx + x * k : Nat) : Int) := by rw [← Int.natCast_add, w64_nat (by omega)]
  have hl : y * k * nx + x * k < g.Cells.length := by rw [h.len]; exact b3
  rw [e1, e2, e3, e4, idx_nat hl, bnd_s, gd_t (by omega), w64_succ (by omega)]
  simp [hl]
theorem thin_inner {g : S_api_Grid} {nx ny st k : Nat} (h : Dims g nx ny st) (hk : 1 ≤ k) {r : S_api_Raster} (hr : r.NX = ((dim nx k : Nat) : Int)) {y : Nat} (hy : y < dim ny k) {s : List S_api_Cell × Int} (hs : s.2 = (y : Int)) :
    ∀ m x, x ≤ dim nx k → dim nx k - x = m → ∀ acc : List S_api_Cell, acc.length ≤ 4096 + x → lfix (model_Thin_l9 r g s (k : Int)) (acc, (x : Int)) = some (acc ++ (List.range' x m).map (fun x => g.Cells.getD (y * k * nx + x * k) default)) := by
  have hd' : dim nx k ≤ nx := (dim_le h.bx.1 hk).2
  have hbx := h.bx
  intro m
  induction m with
  | zero =>
    intro x hx hm acc ha
    have e : model_Thin_l9 r g s (k : Int) (acc, (x : Int)) = some (.inr acc) := by
      unfold model_Thin_l9
      simp only
      rw [if_neg (by omega)]
    rw [lfix_eq, e]
    simp
  | succ m ih =>
    intro x hx hm acc ha
    rw [lfix_eq, thin_step h hk hr hy (by omega) hs (by omega)]
    simp only
    rw [ih (x + 1) (by omega) (by omega) _ (by simp; omega)]
    rw [List.range'_succ, List.map_cons]
    simp
theorem range_rows {α : Type} (a b : Nat) (f : Nat → α) (ha : 0 < a) : (List.range (a * b)).map f = (List.range b).flatMap (fun y => (List.range a).map (fun x => f (y * a + x))) := by
  induction b with
  | zero => simp
  | succ b ih =>
    rw [Nat.mul_succ, List.range_add, List.map_append, ih, List.range_succ, List.flatMap_append]
    simp [Nat.mul_comm a b]
theorem thin_outer {g : S_api_Grid} {nx ny st k : Nat} (h : Dims g nx ny st) (hk : 1 ≤ k) {r : S_api_Raster} (hr : r.NX = ((dim nx k : Nat) : Int)) (hry : r.NY = ((dim ny k : Nat) : Int)) :
    ∀ m y, y ≤ dim ny k → dim ny k - y = m → ∀ acc : List S_api_Cell, acc.length = y * dim nx k → lfix (model_Thin_l6 r g (k : Int)) (acc, (y : Int)) = some (acc ++ (List.range' y m).flatMap (fun y => (List.range (dim nx k)).map (fun x => g.Cells.getD (y * k * nx + x * k) default))) := by
  have hd' : dim nx k ≤ nx := (dim_le h.bx.1 hk).2
  have hdy : dim ny k ≤ ny := (dim_le h.by_.1 hk).2
  have hby := h.by_
  intro m
  induction m with
  | zero =>
    intro y hy hm acc ha
    have e : model_Thin_l6 r g (k : Int) (acc, (y : Int)) = some (.inr acc) := by
      unfold model_Thin_l6
      simp only
      rw [if_neg (by omega)]
    rw [lfix_eq, e]
    simp
  | succ m ih =>
    intro y hy hm acc ha
    have hle : acc.length ≤ 4096 := by
      rw [ha]
      have h1 : y * dim nx k ≤ ny * nx := Nat.mul_le_mul (by omega) hd'
      have := h.le
      rw [Nat.mul_comm] at this; omega
    have hin := thin_inner h hk hr (show y < dim ny k by omega) (s := (acc, (y : Int))) rfl (dim nx k) 0 (Nat.zero_le _) rfl acc (by omega)
    have e : model_Thin_l6 r g (k : Int) (acc, (y : Int)) = some (.inl (acc ++ (List.range' 0 (dim nx k)).map (fun x => g.Cells.getD (y * k * nx + x * k) default), ((y + 1 : Nat) : Int))) := by
      unfold model_Thin_l6
      simp only
      rw [if_pos (by omega)]
      simp only [jn_d]
      rw [show ((0 : Nat) : Int) = 0 from rfl] at hin
      rw [hin, bnd_s, w64_succ (by omega)]
    rw [lfix_eq, e]
    simp only
    rw [ih (y + 1) (by omega) (by omega) _ (by rw [List.length_append, List.length_map, List.length_range', ha, Nat.succ_mul])]
    rw [List.range'_succ, List.flatMap_cons, List.append_assoc, List.range_eq_range']
theorem flatMap_eq {α β : Type} {l : List α} {f g : α → List β} (h : ∀ x ∈ l, f x = g x) : l.flatMap f = l.flatMap g := by
  induction l with
  | nil => rfl
  | cons x r ih => rw [List.flatMap_cons, List.flatMap_cons, h x List.mem_cons_self, ih (fun y hy => h y (List.mem_cons_of_mem _ hy))]
def thinG (g : S_api_Grid) (nx ny st k : Nat) : S_api_Grid := ⟨redP g.Raster nx ny st k, thinC g nx ny k⟩
theorem thin_eq {g : S_api_Grid} {nx ny st : Nat} (h : Dims g nx ny st) {k : Int} (he : thinE g k = 0) : model_Thin g k = some (thinG g nx ny st k.toNat, 0) := by
  obtain ⟨hv, hk, hs⟩ := thinE_zero he
  obtain ⟨q, rfl⟩ : ∃ q : Nat, k = (q : Int) := ⟨k.toNat, by omega⟩
  have hq : 1 ≤ q := by omega
  have hsq : st * q ≤ 1000000 := by rw [h.es, ← Int.natCast_mul] at hs; omega
  unfold model_Thin
  rw [refused_eq, bnd_s, he, if_pos rfl, reduced_eq h hq hsq, bnd_s]
  simp only [jn_d]
  have ho := thin_outer h hq (r := redP g.Raster nx ny st q) rfl rfl (dim ny q) 0 (Nat.zero_le _) rfl [] (by simp)
  rw [show ((0 : Nat) : Int) = 0 from rfl] at ho
  rw [ho, bnd_s]
  have hd0 : 0 < dim nx q := (dim_le h.bx.1 hq).1
  simp only [thinG, thinC, Int.toNat_natCast, List.nil_append, range_rows _ _ _ hd0, ← List.range_eq_range']
  congr 3
  apply flatMap_eq
  intro y hy
  apply List.map_congr_left
  intro x hx
  have hx' : x < dim nx q := by simpa using hx
  obtain ⟨e1, e2⟩ := split_mod (y := y) hx'
  rw [e1, e2]
theorem thin_no {g : S_api_Grid} {k : Int} (he : thinE g k ≠ 0) : model_Thin g k = some (⟨⟨0, 0, 0, 0, 0⟩, []⟩, thinE g k) := by
  unfold model_Thin
  rw [refused_eq, bnd_s, if_neg he]
end Go.Proofs.Ytjhknbpiaikblaa
