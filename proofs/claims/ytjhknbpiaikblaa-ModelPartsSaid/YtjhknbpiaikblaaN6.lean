/- Walks of the program, with their plain functions: numbers of the reference, amounts. -/
import Derived.Test.YtjhknbpiaikblaaN1
namespace Go.Proofs.Ytjhknbpiaikblaa
open Go Go.RowKit
theorem fdv43_1_abs (x0 : Bool) (x1 : Option Addr) (x2 : Nat) (x3 : Nat) : FieldV Try.prog 43 [.bool x0, .slice x1 x2 x3] 1 (.slice x1 x2 x3) := fun w => by kernel_rfl
theorem bls27_0_  : BuildSliceOf Try.prog 27 0 [] 3 [] := fun w => by kernel_rfl
theorem bld43_  : BuildOf Try.prog 43 [] [.bool (false), .slice (none) (0) (0)] := fun w => by kernel_rfl
theorem bld32_  : BuildOf Try.prog 32 [] [.bool (false), .slice (none) (0) (0), .slice (none) (0) (0)] := fun w => by kernel_rfl
theorem slc37 : SliceOf Try.prog 37 4 1 := .mk Try.underlying37 (show Try.prog.info? 4 = some Try.t4 from by kernel_rfl) (by kernel_rfl)
def e_u32 (x : Int) : List Value := [.int .u32 (x)]
theorem e_u32_len (x : Int) : (e_u32 x).length = 1 := rfl
structure S_api_Rat where
  Neg : Bool
  Num : List Int
  Den : List Int
structure S_lidarref01_Int where
  Neg : Bool
  L : List Int
theorem Has.mapc {α β : Type} {K : List Ent} {A : Option Addr} {n c sz : Nat} {ea : α → List Value} {eb : β → List Value} (f : α → β) (he : ∀ x, eb (f x) = ea x) {l : List α} (h : Has K A n c sz ea l) : Has K A n c sz eb (l.map f) := by
  refine ⟨by rw [List.length_map]; exact h.len, h.nc, h.cap, ?_, fun h0 => ?_⟩
  · intro x hx
    obtain ⟨y, hy, rfl⟩ := List.mem_map.1 hx
    rw [he]; exact h.esz y hy
  · obtain ⟨b, o, hA, hp⟩ := h.at_ h0
    refine ⟨b, o, hA, fun i hi => ?_⟩
    rw [List.getElem_map, he]
    exact hp i (by simpa using hi)
/-- Numbers as lists of limbs. -/
def nI (l : List Nat) : List Int := l.map (fun x : Nat => (x : Int))
def L16 (m : Nat) : List Int := nI (dig 65536 m)
def L32 (m : Nat) : List Int := nI (dig 4294967296 m)
theorem Has.nI64 {K : List Ent} {A : Option Addr} {n c : Nat} {l : List Nat} (h : Has K A n c 1 e64 l) : Has K A (nI l).length c 1 e_i64 (nI l) := (h.mapc (fun x : Nat => (x : Int)) (fun _ => rfl)).len'
theorem Has.nI32 {K : List Ent} {A : Option Addr} {n c : Nat} {l : List Nat} (h : Has K A n c 1 eW l) : Has K A (nI l).length c 1 e_u32 (nI l) := (h.mapc (fun x : Nat => (x : Int)) (fun _ => rfl)).len'
theorem toNat_nI : ∀ {l : List Int}, (∀ x ∈ l, 0 ≤ x) → nI (l.map Int.toNat) = l
  | [], _ => rfl
  | x :: r, h => by
    have h1 := h x List.mem_cons_self
    have ih := toNat_nI (l := r) (fun y hy => h y (List.mem_cons_of_mem _ hy))
    simp only [nI, List.map_cons] at ih ⊢
    rw [ih, Int.toNat_of_nonneg h1]
theorem Has.toN64 {K : List Ent} {A : Option Addr} {n c : Nat} {l : List Int} (hl : ∀ x ∈ l, 0 ≤ x) (h : Has K A n c 1 e_i64 l) : Has K A n c 1 e64 (l.map Int.toNat) := by
  refine ⟨by rw [List.length_map]; exact h.len, h.nc, h.cap, fun _ _ => rfl, fun h0 => ?_⟩
  obtain ⟨b, o, hA, hp⟩ := h.at_ h0
  refine ⟨b, o, hA, fun i hi => ?_⟩
  have hi' : i < l.length := by simpa using hi
  have := hp i hi'
  have he : e64 (l.map Int.toNat)[i] = e_i64 l[i] := by simp [e64, e_i64, Int.toNat_of_nonneg (hl _ (List.getElem_mem hi'))]
  rw [he]; exact this
theorem CtL.of {P : Program} {f : FuncId} {vs : List Value} {w : World} {R S : Value → List Ent → Prop} (h : CtL P f vs w R) (k : ∀ v Ln, R v Ln → S v Ln) : CtL P f vs w S := by
  obtain ⟨h1, h2⟩ := h
  exact ⟨h1, h2.mono (by rintro e w' ⟨v, Ln, h3, h4, h6, h7⟩; exact ⟨v, Ln, h3, k _ _ h4, h6, h7⟩)⟩

def Z16 (z : Int) : S_lidarref01_Int := ⟨decide (z < 0), L16 z.natAbs⟩
def lidarref01_Small (z : Int) : Option S_lidarref01_Int := if -9223372036854775808 ≤ z ∧ z ≤ 9223372036854775807 then some (Z16 z) else none
theorem lidarref01_Small_ok (p0 : Int) {r : S_lidarref01_Int} (hx : lidarref01_Small p0 = some r) (w : World) : CtL Try.prog 94 [.int .i64 (p0)] w fun v Ln => ∃ (A0 : Option Addr) (c0 : Nat) (e0 : Ent), v = .agg #[.bool (r.Neg), .slice A0 (r.L).length c0] ∧ Ln = [e0] ∧ Has ([e0] : List Ent) A0 (r.L).length c0 1 e_i64 (r.L) ∧ True := by
  unfold lidarref01_Small at hx
  split at hx
  · rename_i h
    obtain rfl := Option.some.inj hx
    refine (small_ok p0 h.1 h.2 w).of ?_
    rintro v Ln ⟨e, ⟨A, k, c, rfl, h1⟩, rfl⟩
    exact ⟨A, c, e, by simp [Z16, L16, nI, h1.len], rfl, h1.nI64, trivial⟩
  · cases hx
def lidarref01_trim (l : List Int) : Option (List Int) := if ∀ x ∈ l, 0 ≤ x then some (nI (nrm (l.map Int.toNat))) else none
theorem trim_front {l r : List Int} (h : lidarref01_trim l = some r) : ∃ k, r = l.take k := by
  unfold lidarref01_trim at h
  split at h
  · rename_i h0
    obtain rfl := Option.some.inj h
    refine ⟨(nrm (l.map Int.toNat)).length, ?_⟩
    have h1 := toNat_nI h0
    calc nI (nrm (l.map Int.toNat)) = nI ((l.map Int.toNat).take (nrm (l.map Int.toNat)).length) := by rw [← nrm_take]
      _ = (nI (l.map Int.toNat)).take (nrm (l.map Int.toNat)).length := by simp only [nI, List.map_take]
      _ = l.take (nrm (l.map Int.toNat)).length := by rw [h1]
  · cases h
theorem lidarref01_trim_ok (p0 : List Int) {K : List Ent} {A0_0 : Option Addr} {c0_0 : Nat} (ha0 : Has K A0_0 (p0).length c0_0 1 e_i64 (p0)) {r : List Int} (hx : lidarref01_trim p0 = some r) (w : World) (hK : ∀ e ∈ K, Ent.ok w e) : CtL Try.prog 131 [.slice (A0_0) ((p0).length) (c0_0)] w fun v Ln => v = .slice (A0_0) ((r).length) (c0_0) ∧ Ln = [] ∧ Has K A0_0 (r).length c0_0 1 e_i64 (r) ∧ True := by
  obtain ⟨k, hk⟩ := trim_front hx
  unfold lidarref01_trim at hx
  split at hx
  · rename_i h0
    obtain rfl := Option.some.inj hx
    refine (trim_ok (ha0.toN64 h0) w hK).of ?_
    rintro v Ln ⟨rfl, rfl⟩
    refine ⟨by simp [nI], rfl, ?_, trivial⟩
    rw [hk]
    rcases Nat.le_total k p0.length with h | h
    · exact (ha0.take h).len'
    · rw [List.take_of_length_le h]; exact ha0
  · cases hx
def Z32 (z : Int) : S_api_Rat := ⟨decide (z < 0), L32 z.natAbs, []⟩
def model_times (f : S_api_Raster) (z : Int) : Option S_api_Rat := if (0 ≤ f.Step * f.Step ∧ f.Step * f.Step ≤ 1000000000000) ∧ -9223372036854775808 ≤ z ∧ z ≤ 9223372036854775807 then some (Z32 (f.Step * f.Step * z)) else none
theorem model_times_ok (p0 : S_api_Raster) (p1 : Int) {r : S_api_Rat} (hx : model_times p0 p1 = some r) (w : World) : CtL Try.prog 67 [.agg #[.int .i64 (p0.X0), .int .i64 (p0.Y0), .int .i64 (p0.Step), .int .i64 (p0.NX), .int .i64 (p0.NY)], .int .i64 (p1)] w fun v Ln => ∃ (A0 : Option Addr) (c0 : Nat) (A1 : Option Addr) (c1 : Nat) (e0 : Ent), v = .agg #[.bool (r.Neg), .slice A0 (r.Num).length c0, .slice A1 (r.Den).length c1] ∧ Ln = [e0] ∧ Has ([e0] : List Ent) A0 (r.Num).length c0 1 e_u32 (r.Num) ∧ Has ([e0] : List Ent) A1 (r.Den).length c1 1 e_u32 (r.Den) ∧ True := by
  unfold model_times at hx
  split at hx
  · rename_i h
    obtain rfl := Option.some.inj hx
    refine (times_ok h.1 h.2.1 h.2.2 w).of ?_
    rintro v Ln ⟨e, ⟨A, k, c, rfl, h1⟩, rfl⟩
    exact ⟨A, c, none, 0, e, by simp [Z32, L32, nI, h1.len], rfl, h1.nI32, Has.nil, trivial⟩
  · cases hx
noncomputable def lidarref01_short_l4 (p0 : List Int) (p1 : Int) : ((List Int) × Int × Int) → Option (Sum ((List Int) × Int × Int) ((List Int) × Int)) := fun s34 =>
 if 0 ≤ s34.2.2 then (bnd (idx p0 s34.2.2) fun x38 =>
 gd (p1 ≠ 0) <|
 bnd (idx s34.1 s34.2.2) fun x51 =>
 gd (p1 ≠ 0) <|
 some (.inl (setI s34.1 s34.2.2 (w64 (Int.tdiv (w64 ((w64 (s34.2.1 * 65536)) + x38)) p1)), Int.tmod (w64 ((w64 (s34.2.1 * 65536)) + x38)) p1, w64 (s34.2.2 - 1))))
 else (some (.inr (s34.1, s34.2.1)))
noncomputable def lidarref01_short (p0 : List Int) (p1 : Int) : Option ((List Int) × Int) :=
 gd ((0 : Int) ≤ ((((p0).length : Nat) : Int)) ∧ 8 * Int.toNat ((((p0).length : Nat) : Int)) ≤ 140737488355328) <|
 jn (fun (s4 : (List Int) × Int) =>
 bnd (lidarref01_trim s4.1) fun r70 =>
 some (r70, s4.2))
 (fun j4 => bnd (lfix (lidarref01_short_l4 p0 p1) (List.replicate (Int.toNat ((((p0).length : Nat) : Int))) (0 : Int), 0, w64 (((((p0).length : Nat) : Int)) - 1))) fun t34 =>
 j4 t34)
noncomputable def lidarref01_compare_l6 (p0 : List Int) (p1 : List Int) : Int → Option (Sum Int (Sum Unit Int)) := fun s61 =>
 if 0 ≤ s61 then (bnd (idx p0 s61) fun x65 =>
 bnd (idx p1 s61) fun x76 =>
 if x65 = x76 then (some (.inl (w64 (s61 - 1))))
 else (bnd (idx p0 s61) fun x89 =>
 bnd (idx p1 s61) fun x100 =>
 if x89 < x100 then (some (.inr (.inr (-1))))
 else (some (.inr (.inr (1))))))
 else (some (.inr (.inl ())))
noncomputable def lidarref01_compare (p0 : List Int) (p1 : List Int) : Option Int :=
 if ((((p0).length : Nat) : Int)) = ((((p1).length : Nat) : Int)) then (jn (fun (s8 : Unit) =>
 some 0)
 (fun j8 => bnd (lfix (lidarref01_compare_l6 p0 p1) (w64 (((((p0).length : Nat) : Int)) - 1))) fun t61 =>
 (match t61 with
 | (.inl z61) => j8 z61
 | (.inr (z61)) => some z61
 )))
 else (if ((((p0).length : Nat) : Int)) < ((((p1).length : Nat) : Int)) then (some (-1))
 else (some 1))
noncomputable def lidarref01_plus_l4 (p1 : List Int) (p0 : List Int) : ((List Int) × Int × Int) → Option (Sum ((List Int) × Int × Int) (List Int)) := fun s51 =>
 jn (fun (s16 : Bool) =>
 if s16 = true then (jn (fun (s19 : Int) =>
 jn (fun (s21 : Int) =>
 gd (((s51.1).length + 1) * 8 ≤ 140737488355328) <|
 some (.inl (s51.1 ++ [Int.tmod s21 65536], w64 (Int.tdiv s21 65536), w64 (s51.2.2 + 1))))
 (fun j21 => if s51.2.2 < ((((p1).length : Nat) : Int)) then (bnd (idx p1 s51.2.2) fun x82 =>
 j21 (w64 (s19 + x82)))
 else (j21 s19)))
 (fun j19 => if s51.2.2 < ((((p0).length : Nat) : Int)) then (bnd (idx p0 s51.2.2) fun x66 =>
 j19 (w64 (s51.2.1 + x66)))
 else (j19 s51.2.1)))
 else (some (.inr s51.1)))
 (fun j16 => if s51.2.2 < ((((p0).length : Nat) : Int)) then (j16 true)
 else (if s51.2.2 < ((((p1).length : Nat) : Int)) then (j16 true)
 else (j16 (decide (0 < s51.2.1)))))
noncomputable def lidarref01_plus (p0 : List Int) (p1 : List Int) : Option (List Int) :=
 jn (fun (s4 : List Int) =>
 bnd (lidarref01_trim s4) fun r105 =>
 some r105)
 (fun j4 => bnd (lfix (lidarref01_plus_l4 p1 p0) (([] : List Int), 0, 0)) fun t51 =>
 j4 t51)
noncomputable def lidarref01_less_l4 (p0 : List Int) (p1 : List Int) : ((List Int) × Int × Int) → Option (Sum ((List Int) × Int × Int) (List Int)) := fun s43 =>
 if s43.2.2 < ((((p0).length : Nat) : Int)) then (bnd (idx p0 s43.2.2) fun x48 =>
 jn (fun (s20 : Int) =>
 jn (fun (s23 : Int × Int) =>
 gd (((s43.1).length + 1) * 8 ≤ 140737488355328) <|
 some (.inl (s43.1 ++ [s23.2], s23.1, w64 (s43.2.2 + 1))))
 (fun j23 => if s20 < 0 then (j23 (1, w64 (s20 + 65536)))
 else (j23 (0, s20))))
 (fun j20 => if s43.2.2 < ((((p1).length : Nat) : Int)) then (bnd (idx p1 s43.2.2) fun x61 =>
 j20 (w64 ((w64 (x48 - s43.2.1)) - x61)))
 else (j20 (w64 (x48 - s43.2.1)))))
 else (some (.inr s43.1))
noncomputable def lidarref01_less (p0 : List Int) (p1 : List Int) : Option (List Int) :=
 jn (fun (s4 : List Int) =>
 bnd (lidarref01_trim s4) fun r89 =>
 some r89)
 (fun j4 => bnd (lfix (lidarref01_less_l4 p0 p1) (([] : List Int), 0, 0)) fun t43 =>
 j4 t43)
noncomputable def lidarref01_times_l7 (p1 : List Int) (p0 : List Int) (s119 : (List Int) × Int) : ((List Int) × Int × Int) → Option (Sum ((List Int) × Int × Int) ((List Int) × Int)) := fun s171 =>
 if s171.2.2 < ((((p1).length : Nat) : Int)) then (bnd (idx p0 s119.2) fun x175 =>
 bnd (idx p1 s171.2.2) fun x186 =>
 bnd (idx s171.1 (w64 (s119.2 + s171.2.2))) fun x197 =>
 bnd (idx s171.1 (w64 (s119.2 + s171.2.2))) fun x208 =>
 some (.inl (setI s171.1 (w64 (s119.2 + s171.2.2)) (Int.tmod (w64 ((w64 ((w64 (x175 * x186)) + x197)) + s171.2.1)) 65536), w64 (Int.tdiv (w64 ((w64 ((w64 (x175 * x186)) + x197)) + s171.2.1)) 65536), w64 (s171.2.2 + 1))))
 else (some (.inr (s171.1, s171.2.1)))
noncomputable def lidarref01_times_l3 (p0 : List Int) (p1 : List Int) : ((List Int) × Int) → Option (Sum ((List Int) × Int) (List Int)) := fun s119 =>
 if s119.2 < ((((p0).length : Nat) : Int)) then (jn (fun (s25 : (List Int) × Int) =>
 bnd (idx s25.1 (w64 (s119.2 + ((((p1).length : Nat) : Int))))) fun x223 =>
 some (.inl (setI s25.1 (w64 (s119.2 + ((((p1).length : Nat) : Int)))) s25.2, w64 (s119.2 + 1))))
 (fun j25 => bnd (lfix (lidarref01_times_l7 p1 p0 s119) (s119.1, 0, 0)) fun t171 =>
 j25 t171))
 else (some (.inr s119.1))
noncomputable def lidarref01_times (p0 : List Int) (p1 : List Int) : Option (List Int) :=
 gd ((0 : Int) ≤ (w64 (((((p0).length : Nat) : Int)) + ((((p1).length : Nat) : Int)))) ∧ 8 * Int.toNat (w64 (((((p0).length : Nat) : Int)) + ((((p1).length : Nat) : Int)))) ≤ 140737488355328) <|
 jn (fun (s3 : List Int) =>
 bnd (lidarref01_trim s3) fun r240 =>
 some r240)
 (fun j3 => bnd (lfix (lidarref01_times_l3 p0 p1) (List.replicate (Int.toNat (w64 (((((p0).length : Nat) : Int)) + ((((p1).length : Nat) : Int))))) (0 : Int), 0)) fun t119 =>
 j3 t119)
noncomputable def lidarref01_divide_l23 (r254 : List Int) (r55 : List Int) : (Int × (List Int)) → Option (Sum (Int × (List Int)) (Int × (List Int))) := fun s339 =>
 bnd (lidarref01_compare s339.2 r254) fun r344 =>
 if 0 < r344 then (bnd (lidarref01_less s339.2 r55) fun r354 =>
 some (.inl (w64 (s339.1 - 1), r354)))
 else (some (.inr (s339.1, s339.2)))
noncomputable def lidarref01_divide_l11 (r49 : List Int) (r55 : List Int) : ((List Int) × (List Int) × Int) → Option (Sum ((List Int) × (List Int) × Int) ((List Int) × (List Int))) := fun s230 =>
 if 0 ≤ s230.2.2 then (bnd (idx r49 s230.2.2) fun x234 =>
 gd ((([x234]).length + (s230.2.1).length) * 8 ≤ 140737488355328) <|
 bnd (lidarref01_trim (([x234]) ++ s230.2.1)) fun r254 =>
 jn (fun (s41 : Int) =>
 bnd (lidarref01_trim ([s41])) fun r308 =>
 bnd (lidarref01_times r55 r308) fun r314 =>
 jn (fun (s49 : Int × (List Int)) =>
 bnd (lidarref01_less r254 s49.2) fun r365 =>
 bnd (idx s230.1 s230.2.2) fun x370 =>
 some (.inl (setI s230.1 s230.2.2 s49.1, r365, w64 (s230.2.2 - 1))))
 (fun j49 => bnd (lfix (lidarref01_divide_l23 r254 r55) (s41, r314)) fun t339 =>
 j49 t339))
 (fun j41 => if ((((r55).length : Nat) : Int)) ≤ ((((r254).length : Nat) : Int)) then (bnd (idx r254 (w64 (((((r254).length : Nat) : Int)) - 1))) fun x260 =>
 jn (fun (s44 : Int) =>
 bnd (idx r55 (w64 (((((r55).length : Nat) : Int)) - 1))) fun x287 =>
 gd (x287 ≠ 0) <|
 if 65536 ≤ (w64 (Int.tdiv s44 x287)) then (j41 65535)
 else (j41 (w64 (Int.tdiv s44 x287))))
 (fun j44 => if ((((r55).length : Nat) : Int)) < ((((r254).length : Nat) : Int)) then (bnd (idx r254 (w64 (((((r254).length : Nat) : Int)) - 2))) fun x273 =>
 j44 (w64 ((w64 (x260 * 65536)) + x273)))
 else (j44 x260)))
 else (j41 0)))
 else (some (.inr (s230.1, s230.2.1)))
noncomputable def lidarref01_divide (p0 : List Int) (p1 : List Int) : Option ((List Int) × (List Int)) :=
 bnd (lidarref01_compare p0 p1) fun r1 =>
 if r1 < 0 then (some (([] : List Int), p0))
 else (if ((((p1).length : Nat) : Int)) = 1 then (bnd (idx p1 0) fun x9 =>
 bnd (lidarref01_short p0 x9) fun r20 =>
 bnd (lidarref01_Small r20.2) fun r25 =>
 some (r20.1, r25.L))
 else (bnd (idx p1 (w64 (((((p1).length : Nat) : Int)) - 1))) fun x34 =>
 gd ((w64 (x34 + 1)) ≠ 0) <|
 bnd (lidarref01_times p0 ([w64 (Int.tdiv 65536 (w64 (x34 + 1)))])) fun r49 =>
 bnd (lidarref01_times p1 ([w64 (Int.tdiv 65536 (w64 (x34 + 1)))])) fun r55 =>
 gd ((0 : Int) ≤ (w64 ((w64 (((((r49).length : Nat) : Int)) - ((((r55).length : Nat) : Int)))) + 1)) ∧ 8 * Int.toNat (w64 ((w64 (((((r49).length : Nat) : Int)) - ((((r55).length : Nat) : Int)))) + 1)) ≤ 140737488355328) <|
 gd (0 ≤ (w64 ((w64 (((((r49).length : Nat) : Int)) - ((((r55).length : Nat) : Int)))) + 1)) ∧ (w64 ((w64 (((((r49).length : Nat) : Int)) - ((((r55).length : Nat) : Int)))) + 1)) ≤ (((r49).length : Nat) : Int)) <|
 gd (((([] : List Int)).length + (subl r49 (w64 ((w64 (((((r49).length : Nat) : Int)) - ((((r55).length : Nat) : Int)))) + 1)) (((r49).length : Nat) : Int)).length) * 8 ≤ 140737488355328) <|
 bnd (lidarref01_trim ((([] : List Int)) ++ (subl r49 (w64 ((w64 (((((r49).length : Nat) : Int)) - ((((r55).length : Nat) : Int)))) + 1)) (((r49).length : Nat) : Int)))) fun r75 =>
 jn (fun (s13 : (List Int) × (List Int)) =>
 bnd (idx ([w64 (Int.tdiv 65536 (w64 (x34 + 1)))]) 0) fun x385 =>
 bnd (lidarref01_short s13.2 x385) fun r398 =>
 bnd (lidarref01_trim s13.1) fun r405 =>
 some (r405, r398.1))
 (fun j13 => bnd (lfix (lidarref01_divide_l11 r49 r55) (List.replicate (Int.toNat (w64 ((w64 (((((r49).length : Nat) : Int)) - ((((r55).length : Nat) : Int)))) + 1))) (0 : Int), r75, w64 (((((r49).length : Nat) : Int)) - ((((r55).length : Nat) : Int))))) fun t230 =>
 j13 t230)))
noncomputable def lidarref01_gcd_l1  : ((List Int) × (List Int)) → Option (Sum ((List Int) × (List Int)) (List Int)) := fun s19 =>
 if 0 < ((((s19.2).length : Nat) : Int)) then (bnd (lidarref01_divide s19.1 s19.2) fun r26 =>
 some (.inl (s19.2, r26.2)))
 else (some (.inr s19.1))
noncomputable def lidarref01_gcd (p0 : List Int) (p1 : List Int) : Option (List Int) :=
 jn (fun (s2 : List Int) =>
 some s2)
 (fun j2 => bnd (lfix (lidarref01_gcd_l1) (p0, p1)) fun t19 =>
 j2 t19)
structure S_lidarref01_Q where
  N : S_lidarref01_Int
  D : List Int
noncomputable def lidarref01_Frac (p0 : S_lidarref01_Int) (p1 : S_lidarref01_Int) : Option S_lidarref01_Q :=
 bnd (lidarref01_gcd p0.L p1.L) fun r4 =>
 bnd (lidarref01_divide p0.L r4) fun r13 =>
 bnd (lidarref01_divide p1.L r4) fun r24 =>
 jn (fun (s5 : Bool) =>
 some (⟨(⟨s5, r13.1⟩ : S_lidarref01_Int), r24.1⟩ : S_lidarref01_Q))
 (fun j5 => if p0.Neg = true then (j5 (decide (0 < ((((r13.1).length : Nat) : Int)))))
 else (j5 false))
noncomputable def lidarref01_Int_Add (p0 : S_lidarref01_Int) (p1 : S_lidarref01_Int) : Option S_lidarref01_Int :=
 if ((p0.Neg) == (p1.Neg)) = true then (bnd (lidarref01_plus p0.L p1.L) fun r6 =>
 some (⟨p0.Neg, r6⟩ : S_lidarref01_Int))
 else (bnd (lidarref01_compare p0.L p1.L) fun r12 =>
 if r12 = 0 then (some (⟨false, ([] : List Int)⟩ : S_lidarref01_Int))
 else (if 0 < r12 then (bnd (lidarref01_less p0.L p1.L) fun r20 =>
 some (⟨p0.Neg, r20⟩ : S_lidarref01_Int))
 else (bnd (lidarref01_less p1.L p0.L) fun r26 =>
 some (⟨p1.Neg, r26⟩ : S_lidarref01_Int))))
noncomputable def lidarref01_Int_Mul (p0 : S_lidarref01_Int) (p1 : S_lidarref01_Int) : Option S_lidarref01_Int :=
 bnd (lidarref01_times p0.L p1.L) fun r4 =>
 jn (fun (s3 : Bool) =>
 some (⟨s3, r4⟩ : S_lidarref01_Int))
 (fun j3 => if ((p0.Neg) == (p1.Neg)) = true then (j3 false)
 else (j3 (decide (0 < ((((r4).length : Nat) : Int))))))
noncomputable def lidarref01_Whole (p0 : Int) : Option S_lidarref01_Q :=
 bnd (lidarref01_Small p0) fun r2 =>
 some (⟨r2, [1]⟩ : S_lidarref01_Q)
noncomputable def lidarref01_Q_Add (p0 : S_lidarref01_Q) (p1 : S_lidarref01_Q) : Option S_lidarref01_Q :=
 bnd (lidarref01_Int_Mul p0.N (⟨false, p1.D⟩ : S_lidarref01_Int)) fun r4 =>
 bnd (lidarref01_Int_Mul p1.N (⟨false, p0.D⟩ : S_lidarref01_Int)) fun r9 =>
 bnd (lidarref01_Int_Add r4 r9) fun r18 =>
 bnd (lidarref01_times p0.D p1.D) fun r23 =>
 bnd (lidarref01_Frac r18 (⟨false, r23⟩ : S_lidarref01_Int)) fun r32 =>
 some r32
noncomputable def lidarref01_Q_Mul (p0 : S_lidarref01_Q) (p1 : S_lidarref01_Q) : Option S_lidarref01_Q :=
 bnd (lidarref01_Int_Mul p0.N p1.N) fun r4 =>
 bnd (lidarref01_times p0.D p1.D) fun r9 =>
 bnd (lidarref01_Frac r4 (⟨false, r9⟩ : S_lidarref01_Int)) fun r18 =>
 some r18
noncomputable def model_amount_l3 (p2 : List Int) (p1 : S_api_Grid) (p0 : S_api_Grid) : (Int × Int × Int) → Option (Sum (Int × Int × Int) (Int × Int)) := fun s64 =>
 if s64.2.2 < ((((p2).length : Nat) : Int)) then (bnd (idx p2 s64.2.2) fun x68 =>
 bnd (idx p1.Cells x68) fun x79 =>
 bnd (idx p0.Cells x68) fun x90 =>
 bnd (idx p1.Cells x68) fun x101 =>
 bnd (idx p0.Cells x68) fun x112 =>
 some (.inl (w64 (s64.1 + (w64 (x79.Z.Lo - x90.Z.Hi))), w64 (s64.2.1 + (w64 (x101.Z.Hi - x112.Z.Lo))), w64 (s64.2.2 + 1))))
 else (some (.inr (s64.1, s64.2.1)))
noncomputable def model_amount (p0 : S_api_Grid) (p1 : S_api_Grid) (p2 : List Int) : Option (S_api_Rat × S_api_Rat) :=
 jn (fun (s3 : Int × Int) =>
 bnd (model_times p0.Raster s3.1) fun r125 =>
 bnd (model_times p0.Raster s3.2) fun r136 =>
 some (r125, r136))
 (fun j3 => bnd (lfix (model_amount_l3 p2 p1 p0) (0, 0, 0)) fun t64 =>
 j3 t64)
def e_bool (x : Bool) : List Value := [.bool (x)]
theorem e_bool_len (x : Bool) : (e_bool x).length = 1 := rfl
noncomputable def model_Amount_l5 (p2 : List Int) (p0 : S_api_Grid) : Int → Option (Sum Int (Sum Unit (S_api_Rat × S_api_Rat × Int))) := fun s32 =>
 if s32 < ((((p2).length : Nat) : Int)) then (bnd (idx p2 s32) fun x36 =>
 bnd (model_within 0 x36 (w64 (((((p0.Cells).length : Nat) : Int)) - 1))) fun r47 =>
 if r47 = true then (some (.inl (w64 (s32 + 1))))
 else (some (.inr (.inr ((⟨false, ([] : List Int), ([] : List Int)⟩ : S_api_Rat), (⟨false, ([] : List Int), ([] : List Int)⟩ : S_api_Rat), 92)))))
 else (some (.inr (.inl ())))
noncomputable def model_Amount_l12 (p2 : List Int) (p0 : S_api_Grid) (p1 : S_api_Grid) : ((List Bool) × Int) → Option (Sum ((List Bool) × Int) (Sum Unit (S_api_Rat × S_api_Rat × Int))) := fun s128 =>
 if s128.2 < ((((p2).length : Nat) : Int)) then (bnd (idx p2 s128.2) fun x132 =>
 jn (fun (s35 : Bool) =>
 if s35 = true then (some (.inr (.inr ((⟨false, ([] : List Int), ([] : List Int)⟩ : S_api_Rat), (⟨false, ([] : List Int), ([] : List Int)⟩ : S_api_Rat), 2))))
 else (bnd (idx s128.1 x132) fun x187 =>
 some (.inl (setI s128.1 x132 true, w64 (s128.2 + 1)))))
 (fun j35 => bnd (idx s128.1 x132) fun x143 =>
 if x143 = true then (j35 true)
 else (bnd (idx p0.Cells x132) fun x157 =>
 if x157.Void = true then (j35 true)
 else (bnd (idx p1.Cells x132) fun x171 =>
 j35 x171.Void))))
 else (some (.inr (.inl ())))
noncomputable def model_Amount (p0 : S_api_Grid) (p1 : S_api_Grid) (p2 : List Int) : Option (S_api_Rat × S_api_Rat × Int) :=
 bnd (model_pair p0 p1) fun r5 =>
 if r5 = 0 then (jn (fun (s6 : Unit) =>
 gd ((0 : Int) ≤ ((((p0.Cells).length : Nat) : Int)) ∧ 1 * Int.toNat ((((p0.Cells).length : Nat) : Int)) ≤ 140737488355328) <|
 jn (fun (s21 : Unit) =>
 bnd (model_amount p0 p1 p2) fun r202 =>
 jn (fun (s38 : Unit) =>
 some (r202.1, r202.2, 0))
 (fun j38 => j38 ()))
 (fun j21 => bnd (lfix (model_Amount_l12 p2 p0 p1) (List.replicate (Int.toNat ((((p0.Cells).length : Nat) : Int))) (false : Bool), 0)) fun t128 =>
 (match t128 with
 | (.inl z128) => j21 z128
 | (.inr (z128)) => some z128
 )))
 (fun j6 => bnd (lfix (model_Amount_l5 p2 p0) 0) fun t32 =>
 (match t32 with
 | (.inl z32) => j6 z32
 | (.inr (z32)) => some z32
 )))
 else (some ((⟨false, ([] : List Int), ([] : List Int)⟩ : S_api_Rat), (⟨false, ([] : List Int), ([] : List Int)⟩ : S_api_Rat), r5))
set_option maxRecDepth 100000 in
theorem lidarref01_short_ok (p0 : List Int) (p1 : Int) {K : List Ent} {A0_0 : Option Addr} {c0_0 : Nat} (ha0 : Has K A0_0 (p0).length c0_0 1 e_i64 (p0)) {r : (List Int) × Int} (hx : lidarref01_short p0 p1 = some r) (w : World) (hK : ∀ e ∈ K, Ent.ok w e) : CtL Try.prog 144 [.slice (A0_0) ((p0).length) (c0_0), .int .i64 (p1)] w fun v Ln => ∃ (A0 : Option Addr) (c0 : Nat), v = .tuple #[.slice (A0) ((r.1).length) (c0), .int .i64 (r.2)] ∧ Ln = [.r A0 (r.1).length c0 3 1 ((r.1).flatMap e_i64)] ∧ True := by
  have ha0' := Has.up0 ha0
  refine CtL.mk 39 Try.func144 rfl Try.ntmps144 (by kernel_rfl) rfl ?_
  show T 39 _ [(0, .slice (A0_0) ((p0).length) (c0_0)), (1, .int .i64 (p1))] _
  unfold lidarref01_short at hx
  refine T_seq ?_
  refine T_reg ?_
  refine T_val (Ev_assign rfl) rfl ?_
  refine T_val (Ev_assign rfl) rfl ?_
  refine T_nil ?_
  refine T_next ?_
  refine T_seq ?_
  refine T_reg ?_
  refine T_val (Ev_move rfl) rfl ?_
  refine T_val (Ev_len rfl 3 Try.underlying27) rfl ?_
  obtain ⟨h2, hx3⟩ := gd_some hx
  refine T_x (Wx_makeP e_i64 (0) (z := .int .i64 (0)) rfl rfl rfl h2.1 Try.underlying27 (show Try.prog.info? 3 = some Try.t3 from by kernel_rfl) (by kernel_rfl) rfl rfl (by kernel_rfl) (show 8 * _ ≤ _ from h2.2) (by decide) rfl (fun A1 => ?_))
  refine T_val (Ev_assign rfl) rfl ?_
  refine T_nil ?_
  refine T_next ?_
  refine T_seq ?_
  refine T_reg ?_
  refine T_val (Ev_assign rfl) rfl ?_
  refine T_nil ?_
  refine T_next ?_
  obtain ⟨j4, hj4, hx3⟩ := jn_some hx3
  refine T_cutP (τ := (List Int) × Int) (γ := (Option Addr) × Nat) (J := j4) (out := r) (fun s4 y4 => [(6, .slice (y4.1) ((s4.1).length) (y4.2)), (7, .int .i64 (s4.2))]) (fun s4 y4 => [.r (y4.1) ((s4.1).length) (y4.2) 3 1 ((s4.1).flatMap e_i64)] ++ [.old w]) (fun s4 y4 => True) ?_ ?_
  · intro s4 y4 hx66 hG67
    subst hj4
    refine T_seq ?_
    refine T_reg ?_
    refine T_val (Ev_move rfl) rfl ?_
    refine T_rowP (k := 0) rfl (by decide) (fun _ => rfl) (fun hn68 hs69 => ?_)
    obtain ⟨r70, h71, hx72⟩ := bnd_some hx66
    refine T_x (Wx_callL rfl (fun w1 hw1 => lidarref01_trim_ok s4.1 (Has.len' hs69) h71 w1 (okAll (K := ([.r (y4.1) ((s4.1).length) (y4.2) 3 1 ((s4.1).flatMap e_i64)] : List Ent)) (by exact (SubE.cons2 (i := 0) rfl (SubE.nil))) hw1)) rfl ?_)
    rintro _ _ hlo ⟨rfl, rfl, hs73, -⟩
    refine T_app0 ?_
    refine T_front (r := r70) (trim_front h71) (.here) (by decide) (fun _ => rfl) ?_
    refine T_val (Ev_move rfl) rfl ?_
    refine T_val (Ev_assign rfl) rfl ?_
    refine T_val (Ev_assign rfl) rfl ?_
    refine T_nil ?_
    refine T_next ?_
    refine T_retc ?_
    obtain rfl := Option.some.inj hx72
    exact T_retP (rs := [.tmp 4, .tmp 5]) Try.results144 (.tmp rfl (.tmp rfl (.nil))) (Ln := [.r (y4.1) ((r70).length) (y4.2) 3 1 ((r70).flatMap e_i64)]) ⟨y4.1, y4.2, rfl, rfl, trivial⟩ (loCons rfl (loNil)) (by exact .pick 0 rfl (.refl))
  · skip
    refine T_seq ?_
    refine T_reg ?_
    refine T_val (Ev_move rfl) rfl ?_
    refine T_val (Ev_len rfl 3 Try.underlying27) rfl ?_
    refine T_val (Ev_sub_w64 rfl rfl) rfl ?_
    refine T_val (Ev_assign rfl) rfl ?_
    refine T_nil ?_
    refine T_next ?_
    refine T_block ?_
    obtain ⟨t34, hl34, ho34⟩ := bnd_some hx3
    refine T_loopP (σ := (List Int) × Int × Int) (γ := (Option Addr) × Nat) hl34 (fun s34 y34 => [(0, .slice (A0_0) ((p0).length) (c0_0)), (1, .int .i64 (p1)), (6, .slice (y34.1) ((s34.1).length) (y34.2)), (7, .int .i64 (s34.2.1)), (8, .int .i64 (s34.2.2))]) (fun s34 y34 => [.r (y34.1) ((s34.1).length) (y34.2) 3 1 ((s34.1).flatMap e_i64)] ++ [.old w]) (fun s34 y34 => True) (A1, (List.replicate (Int.toNat ((((p0).length : Nat) : Int))) (0 : Int)).length) trivial (by exact .cons rfl (.cons rfl (.cons rfl (.cons rfl (.cons rfl (.nil)))))) (by exact .pick 0 rfl (.refl)) ?_
    intro s34 y34 hG34 x34 hx34 ht34
    unfold lidarref01_short_l4 at hx34
    refine T_seq ?_
    refine T_seq ?_
    refine T_reg ?_
    refine T_val (Ev_move rfl) rfl ?_
    refine T_val (Ev_geq rfl rfl) rfl ?_
    refine T_nil ?_
    refine T_next ?_
    refine T_caseP (s := 17) rfl (fun h35 => ?_) (fun h35 => ?_)
    · have hx36 := ite_t h35 hx34
      refine T_condT rfl ?_
      refine T_skip ?_
      refine T_next ?_
      refine T_seq ?_
      refine T_block ?_
      refine T_seq ?_
      refine T_reg ?_
      refine T_val (Ev_move rfl) rfl ?_
      refine T_val (Ev_mul_w64 rfl rfl) rfl ?_
      refine T_val (Ev_move rfl) rfl ?_
      refine T_val (Ev_move rfl) rfl ?_
      obtain ⟨x38, h39, hx40⟩ := bnd_some hx36
      have hw48 := Has.low (E := []) ha0' hK
      obtain ⟨b41, o42, j43, hA44, hj45, hl46, hp47⟩ := Has.at_idx hw48 h39
      refine T_val (Ev_index rfl rfl hA44 (j := j43) hj45 hl46 slc27) rfl ?_
      refine T_val (Ev_loadP0 rfl hp47 (SubE.cons2 (i := 1) rfl (SubE.nil)) rfl one3) rfl ?_
      refine T_val (Ev_add_w64 rfl rfl) rfl ?_
      refine T_val (Ev_assign rfl) rfl ?_
      refine T_nil ?_
      refine T_next ?_
      refine T_seq ?_
      refine T_reg ?_
      refine T_val (Ev_move rfl) rfl ?_
      refine T_val (Ev_move rfl) rfl ?_
      refine T_val (Ev_move rfl) rfl ?_
      refine T_val (Ev_move rfl) rfl ?_
      obtain ⟨h49, hx50⟩ := gd_some hx40
      refine T_val (Ev_quo_w64 rfl rfl h49) rfl ?_
      obtain ⟨x51, h52, hx53⟩ := bnd_some hx50
      refine T_idxR (k := 0) rfl (by decide) (fun _ => rfl) h52 (fun b54 j56 hA57 hj58 hl59 hm61 hp60 => ?_)
      refine T_val (Ev_index rfl rfl hA57 (j := j56) hj58 hl59 slc27) rfl ?_
      refine T_h (Wh_storeP e_i64 (s34.1) (s34.2.2) (w64 (Int.tdiv (w64 ((w64 (s34.2.1 * 65536)) + x38)) p1)) rfl rfl rfl (.here) hA57 rfl hj58 hl59 (fun _ => rfl) (by decide) rfl one3.2 ?_)
      refine T_nil ?_
      refine T_next ?_
      refine T_reg ?_
      refine T_val (Ev_move rfl) rfl ?_
      refine T_val (Ev_move rfl) rfl ?_
      obtain ⟨h62, hx63⟩ := gd_some hx53
      refine T_val (Ev_rem rfl rfl h62) rfl ?_
      refine T_val (Ev_assign rfl) rfl ?_
      refine T_nil ?_
      refine T_inN ?_
      refine T_next ?_
      refine T_reg ?_
      refine T_val (Ev_move rfl) rfl ?_
      refine T_val (Ev_sub_w64 rfl rfl) rfl ?_
      refine T_val (Ev_assign rfl) rfl ?_
      refine T_nil ?_
      have hn64 : (s34.1).length = (setI s34.1 s34.2.2 (w64 (Int.tdiv (w64 ((w64 (s34.2.1 * 65536)) + x38)) p1))).length := by simp [setI_len, cpy_len, List.length_append] <;> omega
      refine T_ent (.here) (e' := .r (y34.1) ((setI s34.1 s34.2.2 (w64 (Int.tdiv (w64 ((w64 (s34.2.1 * 65536)) + x38)) p1))).length) (y34.2) 3 1 ((setI s34.1 s34.2.2 (w64 (Int.tdiv (w64 ((w64 (s34.2.1 * 65536)) + x38)) p1))).flatMap e_i64)) (by first | (rw [← hn64]; done) | rfl) ?_
      refine T_slot (s := 6) (v' := .slice (y34.1) ((setI s34.1 s34.2.2 (w64 (Int.tdiv (w64 ((w64 (s34.2.1 * 65536)) + x38)) p1))).length) (y34.2)) rfl (by have hn65 : ((s34.1).length) = (setI s34.1 s34.2.2 (w64 (Int.tdiv (w64 ((w64 (s34.2.1 * 65536)) + x38)) p1))).length := (by simp [setI_len, cpy_len, List.length_append] <;> omega); first | (rw [← hn65]; done) | rfl) ?_
      exact T_roundP (setI s34.1 s34.2.2 (w64 (Int.tdiv (w64 ((w64 (s34.2.1 * 65536)) + x38)) p1)), Int.tmod (w64 ((w64 (s34.2.1 * 65536)) + x38)) p1, w64 (s34.2.2 - 1)) (y34.1, y34.2) hx63 trivial (by exact .cons rfl (.cons rfl (.cons rfl (.cons rfl (.cons rfl (.nil)))))) (by exact .pick 0 rfl (.refl))
    · have hx37 := ite_f h35 hx34
      refine T_condF rfl ?_
      refine T_exit ?_
      refine T_outX ?_
      obtain rfl := exit_eq ht34 hx37
      refine T_outX ?_
      refine T_here ?_
      exact T_metP (s34.1, s34.2.1) (y34.1, y34.2) ho34 trivial (by exact .cons rfl (.cons rfl (.nil))) (by exact .pick 0 rfl (.refl))
set_option maxRecDepth 100000 in
theorem lidarref01_compare_ok (p0 : List Int) (p1 : List Int) {K : List Ent} {A0_0 : Option Addr} {c0_0 : Nat} {A0_1 : Option Addr} {c0_1 : Nat} (ha0 : Has K A0_0 (p0).length c0_0 1 e_i64 (p0)) (ha1 : Has K A0_1 (p1).length c0_1 1 e_i64 (p1)) {r : Int} (hx : lidarref01_compare p0 p1 = some r) (w : World) (hK : ∀ e ∈ K, Ent.ok w e) : CtL Try.prog 129 [.slice (A0_0) ((p0).length) (c0_0), .slice (A0_1) ((p1).length) (c0_1)] w fun v Ln => v = .int .i64 (r) ∧ Ln = [] ∧ True := by
  have ha0' := Has.up0 ha0
  have ha1' := Has.up0 ha1
  refine CtL.mk 41 Try.func129 rfl Try.ntmps129 (by kernel_rfl) rfl ?_
  show T 41 _ [(0, .slice (A0_0) ((p0).length) (c0_0)), (1, .slice (A0_1) ((p1).length) (c0_1))] _
  unfold lidarref01_compare at hx
  refine T_seq ?_
  refine T_reg ?_
  refine T_val (Ev_assign rfl) rfl ?_
  refine T_nil ?_
  refine T_next ?_
  refine T_seq ?_
  refine T_seq ?_
  refine T_reg ?_
  refine T_val (Ev_move rfl) rfl ?_
  refine T_val (Ev_len rfl 3 Try.underlying27) rfl ?_
  refine T_val (Ev_move rfl) rfl ?_
  refine T_val (Ev_len rfl 3 Try.underlying27) rfl ?_
  refine T_val (Ev_neq rfl rfl) rfl ?_
  refine T_nil ?_
  refine T_next ?_
  refine T_caseNP (s := 10) rfl (fun h1 => ?_) (fun h1 => ?_)
  · have hx2 := ite_f h1 hx
    refine T_condT rfl ?_
    refine T_seq ?_
    refine T_seq ?_
    refine T_reg ?_
    refine T_val (Ev_move rfl) rfl ?_
    refine T_val (Ev_len rfl 3 Try.underlying27) rfl ?_
    refine T_val (Ev_move rfl) rfl ?_
    refine T_val (Ev_len rfl 3 Try.underlying27) rfl ?_
    refine T_val (Ev_lss rfl rfl) rfl ?_
    refine T_nil ?_
    refine T_next ?_
    refine T_caseP (s := 15) rfl (fun h3 => ?_) (fun h3 => ?_)
    · have hx4 := ite_t h3 hx2
      refine T_condT rfl ?_
      refine T_seq ?_
      refine T_reg ?_
      refine T_val (Ev_assign rfl) rfl ?_
      refine T_nil ?_
      refine T_next ?_
      refine T_retc ?_
      refine T_outR ?_
      refine T_outR ?_
      obtain rfl := Option.some.inj hx4
      exact T_retP (rs := [.tmp 4]) Try.results129 (.tmp rfl (.nil)) (Ln := []) ⟨rfl, rfl, trivial⟩ (loNil) (by exact .refl)
    · have hx5 := ite_f h3 hx2
      refine T_condF rfl ?_
      refine T_skip ?_
      refine T_next ?_
      refine T_seq ?_
      refine T_reg ?_
      refine T_val (Ev_assign rfl) rfl ?_
      refine T_nil ?_
      refine T_next ?_
      refine T_retc ?_
      refine T_outR ?_
      obtain rfl := Option.some.inj hx5
      exact T_retP (rs := [.tmp 4]) Try.results129 (.tmp rfl (.nil)) (Ln := []) ⟨rfl, rfl, trivial⟩ (loNil) (by exact .refl)
  · have hx6 := ite_t h1 hx
    refine T_condF rfl ?_
    refine T_skip ?_
    refine T_next ?_
    obtain ⟨j8, hj8, hx6⟩ := jn_some hx6
    refine T_cutP (τ := Unit) (γ := Unit) (J := j8) (out := r) (fun s8 y8 => []) (fun s8 y8 => [] ++ [.old w]) (fun s8 y8 => True) ?_ ?_
    · intro s8 y8 hx115 hG116
      subst hj8
      refine T_seq ?_
      refine T_reg ?_
      refine T_val (Ev_assign rfl) rfl ?_
      refine T_nil ?_
      refine T_next ?_
      refine T_retc ?_
      obtain rfl := Option.some.inj hx115
      exact T_retP (rs := [.tmp 4]) Try.results129 (.tmp rfl (.nil)) (Ln := []) ⟨rfl, rfl, trivial⟩ (loNil) (by exact .refl)
    · skip
      refine T_seq ?_
      refine T_reg ?_
      refine T_val (Ev_move rfl) rfl ?_
      refine T_val (Ev_len rfl 3 Try.underlying27) rfl ?_
      refine T_val (Ev_sub_w64 rfl rfl) rfl ?_
      refine T_val (Ev_assign rfl) rfl ?_
      refine T_nil ?_
      refine T_next ?_
      refine T_block ?_
      obtain ⟨t61, hl61, ho61⟩ := bnd_some hx6
      refine T_loopP (σ := Int) (γ := Unit) hl61 (fun s61 y61 => [(0, .slice (A0_0) ((p0).length) (c0_0)), (1, .slice (A0_1) ((p1).length) (c0_1)), (5, .int .i64 (s61))]) (fun s61 y61 => [] ++ [.old w]) (fun s61 y61 => True) () trivial (by exact .cons rfl (.cons rfl (.cons rfl (.nil)))) (by exact .refl) ?_
      intro s61 y61 hG61 x61 hx61 ht61
      unfold lidarref01_compare_l6 at hx61
      refine T_seq ?_
      refine T_seq ?_
      refine T_reg ?_
      refine T_val (Ev_move rfl) rfl ?_
      refine T_val (Ev_geq rfl rfl) rfl ?_
      refine T_nil ?_
      refine T_next ?_
      refine T_caseP (s := 20) rfl (fun h62 => ?_) (fun h62 => ?_)
      · have hx63 := ite_t h62 hx61
        refine T_condT rfl ?_
        refine T_skip ?_
        refine T_next ?_
        refine T_seq ?_
        refine T_block ?_
        refine T_seq ?_
        refine T_draw [0, 0, 0, 1, 0, 0, 0, 1, 0] [[], [], [0, 1], [0, 1, 2], [], [], [4, 5], [4, 5, 6], [0, 1, 2, 3, 4, 5, 6, 7]] (.q 0 (.q 1 (.q 2 (.q 3 (.q 4 (.q 5 (.q 6 (.q 7 (.q 8 (.done)))))))))) mixed (by kernel_rfl) (by kernel_rfl) ?_
        refine P_p rfl rfl (Ev_move rfl) rfl ?_
        refine P_p rfl rfl (Ev_move rfl) rfl ?_
        obtain ⟨x65, h66, hx67⟩ := bnd_some hx63
        have hw75 := Has.low (E := []) ha0' hK
        obtain ⟨b68, o69, j70, hA71, hj72, hl73, hp74⟩ := Has.at_idx hw75 h66
        refine P_p rfl rfl (Ev_index rfl rfl hA71 (j := j70) hj72 hl73 slc27) rfl ?_
        refine P_q rfl rfl (Ev_loadP0 rfl hp74 (SubE.cons2 (i := 0) rfl (SubE.nil)) rfl one3) rfl ?_
        refine P_p rfl rfl (Ev_move rfl) rfl ?_
        refine P_p rfl rfl (Ev_move rfl) rfl ?_
        obtain ⟨x76, h77, hx78⟩ := bnd_some hx67
        have hw86 := Has.low (E := []) ha1' hK
        obtain ⟨b79, o80, j81, hA82, hj83, hl84, hp85⟩ := Has.at_idx hw86 h77
        refine P_p rfl rfl (Ev_index rfl rfl hA82 (j := j81) hj83 hl84 slc27) rfl ?_
        refine P_q rfl rfl (Ev_loadP0 rfl hp85 (SubE.cons2 (i := 0) rfl (SubE.nil)) rfl one3) rfl ?_
        refine P_p rfl rfl (Ev_neq rfl rfl) rfl ?_
        refine P_done ?_
        refine T_next ?_
        refine T_caseNP (s := 31) rfl (fun h87 => ?_) (fun h87 => ?_)
        · have hx88 := ite_f h87 hx78
          refine T_condT rfl ?_
          refine T_seq ?_
          refine T_seq ?_
          refine T_draw [0, 0, 0, 1, 0, 0, 0, 1, 0] [[], [], [0, 1], [0, 1, 2], [], [], [4, 5], [4, 5, 6], [0, 1, 2, 3, 4, 5, 6, 7]] (.q 0 (.q 1 (.q 2 (.q 3 (.q 4 (.q 5 (.q 6 (.q 7 (.q 8 (.done)))))))))) mixed (by kernel_rfl) (by kernel_rfl) ?_
          refine P_p rfl rfl (Ev_move rfl) rfl ?_
          refine P_p rfl rfl (Ev_move rfl) rfl ?_
          obtain ⟨x89, h90, hx91⟩ := bnd_some hx88
          have hw99 := Has.low (E := []) ha0' hK
          obtain ⟨b92, o93, j94, hA95, hj96, hl97, hp98⟩ := Has.at_idx hw99 h90
          refine P_p rfl rfl (Ev_index rfl rfl hA95 (j := j94) hj96 hl97 slc27) rfl ?_
          refine P_q rfl rfl (Ev_loadP0 rfl hp98 (SubE.cons2 (i := 0) rfl (SubE.nil)) rfl one3) rfl ?_
          refine P_p rfl rfl (Ev_move rfl) rfl ?_
          refine P_p rfl rfl (Ev_move rfl) rfl ?_
          obtain ⟨x100, h101, hx102⟩ := bnd_some hx91
          have hw110 := Has.low (E := []) ha1' hK
          obtain ⟨b103, o104, j105, hA106, hj107, hl108, hp109⟩ := Has.at_idx hw110 h101
          refine P_p rfl rfl (Ev_index rfl rfl hA106 (j := j105) hj107 hl108 slc27) rfl ?_
          refine P_q rfl rfl (Ev_loadP0 rfl hp109 (SubE.cons2 (i := 0) rfl (SubE.nil)) rfl one3) rfl ?_
          refine P_p rfl rfl (Ev_lss rfl rfl) rfl ?_
          refine P_done ?_
          refine T_next ?_
          refine T_caseP (s := 40) rfl (fun h111 => ?_) (fun h111 => ?_)
          · have hx112 := ite_t h111 hx102
            refine T_condT rfl ?_
            refine T_seq ?_
            refine T_reg ?_
            refine T_val (Ev_assign rfl) rfl ?_
            refine T_nil ?_
            refine T_next ?_
            refine T_retc ?_
            refine T_outR ?_
            refine T_inR ?_
            refine T_outR ?_
            obtain rfl := exit_eq ht61 hx112
            refine T_outR ?_
            refine T_inR ?_
            refine T_outR ?_
            obtain rfl := Option.some.inj ho61
            exact T_retP (rs := [.tmp 4]) Try.results129 (.tmp rfl (.nil)) (Ln := []) ⟨rfl, rfl, trivial⟩ (loNil) (by exact .refl)
          · have hx113 := ite_f h111 hx102
            refine T_condF rfl ?_
            refine T_skip ?_
            refine T_next ?_
            refine T_seq ?_
            refine T_reg ?_
            refine T_val (Ev_assign rfl) rfl ?_
            refine T_nil ?_
            refine T_next ?_
            refine T_retc ?_
            refine T_inR ?_
            refine T_outR ?_
            obtain rfl := exit_eq ht61 hx113
            refine T_outR ?_
            refine T_inR ?_
            refine T_outR ?_
            obtain rfl := Option.some.inj ho61
            exact T_retP (rs := [.tmp 4]) Try.results129 (.tmp rfl (.nil)) (Ln := []) ⟨rfl, rfl, trivial⟩ (loNil) (by exact .refl)
        · have hx114 := ite_t h87 hx78
          refine T_condF rfl ?_
          refine T_skip ?_
          refine T_inN ?_
          refine T_next ?_
          refine T_reg ?_
          refine T_val (Ev_move rfl) rfl ?_
          refine T_val (Ev_sub_w64 rfl rfl) rfl ?_
          refine T_val (Ev_assign rfl) rfl ?_
          refine T_nil ?_
          exact T_roundP (w64 (s61 - 1)) () hx114 trivial (by exact .cons rfl (.cons rfl (.cons rfl (.nil)))) (by exact .refl)
      · have hx64 := ite_f h62 hx61
        refine T_condF rfl ?_
        refine T_exit ?_
        refine T_outX ?_
        obtain rfl := exit_eq ht61 hx64
        refine T_outX ?_
        refine T_here ?_
        exact T_metP () () ho61 trivial (by exact .nil) (by exact .refl)
set_option maxRecDepth 100000 in
theorem lidarref01_plus_ok (p0 : List Int) (p1 : List Int) {K : List Ent} {A0_0 : Option Addr} {c0_0 : Nat} {A0_1 : Option Addr} {c0_1 : Nat} (ha0 : Has K A0_0 (p0).length c0_0 1 e_i64 (p0)) (ha1 : Has K A0_1 (p1).length c0_1 1 e_i64 (p1)) {r : List Int} (hx : lidarref01_plus p0 p1 = some r) (w : World) (hK : ∀ e ∈ K, Ent.ok w e) : CtL Try.prog 128 [.slice (A0_0) ((p0).length) (c0_0), .slice (A0_1) ((p1).length) (c0_1)] w fun v Ln => ∃ (A0 : Option Addr) (c0 : Nat), v = .slice (A0) ((r).length) (c0) ∧ Ln = [.r A0 (r).length c0 3 1 ((r).flatMap e_i64)] ∧ True := by
  have ha0' := Has.up0 ha0
  have ha1' := Has.up0 ha1
  refine CtL.mk 55 Try.func128 rfl Try.ntmps128 (by kernel_rfl) rfl ?_
  show T 55 _ [(0, .slice (A0_0) ((p0).length) (c0_0)), (1, .slice (A0_1) ((p1).length) (c0_1))] _
  unfold lidarref01_plus at hx
  refine T_seq ?_
  refine T_reg ?_
  refine T_val (Ev_assign rfl) rfl ?_
  refine T_nil ?_
  refine T_next ?_
  refine T_seq ?_
  refine T_reg ?_
  refine T_val (Ev_assign rfl) rfl ?_
  refine T_nil ?_
  refine T_next ?_
  refine T_seq ?_
  refine T_reg ?_
  refine T_val (Ev_assign rfl) rfl ?_
  refine T_nil ?_
  refine T_next ?_
  obtain ⟨j4, hj4, hx⟩ := jn_some hx
  refine T_cutP (τ := List Int) (γ := (Option Addr) × Nat) (J := j4) (out := r) (fun s4 y4 => [(5, .slice (y4.1) ((s4).length) (y4.2))]) (fun s4 y4 => [.r (y4.1) ((s4).length) (y4.2) 3 1 ((s4).flatMap e_i64)] ++ [.old w]) (fun s4 y4 => True) ?_ ?_
  · intro s4 y4 hx101 hG102
    subst hj4
    refine T_seq ?_
    refine T_reg ?_
    refine T_val (Ev_move rfl) rfl ?_
    refine T_rowP (k := 0) rfl (by decide) (fun _ => rfl) (fun hn103 hs104 => ?_)
    obtain ⟨r105, h106, hx107⟩ := bnd_some hx101
    refine T_x (Wx_callL rfl (fun w1 hw1 => lidarref01_trim_ok s4 (Has.len' hs104) h106 w1 (okAll (K := ([.r (y4.1) ((s4).length) (y4.2) 3 1 ((s4).flatMap e_i64)] : List Ent)) (by exact (SubE.cons2 (i := 0) rfl (SubE.nil))) hw1)) rfl ?_)
    rintro _ _ hlo ⟨rfl, rfl, hs108, -⟩
    refine T_app0 ?_
    refine T_front (r := r105) (trim_front h106) (.here) (by decide) (fun _ => rfl) ?_
    refine T_val (Ev_assign rfl) rfl ?_
    refine T_nil ?_
    refine T_next ?_
    refine T_retc ?_
    obtain rfl := Option.some.inj hx107
    exact T_retP (rs := [.tmp 4]) Try.results128 (.tmp rfl (.nil)) (Ln := [.r (y4.1) ((r105).length) (y4.2) 3 1 ((r105).flatMap e_i64)]) ⟨y4.1, y4.2, rfl, rfl, trivial⟩ (loCons rfl (loNil)) (by exact .pick 0 rfl (.refl))
  · skip
    refine T_seq ?_
    refine T_reg ?_
    refine T_val (Ev_assign rfl) rfl ?_
    refine T_nil ?_
    refine T_next ?_
    refine T_block ?_
    obtain ⟨t51, hl51, ho51⟩ := bnd_some hx
    refine T_none 3 1 ?_
    have hn52 : 0 = (([] : List Int)).length := by simp [setI_len, cpy_len, List.length_append] <;> omega
    refine T_ent (.here) (e' := .r (none) ((([] : List Int)).length) (0) 3 1 ((([] : List Int)).flatMap e_i64)) (by first | (rw [← hn52]; done) | rfl) ?_
    refine T_loopP (σ := (List Int) × Int × Int) (γ := (Option Addr) × Nat) hl51 (fun s51 y51 => [(0, .slice (A0_0) ((p0).length) (c0_0)), (1, .slice (A0_1) ((p1).length) (c0_1)), (5, .slice (y51.1) ((s51.1).length) (y51.2)), (6, .int .i64 (s51.2.1)), (7, .int .i64 (s51.2.2))]) (fun s51 y51 => [.r (y51.1) ((s51.1).length) (y51.2) 3 1 ((s51.1).flatMap e_i64)] ++ [.old w]) (fun s51 y51 => True) (none, 0) trivial (by exact .cons rfl (.cons rfl (.cons rfl (.cons rfl (.cons rfl (.nil)))))) (by exact .pick 0 rfl (.refl)) ?_
    intro s51 y51 hG51 x51 hx51 ht51
    unfold lidarref01_plus_l4 at hx51
    refine T_seq ?_
    obtain ⟨j16, hj16, hx51⟩ := jn_some hx51
    refine T_cutP (τ := Bool) (γ := Unit) (J := j16) (out := x51) (fun s16 y16 => [(0, .slice (A0_0) ((p0).length) (c0_0)), (1, .slice (A0_1) ((p1).length) (c0_1)), (5, .slice (y51.1) ((s51.1).length) (y51.2)), (6, .int .i64 (s51.2.1)), (7, .int .i64 (s51.2.2)), (22, .bool (s16))]) (fun s16 y16 => [.r (y51.1) ((s51.1).length) (y51.2) 3 1 ((s51.1).flatMap e_i64)] ++ [.old w]) (fun s16 y16 => True) ?_ ?_
    · intro s16 y16 hx59 hG60
      subst hj16
      refine T_caseB (s := 22) rfl (fun h61 => ?_) (fun h61 => ?_)
      · have hx62 := ite_t h61 hx59
        refine T_condT rfl ?_
        refine T_skip ?_
        refine T_next ?_
        refine T_seq ?_
        refine T_block ?_
        refine T_seq ?_
        refine T_reg ?_
        refine T_val (Ev_move rfl) rfl ?_
        refine T_val (Ev_assign rfl) rfl ?_
        refine T_nil ?_
        refine T_next ?_
        obtain ⟨j19, hj19, hx62⟩ := jn_some hx62
        refine T_cutP (τ := Int) (γ := Unit) (J := j19) (out := x51) (fun s19 y19 => [(0, .slice (A0_0) ((p0).length) (c0_0)), (1, .slice (A0_1) ((p1).length) (c0_1)), (5, .slice (y51.1) ((s51.1).length) (y51.2)), (7, .int .i64 (s51.2.2)), (8, .int .i64 (s19))]) (fun s19 y19 => [.r (y51.1) ((s51.1).length) (y51.2) 3 1 ((s51.1).flatMap e_i64)] ++ [.old w]) (fun s19 y19 => True) ?_ ?_
        · intro s19 y19 hx78 hG79
          subst hj19
          obtain ⟨j21, hj21, hx78⟩ := jn_some hx78
          refine T_cutP (τ := Int) (γ := Unit) (J := j21) (out := x51) (fun s21 y21 => [(0, .slice (A0_0) ((p0).length) (c0_0)), (1, .slice (A0_1) ((p1).length) (c0_1)), (5, .slice (y51.1) ((s51.1).length) (y51.2)), (7, .int .i64 (s51.2.2)), (8, .int .i64 (s21))]) (fun s21 y21 => [.r (y51.1) ((s51.1).length) (y51.2) 3 1 ((s51.1).flatMap e_i64)] ++ [.old w]) (fun s21 y21 => True) ?_ ?_
          · intro s21 y21 hx94 hG95
            subst hj21
            refine T_seq ?_
            refine T_reg ?_
            refine T_val (Ev_move rfl) rfl ?_
            refine T_val (Ev_move rfl) rfl ?_
            refine T_val (Ev_rem rfl rfl (by decide)) rfl ?_
            refine T_x (Wx_buildSlice rfl (bls27_1_0i64 _) rfl (fun g96 => ?_))
            obtain ⟨h97, hx98⟩ := gd_some hx94
            refine T_h (Wh_appendP e_i64 (s51.1) [Int.tmod s21 65536] rfl rfl rfl elm27 (fun _ => rfl) (i' := 0) rfl rfl rfl rfl h97 rfl (fun _ _ => .there (.here)) (fun _ _ => .drop .refl) (by decide) (fun A99 c100 => ?_))
            refine T_val (Ev_assign rfl) rfl ?_
            refine T_nil ?_
            refine T_next ?_
            refine T_reg ?_
            refine T_val (Ev_move rfl) rfl ?_
            refine T_val (Ev_quo_w64 rfl rfl (by decide)) rfl ?_
            refine T_val (Ev_assign rfl) rfl ?_
            refine T_nil ?_
            refine T_inN ?_
            refine T_next ?_
            refine T_reg ?_
            refine T_val (Ev_move rfl) rfl ?_
            refine T_val (Ev_add_w64 rfl rfl) rfl ?_
            refine T_val (Ev_assign rfl) rfl ?_
            refine T_nil ?_
            exact T_roundP (s51.1 ++ [Int.tmod s21 65536], w64 (Int.tdiv s21 65536), w64 (s51.2.2 + 1)) (A99, c100) hx98 trivial (by exact .cons rfl (.cons rfl (.cons rfl (.cons rfl (.cons rfl (.nil)))))) (by exact .pick 0 rfl (.refl))
          · skip
            refine T_seq ?_
            refine T_reg ?_
            refine T_val (Ev_move rfl) rfl ?_
            refine T_val (Ev_move rfl) rfl ?_
            refine T_val (Ev_len rfl 3 Try.underlying27) rfl ?_
            refine T_val (Ev_lss rfl rfl) rfl ?_
            refine T_nil ?_
            refine T_next ?_
            refine T_caseP (s := 39) rfl (fun h80 => ?_) (fun h80 => ?_)
            · have hx81 := ite_t h80 hx78
              refine T_condT rfl ?_
              refine T_reg ?_
              refine T_val (Ev_move rfl) rfl ?_
              refine T_val (Ev_move rfl) rfl ?_
              refine T_val (Ev_move rfl) rfl ?_
              obtain ⟨x82, h83, hx84⟩ := bnd_some hx81
              have hw92 := Has.low (E := []) ha1' hK
              obtain ⟨b85, o86, j87, hA88, hj89, hl90, hp91⟩ := Has.at_idx hw92 h83
              refine T_val (Ev_index rfl rfl hA88 (j := j87) hj89 hl90 slc27) rfl ?_
              refine T_val (Ev_loadP0 rfl hp91 (SubE.cons2 (i := 1) rfl (SubE.nil)) rfl one3) rfl ?_
              refine T_val (Ev_add_w64 rfl rfl) rfl ?_
              refine T_val (Ev_assign rfl) rfl ?_
              refine T_nil ?_
              exact T_metP (w64 (s19 + x82)) () hx84 trivial (by exact .cons rfl (.cons rfl (.cons rfl (.cons rfl (.cons rfl (.nil)))))) (by exact .pick 0 rfl (.refl))
            · have hx93 := ite_f h80 hx78
              refine T_condF rfl ?_
              refine T_skip ?_
              exact T_metP s19 () hx93 trivial (by exact .cons rfl (.cons rfl (.cons rfl (.cons rfl (.cons rfl (.nil)))))) (by exact .pick 0 rfl (.refl))
        · skip
          refine T_seq ?_
          refine T_reg ?_
          refine T_val (Ev_move rfl) rfl ?_
          refine T_val (Ev_move rfl) rfl ?_
          refine T_val (Ev_len rfl 3 Try.underlying27) rfl ?_
          refine T_val (Ev_lss rfl rfl) rfl ?_
          refine T_nil ?_
          refine T_next ?_
          refine T_caseP (s := 29) rfl (fun h64 => ?_) (fun h64 => ?_)
          · have hx65 := ite_t h64 hx62
            refine T_condT rfl ?_
            refine T_reg ?_
            refine T_val (Ev_move rfl) rfl ?_
            refine T_val (Ev_move rfl) rfl ?_
            refine T_val (Ev_move rfl) rfl ?_
            obtain ⟨x66, h67, hx68⟩ := bnd_some hx65
            have hw76 := Has.low (E := []) ha0' hK
            obtain ⟨b69, o70, j71, hA72, hj73, hl74, hp75⟩ := Has.at_idx hw76 h67
            refine T_val (Ev_index rfl rfl hA72 (j := j71) hj73 hl74 slc27) rfl ?_
            refine T_val (Ev_loadP0 rfl hp75 (SubE.cons2 (i := 1) rfl (SubE.nil)) rfl one3) rfl ?_
            refine T_val (Ev_add_w64 rfl rfl) rfl ?_
            refine T_val (Ev_assign rfl) rfl ?_
            refine T_nil ?_
            exact T_metP (w64 (s51.2.1 + x66)) () hx68 trivial (by exact .cons rfl (.cons rfl (.cons rfl (.cons rfl (.cons rfl (.nil)))))) (by exact .pick 0 rfl (.refl))
          · have hx77 := ite_f h64 hx62
            refine T_condF rfl ?_
            refine T_skip ?_
            exact T_metP s51.2.1 () hx77 trivial (by exact .cons rfl (.cons rfl (.cons rfl (.cons rfl (.cons rfl (.nil)))))) (by exact .pick 0 rfl (.refl))
      · have hx63 := ite_bf h61 hx59
        refine T_condF rfl ?_
        refine T_exit ?_
        refine T_outX ?_
        obtain rfl := exit_eq ht51 hx63
        refine T_outX ?_
        refine T_here ?_
        exact T_metP s51.1 (y51.1, y51.2) ho51 trivial (by exact .cons rfl (.nil)) (by exact .pick 0 rfl (.refl))
    · skip
      refine T_reg ?_
      refine T_val (Ev_move rfl) rfl ?_
      refine T_val (Ev_move rfl) rfl ?_
      refine T_val (Ev_len rfl 3 Try.underlying27) rfl ?_
      refine T_val (Ev_lss rfl rfl) rfl ?_
      refine T_val (Ev_move rfl) rfl ?_
      refine T_caseP (s := 13) rfl (fun h53 => ?_) (fun h53 => ?_)
      · have hx54 := ite_t h53 hx51
        refine T_skipG rfl rfl rfl rfl rfl ?_
        refine T_skipG rfl rfl rfl rfl rfl ?_
        refine T_skipG rfl rfl rfl rfl rfl ?_
        refine T_skipG rfl rfl rfl rfl rfl ?_
        refine T_val (Ev_pickT rfl rfl) rfl ?_
        refine T_val (Ev_move rfl) rfl ?_
        refine T_skipG rfl rfl rfl rfl rfl ?_
        refine T_skipG rfl rfl rfl rfl rfl ?_
        refine T_val (Ev_pickT rfl rfl) rfl ?_
        refine T_nil ?_
        exact T_metP true () hx54 trivial (by exact .cons rfl (.cons rfl (.cons rfl (.cons rfl (.cons rfl (.cons rfl (.nil))))))) (by exact .pick 0 rfl (.refl))
      · have hx55 := ite_f h53 hx51
        refine T_valG rfl rfl rfl (Ev_move rfl) rfl ?_
        refine T_valG rfl rfl rfl (Ev_move rfl) rfl ?_
        refine T_valG rfl rfl rfl (Ev_len rfl 3 Try.underlying27) rfl ?_
        refine T_valG rfl rfl rfl (Ev_lss rfl rfl) rfl ?_
        refine T_val (Ev_pickF rfl rfl) rfl ?_
        refine T_val (Ev_move rfl) rfl ?_
        refine T_caseP (s := 19) rfl (fun h56 => ?_) (fun h56 => ?_)
        · have hx57 := ite_t h56 hx55
          refine T_skipG rfl rfl rfl rfl rfl ?_
          refine T_skipG rfl rfl rfl rfl rfl ?_
          refine T_val (Ev_pickT rfl rfl) rfl ?_
          refine T_nil ?_
          exact T_metP true () hx57 trivial (by exact .cons rfl (.cons rfl (.cons rfl (.cons rfl (.cons rfl (.cons rfl (.nil))))))) (by exact .pick 0 rfl (.refl))
        · have hx58 := ite_f h56 hx55
          refine T_valG rfl rfl rfl (Ev_move rfl) rfl ?_
          refine T_valG rfl rfl rfl (Ev_gtr rfl rfl) rfl ?_
          refine T_val (Ev_pickF rfl rfl) rfl ?_
          refine T_nil ?_
          exact T_metP (decide (0 < s51.2.1)) () hx58 trivial (by exact .cons rfl (.cons rfl (.cons rfl (.cons rfl (.cons rfl (.cons rfl (.nil))))))) (by exact .pick 0 rfl (.refl))
set_option maxRecDepth 100000 in
theorem lidarref01_less_ok (p0 : List Int) (p1 : List Int) {K : List Ent} {A0_0 : Option Addr} {c0_0 : Nat} {A0_1 : Option Addr} {c0_1 : Nat} (ha0 : Has K A0_0 (p0).length c0_0 1 e_i64 (p0)) (ha1 : Has K A0_1 (p1).length c0_1 1 e_i64 (p1)) {r : List Int} (hx : lidarref01_less p0 p1 = some r) (w : World) (hK : ∀ e ∈ K, Ent.ok w e) : CtL Try.prog 130 [.slice (A0_0) ((p0).length) (c0_0), .slice (A0_1) ((p1).length) (c0_1)] w fun v Ln => ∃ (A0 : Option Addr) (c0 : Nat), v = .slice (A0) ((r).length) (c0) ∧ Ln = [.r A0 (r).length c0 3 1 ((r).flatMap e_i64)] ∧ True := by
  have ha0' := Has.up0 ha0
  have ha1' := Has.up0 ha1
  refine CtL.mk 41 Try.func130 rfl Try.ntmps130 (by kernel_rfl) rfl ?_
  show T 41 _ [(0, .slice (A0_0) ((p0).length) (c0_0)), (1, .slice (A0_1) ((p1).length) (c0_1))] _
  unfold lidarref01_less at hx
  refine T_seq ?_
  refine T_reg ?_
  refine T_val (Ev_assign rfl) rfl ?_
  refine T_nil ?_
  refine T_next ?_
  refine T_seq ?_
  refine T_reg ?_
  refine T_val (Ev_assign rfl) rfl ?_
  refine T_nil ?_
  refine T_next ?_
  refine T_seq ?_
  refine T_reg ?_
  refine T_val (Ev_assign rfl) rfl ?_
  refine T_nil ?_
  refine T_next ?_
  obtain ⟨j4, hj4, hx⟩ := jn_some hx
  refine T_cutP (τ := List Int) (γ := (Option Addr) × Nat) (J := j4) (out := r) (fun s4 y4 => [(5, .slice (y4.1) ((s4).length) (y4.2))]) (fun s4 y4 => [.r (y4.1) ((s4).length) (y4.2) 3 1 ((s4).flatMap e_i64)] ++ [.old w]) (fun s4 y4 => True) ?_ ?_
  · intro s4 y4 hx85 hG86
    subst hj4
    refine T_seq ?_
    refine T_reg ?_
    refine T_val (Ev_move rfl) rfl ?_
    refine T_rowP (k := 0) rfl (by decide) (fun _ => rfl) (fun hn87 hs88 => ?_)
    obtain ⟨r89, h90, hx91⟩ := bnd_some hx85
    refine T_x (Wx_callL rfl (fun w1 hw1 => lidarref01_trim_ok s4 (Has.len' hs88) h90 w1 (okAll (K := ([.r (y4.1) ((s4).length) (y4.2) 3 1 ((s4).flatMap e_i64)] : List Ent)) (by exact (SubE.cons2 (i := 0) rfl (SubE.nil))) hw1)) rfl ?_)
    rintro _ _ hlo ⟨rfl, rfl, hs92, -⟩
    refine T_app0 ?_
    refine T_front (r := r89) (trim_front h90) (.here) (by decide) (fun _ => rfl) ?_
    refine T_val (Ev_assign rfl) rfl ?_
    refine T_nil ?_
    refine T_next ?_
    refine T_retc ?_
    obtain rfl := Option.some.inj hx91
    exact T_retP (rs := [.tmp 4]) Try.results130 (.tmp rfl (.nil)) (Ln := [.r (y4.1) ((r89).length) (y4.2) 3 1 ((r89).flatMap e_i64)]) ⟨y4.1, y4.2, rfl, rfl, trivial⟩ (loCons rfl (loNil)) (by exact .pick 0 rfl (.refl))
  · skip
    refine T_seq ?_
    refine T_reg ?_
    refine T_val (Ev_assign rfl) rfl ?_
    refine T_nil ?_
    refine T_next ?_
    refine T_block ?_
    obtain ⟨t43, hl43, ho43⟩ := bnd_some hx
    refine T_none 3 1 ?_
    have hn44 : 0 = (([] : List Int)).length := by simp [setI_len, cpy_len, List.length_append] <;> omega
    refine T_ent (.here) (e' := .r (none) ((([] : List Int)).length) (0) 3 1 ((([] : List Int)).flatMap e_i64)) (by first | (rw [← hn44]; done) | rfl) ?_
    refine T_loopP (σ := (List Int) × Int × Int) (γ := (Option Addr) × Nat) hl43 (fun s43 y43 => [(0, .slice (A0_0) ((p0).length) (c0_0)), (1, .slice (A0_1) ((p1).length) (c0_1)), (5, .slice (y43.1) ((s43.1).length) (y43.2)), (6, .int .i64 (s43.2.1)), (7, .int .i64 (s43.2.2))]) (fun s43 y43 => [.r (y43.1) ((s43.1).length) (y43.2) 3 1 ((s43.1).flatMap e_i64)] ++ [.old w]) (fun s43 y43 => True) (none, 0) trivial (by exact .cons rfl (.cons rfl (.cons rfl (.cons rfl (.cons rfl (.nil)))))) (by exact .pick 0 rfl (.refl)) ?_
    intro s43 y43 hG43 x43 hx43 ht43
    unfold lidarref01_less_l4 at hx43
    refine T_seq ?_
    refine T_seq ?_
    refine T_reg ?_
    refine T_val (Ev_move rfl) rfl ?_
    refine T_val (Ev_move rfl) rfl ?_
    refine T_val (Ev_len rfl 3 Try.underlying27) rfl ?_
    refine T_val (Ev_lss rfl rfl) rfl ?_
    refine T_nil ?_
    refine T_next ?_
    refine T_caseP (s := 12) rfl (fun h45 => ?_) (fun h45 => ?_)
    · have hx46 := ite_t h45 hx43
      refine T_condT rfl ?_
      refine T_skip ?_
      refine T_next ?_
      refine T_seq ?_
      refine T_block ?_
      refine T_seq ?_
      refine T_reg ?_
      refine T_val (Ev_move rfl) rfl ?_
      refine T_val (Ev_move rfl) rfl ?_
      obtain ⟨x48, h49, hx50⟩ := bnd_some hx46
      have hw58 := Has.low (E := []) ha0' hK
      obtain ⟨b51, o52, j53, hA54, hj55, hl56, hp57⟩ := Has.at_idx hw58 h49
      refine T_val (Ev_index rfl rfl hA54 (j := j53) hj55 hl56 slc27) rfl ?_
      refine T_val (Ev_loadP0 rfl hp57 (SubE.cons2 (i := 1) rfl (SubE.nil)) rfl one3) rfl ?_
      refine T_val (Ev_move rfl) rfl ?_
      refine T_val (Ev_sub_w64 rfl rfl) rfl ?_
      refine T_val (Ev_assign rfl) rfl ?_
      refine T_nil ?_
      refine T_next ?_
      obtain ⟨j20, hj20, hx50⟩ := jn_some hx50
      refine T_cutP (τ := Int) (γ := Unit) (J := j20) (out := x43) (fun s20 y20 => [(0, .slice (A0_0) ((p0).length) (c0_0)), (1, .slice (A0_1) ((p1).length) (c0_1)), (5, .slice (y43.1) ((s43.1).length) (y43.2)), (7, .int .i64 (s43.2.2)), (8, .int .i64 (s20))]) (fun s20 y20 => [.r (y43.1) ((s43.1).length) (y43.2) 3 1 ((s43.1).flatMap e_i64)] ++ [.old w]) (fun s20 y20 => True) ?_ ?_
      · intro s20 y20 hx73 hG74
        subst hj20
        refine T_seq ?_
        refine T_reg ?_
        refine T_val (Ev_assign rfl) rfl ?_
        refine T_nil ?_
        refine T_next ?_
        obtain ⟨j23, hj23, hx73⟩ := jn_some hx73
        refine T_cutP (τ := Int × Int) (γ := Unit) (J := j23) (out := x43) (fun s23 y23 => [(0, .slice (A0_0) ((p0).length) (c0_0)), (1, .slice (A0_1) ((p1).length) (c0_1)), (5, .slice (y43.1) ((s43.1).length) (y43.2)), (6, .int .i64 (s23.1)), (7, .int .i64 (s43.2.2)), (8, .int .i64 (s23.2))]) (fun s23 y23 => [.r (y43.1) ((s43.1).length) (y43.2) 3 1 ((s43.1).flatMap e_i64)] ++ [.old w]) (fun s23 y23 => True) ?_ ?_
        · intro s23 y23 hx78 hG79
          subst hj23
          refine T_reg ?_
          refine T_val (Ev_move rfl) rfl ?_
          refine T_val (Ev_move rfl) rfl ?_
          refine T_x (Wx_buildSlice rfl (bls27_1_0i64 _) rfl (fun g80 => ?_))
          obtain ⟨h81, hx82⟩ := gd_some hx78
          refine T_h (Wh_appendP e_i64 (s43.1) [s23.2] rfl rfl rfl elm27 (fun _ => rfl) (i' := 0) rfl rfl rfl rfl h81 rfl (fun _ _ => .there (.here)) (fun _ _ => .drop .refl) (by decide) (fun A83 c84 => ?_))
          refine T_val (Ev_assign rfl) rfl ?_
          refine T_nil ?_
          refine T_inN ?_
          refine T_next ?_
          refine T_reg ?_
          refine T_val (Ev_move rfl) rfl ?_
          refine T_val (Ev_add_w64 rfl rfl) rfl ?_
          refine T_val (Ev_assign rfl) rfl ?_
          refine T_nil ?_
          exact T_roundP (s43.1 ++ [s23.2], s23.1, w64 (s43.2.2 + 1)) (A83, c84) hx82 trivial (by exact .cons rfl (.cons rfl (.cons rfl (.cons rfl (.cons rfl (.nil)))))) (by exact .pick 0 rfl (.refl))
        · skip
          refine T_seq ?_
          refine T_reg ?_
          refine T_val (Ev_move rfl) rfl ?_
          refine T_val (Ev_lss rfl rfl) rfl ?_
          refine T_nil ?_
          refine T_next ?_
          refine T_caseP (s := 32) rfl (fun h75 => ?_) (fun h75 => ?_)
          · have hx76 := ite_t h75 hx73
            refine T_condT rfl ?_
            refine T_seq ?_
            refine T_reg ?_
            refine T_val (Ev_move rfl) rfl ?_
            refine T_val (Ev_add_w64 rfl rfl) rfl ?_
            refine T_val (Ev_assign rfl) rfl ?_
            refine T_nil ?_
            refine T_next ?_
            refine T_reg ?_
            refine T_val (Ev_assign rfl) rfl ?_
            refine T_nil ?_
            exact T_metP (1, w64 (s20 + 65536)) () hx76 trivial (by exact .cons rfl (.cons rfl (.cons rfl (.cons rfl (.cons rfl (.cons rfl (.nil))))))) (by exact .pick 0 rfl (.refl))
          · have hx77 := ite_f h75 hx73
            refine T_condF rfl ?_
            refine T_skip ?_
            exact T_metP (0, s20) () hx77 trivial (by exact .cons rfl (.cons rfl (.cons rfl (.cons rfl (.cons rfl (.cons rfl (.nil))))))) (by exact .pick 0 rfl (.refl))
      · skip
        refine T_seq ?_
        refine T_reg ?_
        refine T_val (Ev_move rfl) rfl ?_
        refine T_val (Ev_move rfl) rfl ?_
        refine T_val (Ev_len rfl 3 Try.underlying27) rfl ?_
        refine T_val (Ev_lss rfl rfl) rfl ?_
        refine T_nil ?_
        refine T_next ?_
        refine T_caseP (s := 24) rfl (fun h59 => ?_) (fun h59 => ?_)
        · have hx60 := ite_t h59 hx50
          refine T_condT rfl ?_
          refine T_reg ?_
          refine T_val (Ev_move rfl) rfl ?_
          refine T_val (Ev_move rfl) rfl ?_
          refine T_val (Ev_move rfl) rfl ?_
          obtain ⟨x61, h62, hx63⟩ := bnd_some hx60
          have hw71 := Has.low (E := []) ha1' hK
          obtain ⟨b64, o65, j66, hA67, hj68, hl69, hp70⟩ := Has.at_idx hw71 h62
          refine T_val (Ev_index rfl rfl hA67 (j := j66) hj68 hl69 slc27) rfl ?_
          refine T_val (Ev_loadP0 rfl hp70 (SubE.cons2 (i := 1) rfl (SubE.nil)) rfl one3) rfl ?_
          refine T_val (Ev_sub_w64 rfl rfl) rfl ?_
          refine T_val (Ev_assign rfl) rfl ?_
          refine T_nil ?_
          exact T_metP (w64 ((w64 (x48 - s43.2.1)) - x61)) () hx63 trivial (by exact .cons rfl (.cons rfl (.cons rfl (.cons rfl (.cons rfl (.nil)))))) (by exact .pick 0 rfl (.refl))
        · have hx72 := ite_f h59 hx50
          refine T_condF rfl ?_
          refine T_skip ?_
          exact T_metP (w64 (x48 - s43.2.1)) () hx72 trivial (by exact .cons rfl (.cons rfl (.cons rfl (.cons rfl (.cons rfl (.nil)))))) (by exact .pick 0 rfl (.refl))
    · have hx47 := ite_f h45 hx43
      refine T_condF rfl ?_
      refine T_exit ?_
      refine T_outX ?_
      obtain rfl := exit_eq ht43 hx47
      refine T_outX ?_
      refine T_here ?_
      exact T_metP s43.1 (y43.1, y43.2) ho43 trivial (by exact .cons rfl (.nil)) (by exact .pick 0 rfl (.refl))
set_option maxRecDepth 100000 in
theorem lidarref01_times_ok (p0 : List Int) (p1 : List Int) {K : List Ent} {A0_0 : Option Addr} {c0_0 : Nat} {A0_1 : Option Addr} {c0_1 : Nat} (ha0 : Has K A0_0 (p0).length c0_0 1 e_i64 (p0)) (ha1 : Has K A0_1 (p1).length c0_1 1 e_i64 (p1)) {r : List Int} (hx : lidarref01_times p0 p1 = some r) (w : World) (hK : ∀ e ∈ K, Ent.ok w e) : CtL Try.prog 98 [.slice (A0_0) ((p0).length) (c0_0), .slice (A0_1) ((p1).length) (c0_1)] w fun v Ln => ∃ (A0 : Option Addr) (c0 : Nat), v = .slice (A0) ((r).length) (c0) ∧ Ln = [.r A0 (r).length c0 3 1 ((r).flatMap e_i64)] ∧ True := by
  have ha0' := Has.up0 ha0
  have ha1' := Has.up0 ha1
  refine CtL.mk 64 Try.func98 rfl Try.ntmps98 (by kernel_rfl) rfl ?_
  show T 64 _ [(0, .slice (A0_0) ((p0).length) (c0_0)), (1, .slice (A0_1) ((p1).length) (c0_1))] _
  unfold lidarref01_times at hx
  refine T_seq ?_
  refine T_reg ?_
  refine T_val (Ev_assign rfl) rfl ?_
  refine T_nil ?_
  refine T_next ?_
  refine T_seq ?_
  refine T_reg ?_
  refine T_val (Ev_move rfl) rfl ?_
  refine T_val (Ev_len rfl 3 Try.underlying27) rfl ?_
  refine T_val (Ev_move rfl) rfl ?_
  refine T_val (Ev_len rfl 3 Try.underlying27) rfl ?_
  refine T_val (Ev_add_w64 rfl rfl) rfl ?_
  obtain ⟨h2, hx3⟩ := gd_some hx
  refine T_x (Wx_makeP e_i64 (0) (z := .int .i64 (0)) rfl rfl rfl h2.1 Try.underlying27 (show Try.prog.info? 3 = some Try.t3 from by kernel_rfl) (by kernel_rfl) rfl rfl (by kernel_rfl) (show 8 * _ ≤ _ from h2.2) (by decide) rfl (fun A1 => ?_))
  refine T_val (Ev_assign rfl) rfl ?_
  refine T_nil ?_
  refine T_next ?_
  obtain ⟨j3, hj3, hx3⟩ := jn_some hx3
  refine T_cutP (τ := List Int) (γ := (Option Addr) × Nat) (J := j3) (out := r) (fun s3 y3 => [(5, .slice (y3.1) ((s3).length) (y3.2))]) (fun s3 y3 => [.r (y3.1) ((s3).length) (y3.2) 3 1 ((s3).flatMap e_i64)] ++ [.old w]) (fun s3 y3 => True) ?_ ?_
  · intro s3 y3 hx236 hG237
    subst hj3
    refine T_seq ?_
    refine T_reg ?_
    refine T_val (Ev_move rfl) rfl ?_
    refine T_rowP (k := 0) rfl (by decide) (fun _ => rfl) (fun hn238 hs239 => ?_)
    obtain ⟨r240, h241, hx242⟩ := bnd_some hx236
    refine T_x (Wx_callL rfl (fun w1 hw1 => lidarref01_trim_ok s3 (Has.len' hs239) h241 w1 (okAll (K := ([.r (y3.1) ((s3).length) (y3.2) 3 1 ((s3).flatMap e_i64)] : List Ent)) (by exact (SubE.cons2 (i := 0) rfl (SubE.nil))) hw1)) rfl ?_)
    rintro _ _ hlo ⟨rfl, rfl, hs243, -⟩
    refine T_app0 ?_
    refine T_front (r := r240) (trim_front h241) (.here) (by decide) (fun _ => rfl) ?_
    refine T_val (Ev_assign rfl) rfl ?_
    refine T_nil ?_
    refine T_next ?_
    refine T_retc ?_
    obtain rfl := Option.some.inj hx242
    exact T_retP (rs := [.tmp 4]) Try.results98 (.tmp rfl (.nil)) (Ln := [.r (y3.1) ((r240).length) (y3.2) 3 1 ((r240).flatMap e_i64)]) ⟨y3.1, y3.2, rfl, rfl, trivial⟩ (loCons rfl (loNil)) (by exact .pick 0 rfl (.refl))
  · skip
    refine T_seq ?_
    refine T_reg ?_
    refine T_val (Ev_assign rfl) rfl ?_
    refine T_nil ?_
    refine T_next ?_
    refine T_block ?_
    obtain ⟨t119, hl119, ho119⟩ := bnd_some hx3
    refine T_loopP (σ := (List Int) × Int) (γ := (Option Addr) × Nat) hl119 (fun s119 y119 => [(0, .slice (A0_0) ((p0).length) (c0_0)), (1, .slice (A0_1) ((p1).length) (c0_1)), (5, .slice (y119.1) ((s119.1).length) (y119.2)), (6, .int .i64 (s119.2))]) (fun s119 y119 => [.r (y119.1) ((s119.1).length) (y119.2) 3 1 ((s119.1).flatMap e_i64)] ++ [.old w]) (fun s119 y119 => True) (A1, (List.replicate (Int.toNat (w64 (((((p0).length : Nat) : Int)) + ((((p1).length : Nat) : Int))))) (0 : Int)).length) trivial (by exact .cons rfl (.cons rfl (.cons rfl (.cons rfl (.nil))))) (by exact .pick 0 rfl (.refl)) ?_
    intro s119 y119 hG119 x119 hx119 ht119
    unfold lidarref01_times_l3 at hx119
    refine T_seq ?_
    refine T_seq ?_
    refine T_reg ?_
    refine T_val (Ev_move rfl) rfl ?_
    refine T_val (Ev_move rfl) rfl ?_
    refine T_val (Ev_len rfl 3 Try.underlying27) rfl ?_
    refine T_val (Ev_lss rfl rfl) rfl ?_
    refine T_nil ?_
    refine T_next ?_
    refine T_caseP (s := 19) rfl (fun h120 => ?_) (fun h120 => ?_)
    · have hx121 := ite_t h120 hx119
      refine T_condT rfl ?_
      refine T_skip ?_
      refine T_next ?_
      refine T_seq ?_
      refine T_block ?_
      refine T_seq ?_
      refine T_reg ?_
      refine T_val (Ev_assign rfl) rfl ?_
      refine T_nil ?_
      refine T_next ?_
      obtain ⟨j25, hj25, hx121⟩ := jn_some hx121
      refine T_cutP (τ := (List Int) × Int) (γ := (Option Addr) × Nat) (J := j25) (out := x119) (fun s25 y25 => [(0, .slice (A0_0) ((p0).length) (c0_0)), (1, .slice (A0_1) ((p1).length) (c0_1)), (5, .slice (y25.1) ((s25.1).length) (y25.2)), (6, .int .i64 (s119.2)), (7, .int .i64 (s25.2))]) (fun s25 y25 => [.r (y25.1) ((s25.1).length) (y25.2) 3 1 ((s25.1).flatMap e_i64)] ++ [.old w]) (fun s25 y25 => True) ?_ ?_
      · intro s25 y25 hx221 hG222
        subst hj25
        refine T_reg ?_
        refine T_val (Ev_move rfl) rfl ?_
        refine T_val (Ev_move rfl) rfl ?_
        refine T_val (Ev_move rfl) rfl ?_
        refine T_val (Ev_len rfl 3 Try.underlying27) rfl ?_
        refine T_val (Ev_add_w64 rfl rfl) rfl ?_
        refine T_val (Ev_move rfl) rfl ?_
        obtain ⟨x223, h224, hx225⟩ := bnd_some hx221
        refine T_idxR (k := 0) rfl (by decide) (fun _ => rfl) h224 (fun b226 j228 hA229 hj230 hl231 hm233 hp232 => ?_)
        refine T_val (Ev_index rfl rfl hA229 (j := j228) hj230 hl231 slc27) rfl ?_
        refine T_h (Wh_storeP e_i64 (s25.1) (w64 (s119.2 + ((((p1).length : Nat) : Int)))) (s25.2) rfl rfl rfl (.here) hA229 rfl hj230 hl231 (fun _ => rfl) (by decide) rfl one3.2 ?_)
        refine T_nil ?_
        refine T_inN ?_
        refine T_next ?_
        refine T_reg ?_
        refine T_val (Ev_move rfl) rfl ?_
        refine T_val (Ev_add_w64 rfl rfl) rfl ?_
        refine T_val (Ev_assign rfl) rfl ?_
        refine T_nil ?_
        have hn234 : (s25.1).length = (setI s25.1 (w64 (s119.2 + ((((p1).length : Nat) : Int)))) s25.2).length := by simp [setI_len, cpy_len, List.length_append] <;> omega
        refine T_ent (.here) (e' := .r (y25.1) ((setI s25.1 (w64 (s119.2 + ((((p1).length : Nat) : Int)))) s25.2).length) (y25.2) 3 1 ((setI s25.1 (w64 (s119.2 + ((((p1).length : Nat) : Int)))) s25.2).flatMap e_i64)) (by first | (rw [← hn234]; done) | rfl) ?_
        refine T_slot (s := 5) (v' := .slice (y25.1) ((setI s25.1 (w64 (s119.2 + ((((p1).length : Nat) : Int)))) s25.2).length) (y25.2)) rfl (by have hn235 : ((s25.1).length) = (setI s25.1 (w64 (s119.2 + ((((p1).length : Nat) : Int)))) s25.2).length := (by simp [setI_len, cpy_len, List.length_append] <;> omega); first | (rw [← hn235]; done) | rfl) ?_
        exact T_roundP (setI s25.1 (w64 (s119.2 + ((((p1).length : Nat) : Int)))) s25.2, w64 (s119.2 + 1)) (y25.1, y25.2) hx225 trivial (by exact .cons rfl (.cons rfl (.cons rfl (.cons rfl (.nil))))) (by exact .pick 0 rfl (.refl))
      · skip
        refine T_seq ?_
        refine T_reg ?_
        refine T_val (Ev_assign rfl) rfl ?_
        refine T_nil ?_
        refine T_next ?_
        refine T_block ?_
        obtain ⟨t171, hl171, ho171⟩ := bnd_some hx121
        refine T_loopP (σ := (List Int) × Int × Int) (γ := (Option Addr) × Nat) hl171 (fun s171 y171 => [(0, .slice (A0_0) ((p0).length) (c0_0)), (1, .slice (A0_1) ((p1).length) (c0_1)), (5, .slice (y171.1) ((s171.1).length) (y171.2)), (6, .int .i64 (s119.2)), (7, .int .i64 (s171.2.1)), (8, .int .i64 (s171.2.2))]) (fun s171 y171 => [.r (y171.1) ((s171.1).length) (y171.2) 3 1 ((s171.1).flatMap e_i64)] ++ [.old w]) (fun s171 y171 => True) (y119.1, y119.2) trivial (by exact .cons rfl (.cons rfl (.cons rfl (.cons rfl (.cons rfl (.cons rfl (.nil))))))) (by exact .pick 0 rfl (.refl)) ?_
        intro s171 y171 hG171 x171 hx171 ht171
        unfold lidarref01_times_l7 at hx171
        refine T_seq ?_
        refine T_seq ?_
        refine T_reg ?_
        refine T_val (Ev_move rfl) rfl ?_
        refine T_val (Ev_move rfl) rfl ?_
        refine T_val (Ev_len rfl 3 Try.underlying27) rfl ?_
        refine T_val (Ev_lss rfl rfl) rfl ?_
        refine T_nil ?_
        refine T_next ?_
        refine T_caseP (s := 25) rfl (fun h172 => ?_) (fun h172 => ?_)
        · have hx173 := ite_t h172 hx171
          refine T_condT rfl ?_
          refine T_skip ?_
          refine T_next ?_
          refine T_seq ?_
          refine T_block ?_
          refine T_seq ?_
          refine T_draw [0, 0, 0, 1, 0, 0, 0, 1, 0, 0, 0, 0, 0, 0, 1, 0, 0, 0, 2] [[], [], [0, 1], [0, 1, 2], [], [], [4, 5], [4, 5, 6], [0, 1, 2, 3, 4, 5, 6, 7], [], [], [], [10, 11], [9, 10, 11, 12], [9, 10, 11, 12, 13], [0, 1, 2, 3, 4, 5, 6, 7, 8, 9, 10, 11, 12, 13, 14], [], [0, 1, 2, 3, 4, 5, 6, 7, 8, 9, 10, 11, 12, 13, 14, 15, 16], [0, 1, 2, 3, 4, 5, 6, 7, 8, 9, 10, 11, 12, 13, 14, 15, 16, 17]] (.q 0 (.q 1 (.q 2 (.q 3 (.q 4 (.q 5 (.q 6 (.q 7 (.q 8 (.q 9 (.q 10 (.q 11 (.q 12 (.q 13 (.q 14 (.q 15 (.q 16 (.q 17 (.e 18 (.done) (.stop)))))))))))))))))))) mixed (by kernel_rfl) (by kernel_rfl) ?_
          refine P_p rfl rfl (Ev_move rfl) rfl ?_
          refine P_p rfl rfl (Ev_move rfl) rfl ?_
          obtain ⟨x175, h176, hx177⟩ := bnd_some hx173
          have hw185 := Has.low (E := []) ha0' hK
          obtain ⟨b178, o179, j180, hA181, hj182, hl183, hp184⟩ := Has.at_idx hw185 h176
          refine P_p rfl rfl (Ev_index rfl rfl hA181 (j := j180) hj182 hl183 slc27) rfl ?_
          refine P_q rfl rfl (Ev_loadP0 rfl hp184 (SubE.cons2 (i := 1) rfl (SubE.nil)) rfl one3) rfl ?_
          refine P_p rfl rfl (Ev_move rfl) rfl ?_
          refine P_p rfl rfl (Ev_move rfl) rfl ?_
          obtain ⟨x186, h187, hx188⟩ := bnd_some hx177
          have hw196 := Has.low (E := []) ha1' hK
          obtain ⟨b189, o190, j191, hA192, hj193, hl194, hp195⟩ := Has.at_idx hw196 h187
          refine P_p rfl rfl (Ev_index rfl rfl hA192 (j := j191) hj193 hl194 slc27) rfl ?_
          refine P_q rfl rfl (Ev_loadP0 rfl hp195 (SubE.cons2 (i := 1) rfl (SubE.nil)) rfl one3) rfl ?_
          refine P_p rfl rfl (Ev_mul_w64 rfl rfl) rfl ?_
          refine P_p rfl rfl (Ev_move rfl) rfl ?_
          refine P_p rfl rfl (Ev_move rfl) rfl ?_
          refine P_p rfl rfl (Ev_move rfl) rfl ?_
          refine P_p rfl rfl (Ev_add_w64 rfl rfl) rfl ?_
          obtain ⟨x197, h198, hx199⟩ := bnd_some hx188
          refine T_idxR (k := 0) rfl (by decide) (fun _ => rfl) h198 (fun b200 j202 hA203 hj204 hl205 hm207 hp206 => ?_)
          refine P_p rfl rfl (Ev_index rfl rfl hA203 (j := j202) hj204 hl205 slc27) rfl ?_
          refine P_q rfl rfl (Ev_loadP0 rfl hp206 (SubE.cons2 (i := 0) rfl (SubE.nil)) rfl one3) rfl ?_
          refine P_p rfl rfl (Ev_add_w64 rfl rfl) rfl ?_
          refine P_p rfl rfl (Ev_move rfl) rfl ?_
          refine P_p rfl rfl (Ev_add_w64 rfl rfl) rfl ?_
          refine P_x rfl (Wx_val (Ev_assign rfl) rfl ?_) ?_
          rotate_left; exact P_stop
          refine P_done ?_
          refine T_next ?_
          refine T_seq ?_
          refine T_reg ?_
          refine T_val (Ev_move rfl) rfl ?_
          refine T_val (Ev_move rfl) rfl ?_
          refine T_val (Ev_move rfl) rfl ?_
          refine T_val (Ev_add_w64 rfl rfl) rfl ?_
          refine T_val (Ev_move rfl) rfl ?_
          refine T_val (Ev_rem rfl rfl (by decide)) rfl ?_
          obtain ⟨x208, h209, hx210⟩ := bnd_some hx199
          refine T_idxR (k := 0) rfl (by decide) (fun _ => rfl) h209 (fun b211 j213 hA214 hj215 hl216 hm218 hp217 => ?_)
          refine T_val (Ev_index rfl rfl hA214 (j := j213) hj215 hl216 slc27) rfl ?_
          refine T_h (Wh_storeP e_i64 (s171.1) (w64 (s119.2 + s171.2.2)) (Int.tmod (w64 ((w64 ((w64 (x175 * x186)) + x197)) + s171.2.1)) 65536) rfl rfl rfl (.here) hA214 rfl hj215 hl216 (fun _ => rfl) (by decide) rfl one3.2 ?_)
          refine T_nil ?_
          refine T_next ?_
          refine T_reg ?_
          refine T_val (Ev_move rfl) rfl ?_
          refine T_val (Ev_quo_w64 rfl rfl (by decide)) rfl ?_
          refine T_val (Ev_assign rfl) rfl ?_
          refine T_nil ?_
          refine T_inN ?_
          refine T_next ?_
          refine T_reg ?_
          refine T_val (Ev_move rfl) rfl ?_
          refine T_val (Ev_add_w64 rfl rfl) rfl ?_
          refine T_val (Ev_assign rfl) rfl ?_
          refine T_nil ?_
          have hn219 : (s171.1).length = (setI s171.1 (w64 (s119.2 + s171.2.2)) (Int.tmod (w64 ((w64 ((w64 (x175 * x186)) + x197)) + s171.2.1)) 65536)).length := by simp [setI_len, cpy_len, List.length_append] <;> omega
          refine T_ent (.here) (e' := .r (y171.1) ((setI s171.1 (w64 (s119.2 + s171.2.2)) (Int.tmod (w64 ((w64 ((w64 (x175 * x186)) + x197)) + s171.2.1)) 65536)).length) (y171.2) 3 1 ((setI s171.1 (w64 (s119.2 + s171.2.2)) (Int.tmod (w64 ((w64 ((w64 (x175 * x186)) + x197)) + s171.2.1)) 65536)).flatMap e_i64)) (by first | (rw [← hn219]; done) | rfl) ?_
          refine T_slot (s := 5) (v' := .slice (y171.1) ((setI s171.1 (w64 (s119.2 + s171.2.2)) (Int.tmod (w64 ((w64 ((w64 (x175 * x186)) + x197)) + s171.2.1)) 65536)).length) (y171.2)) rfl (by have hn220 : ((s171.1).length) = (setI s171.1 (w64 (s119.2 + s171.2.2)) (Int.tmod (w64 ((w64 ((w64 (x175 * x186)) + x197)) + s171.2.1)) 65536)).length := (by simp [setI_len, cpy_len, List.length_append] <;> omega); first | (rw [← hn220]; done) | rfl) ?_
          exact T_roundP (setI s171.1 (w64 (s119.2 + s171.2.2)) (Int.tmod (w64 ((w64 ((w64 (x175 * x186)) + x197)) + s171.2.1)) 65536), w64 (Int.tdiv (w64 ((w64 ((w64 (x175 * x186)) + x197)) + s171.2.1)) 65536), w64 (s171.2.2 + 1)) (y171.1, y171.2) hx210 trivial (by exact .cons rfl (.cons rfl (.cons rfl (.cons rfl (.cons rfl (.cons rfl (.nil))))))) (by exact .pick 0 rfl (.refl))
        · have hx174 := ite_f h172 hx171
          refine T_condF rfl ?_
          refine T_exit ?_
          refine T_outX ?_
          obtain rfl := exit_eq ht171 hx174
          refine T_outX ?_
          refine T_here ?_
          exact T_metP (s171.1, s171.2.1) (y171.1, y171.2) ho171 trivial (by exact .cons rfl (.cons rfl (.cons rfl (.cons rfl (.cons rfl (.nil)))))) (by exact .pick 0 rfl (.refl))
    · have hx122 := ite_f h120 hx119
      refine T_condF rfl ?_
      refine T_exit ?_
      refine T_outX ?_
      obtain rfl := exit_eq ht119 hx122
      refine T_outX ?_
      refine T_here ?_
      exact T_metP s119.1 (y119.1, y119.2) ho119 trivial (by exact .cons rfl (.nil)) (by exact .pick 0 rfl (.refl))
set_option maxRecDepth 100000 in
theorem lidarref01_divide_ok (p0 : List Int) (p1 : List Int) {K : List Ent} {A0_0 : Option Addr} {c0_0 : Nat} {A0_1 : Option Addr} {c0_1 : Nat} (ha0 : Has K A0_0 (p0).length c0_0 1 e_i64 (p0)) (ha1 : Has K A0_1 (p1).length c0_1 1 e_i64 (p1)) {r : (List Int) × (List Int)} (hx : lidarref01_divide p0 p1 = some r) (w : World) (hK : ∀ e ∈ K, Ent.ok w e) : CtL Try.prog 127 [.slice (A0_0) ((p0).length) (c0_0), .slice (A0_1) ((p1).length) (c0_1)] w fun v Ln => ∃ (A0 : Option Addr) (c0 : Nat) (A2 : Option Addr) (c2 : Nat) (e0 : Ent), v = .tuple #[.slice (A0) ((r.1).length) (c0), .slice (A2) ((r.2).length) (c2)] ∧ Ln = [.r A0 (r.1).length c0 3 1 ((r.1).flatMap e_i64), e0] ∧ Has (K ++ [e0]) A2 (r.2).length c2 1 e_i64 (r.2) ∧ True := by
  have ha0' := Has.up0 ha0
  have ha1' := Has.up0 ha1
  refine CtL.mk 156 Try.func127 rfl Try.ntmps127 (by kernel_rfl) rfl ?_
  show T 156 _ [(0, .slice (A0_0) ((p0).length) (c0_0)), (1, .slice (A0_1) ((p1).length) (c0_1))] _
  unfold lidarref01_divide at hx
  refine T_seq ?_
  refine T_reg ?_
  refine T_val (Ev_assign rfl) rfl ?_
  refine T_val (Ev_assign rfl) rfl ?_
  refine T_nil ?_
  refine T_next ?_
  refine T_seq ?_
  refine T_seq ?_
  refine T_reg ?_
  refine T_val (Ev_move rfl) rfl ?_
  refine T_val (Ev_move rfl) rfl ?_
  obtain ⟨r1, h2, hx3⟩ := bnd_some hx
  refine T_x (Wx_callL rfl (fun w1 hw1 => lidarref01_compare_ok p0 p1 (Has.len' ha0') (Has.len' ha1') h2 w1 (okApp (K := K) (K2 := []) hK (by exact (SubE.cons2 (i := 0) rfl (SubE.nil))) (by exact (SubE.nil)) hw1)) rfl ?_)
  rintro _ _ hlo ⟨rfl, rfl, -⟩
  refine T_app0 ?_
  refine T_val (Ev_lss rfl rfl) rfl ?_
  refine T_nil ?_
  refine T_next ?_
  refine T_caseP (s := 22) rfl (fun h4 => ?_) (fun h4 => ?_)
  · have hx5 := ite_t h4 hx3
    refine T_condT rfl ?_
    refine T_seq ?_
    refine T_reg ?_
    refine T_val (Ev_move rfl) rfl ?_
    refine T_val (Ev_assign rfl) rfl ?_
    refine T_val (Ev_assign rfl) rfl ?_
    refine T_nil ?_
    refine T_next ?_
    refine T_retc ?_
    refine T_outR ?_
    refine T_none 3 1 ?_
    refine T_none 0 1 ?_
    obtain rfl := Option.some.inj hx5
    exact T_retP (rs := [.tmp 4, .tmp 5]) Try.results127 (.tmp rfl (.tmp rfl (.nil))) (Ln := [.r (none) (0) (0) 3 1 ((([] : List Int)).flatMap e_i64), .r none 0 0 0 1 []]) ⟨none, 0, A0_0, c0_0, (.r none 0 0 0 1 []), rfl, rfl, Has.len' (Has.up (L := (K ++ [.r none 0 0 0 1 []])) ha0' (SubE.app2 SubE.nil)), trivial⟩ (loCons rfl (loCons rfl (loNil))) (by exact .pick 1 rfl (.pick 0 rfl (.refl)))
  · have hx6 := ite_f h4 hx3
    refine T_condF rfl ?_
    refine T_skip ?_
    refine T_next ?_
    refine T_seq ?_
    refine T_seq ?_
    refine T_reg ?_
    refine T_val (Ev_move rfl) rfl ?_
    refine T_val (Ev_len rfl 3 Try.underlying27) rfl ?_
    refine T_val (Ev_eql rfl rfl) rfl ?_
    refine T_nil ?_
    refine T_next ?_
    refine T_caseP (s := 26) rfl (fun h7 => ?_) (fun h7 => ?_)
    · have hx8 := ite_t h7 hx6
      refine T_condT rfl ?_
      refine T_seq ?_
      refine T_reg ?_
      refine T_val (Ev_move rfl) rfl ?_
      refine T_val (Ev_move rfl) rfl ?_
      obtain ⟨x9, h10, hx11⟩ := bnd_some hx8
      have hw19 := Has.low (E := []) ha1' hK
      obtain ⟨b12, o13, j14, hA15, hj16, hl17, hp18⟩ := Has.at_idx hw19 h10
      refine T_val (Ev_index rfl rfl hA15 (j := j14) hj16 hl17 slc27) rfl ?_
      refine T_val (Ev_loadP0 rfl hp18 (SubE.cons2 (i := 0) rfl (SubE.nil)) rfl one3) rfl ?_
      obtain ⟨r20, h21, hx22⟩ := bnd_some hx11
      refine T_x (Wx_callL rfl (fun w1 hw1 => lidarref01_short_ok p0 x9 (Has.len' ha0') h21 w1 (okApp (K := K) (K2 := []) hK (by exact (SubE.cons2 (i := 0) rfl (SubE.nil))) (by exact (SubE.nil)) hw1)) rfl ?_)
      rintro _ _ hlo ⟨A23, c24, rfl, rfl, -⟩
      refine T_app1 ?_
      refine T_val (Ev_move rfl) rfl ?_
      refine T_val (Ev_extract rfl rfl) rfl ?_
      refine T_val (Ev_extract rfl rfl) rfl ?_
      refine T_val (Ev_assign rfl) rfl ?_
      refine T_val (Ev_assign rfl) rfl ?_
      refine T_nil ?_
      refine T_next ?_
      refine T_seq ?_
      refine T_reg ?_
      refine T_val (Ev_move rfl) rfl ?_
      refine T_val (Ev_move rfl) rfl ?_
      obtain ⟨r25, h26, hx27⟩ := bnd_some hx22
      refine T_x (Wx_callL rfl (fun w1 hw1 => lidarref01_Small_ok r20.2  h26 w1) rfl ?_)
      rintro _ _ hlo ⟨A28, c29, e30, rfl, rfl, hs31, -⟩
      have lo32 := hlo e30 (by simp)
      refine T_app1 ?_
      refine T_val (Ev_fieldV rfl (fdv43_1_abs _ _ _ _)) rfl ?_
      refine T_val (Ev_assign rfl) rfl ?_
      refine T_val (Ev_assign rfl) rfl ?_
      refine T_nil ?_
      refine T_next ?_
      refine T_retc ?_
      refine T_outR ?_
      obtain rfl := Option.some.inj hx27
      exact T_retP (rs := [.tmp 4, .tmp 5]) Try.results127 (.tmp rfl (.tmp rfl (.nil))) (Ln := [.r (A23) ((r20.1).length) (c24) 3 1 ((r20.1).flatMap e_i64), e30]) ⟨A23, c24, A28, c29, e30, rfl, rfl, Has.len' (Has.up (L := (K ++ [e30])) hs31 (SubE.appR2 (SubE.cons2 (i := 0) rfl (SubE.nil)))), trivial⟩ (loCons rfl (loCons lo32 (loNil))) (by exact .pick 1 rfl (.pick 0 rfl (.refl)))
    · have hx33 := ite_f h7 hx6
      refine T_condF rfl ?_
      refine T_skip ?_
      refine T_next ?_
      refine T_seq ?_
      refine T_reg ?_
      refine T_val (Ev_move rfl) rfl ?_
      refine T_val (Ev_move rfl) rfl ?_
      refine T_val (Ev_len rfl 3 Try.underlying27) rfl ?_
      refine T_val (Ev_sub_w64 rfl rfl) rfl ?_
      obtain ⟨x34, h35, hx36⟩ := bnd_some hx33
      have hw44 := Has.low (E := []) ha1' hK
      obtain ⟨b37, o38, j39, hA40, hj41, hl42, hp43⟩ := Has.at_idx hw44 h35
      refine T_val (Ev_index rfl rfl hA40 (j := j39) hj41 hl42 slc27) rfl ?_
      refine T_val (Ev_loadP0 rfl hp43 (SubE.cons2 (i := 0) rfl (SubE.nil)) rfl one3) rfl ?_
      refine T_val (Ev_add_w64 rfl rfl) rfl ?_
      obtain ⟨h45, hx46⟩ := gd_some hx36
      refine T_val (Ev_quo_w64 rfl rfl h45) rfl ?_
      refine T_x (Wx_buildSlice rfl (bls27_1_0i64 _) rfl (fun g47 => ?_))
      refine T_val (Ev_assign rfl) rfl ?_
      refine T_nil ?_
      refine T_next ?_
      refine T_seq ?_
      refine T_reg ?_
      refine T_val (Ev_move rfl) rfl ?_
      refine T_val (Ev_move rfl) rfl ?_
      have hs48 : Has [.m g47 3 [.int .i64 (w64 (Int.tdiv 65536 (w64 (x34 + 1))))]] (some ⟨g47, 0, none⟩) 1 1 1 e_i64 [w64 (Int.tdiv 65536 (w64 (x34 + 1)))] := Has.ofM (fun _ _ => rfl) rfl (by decide) rfl
      obtain ⟨r49, h50, hx51⟩ := bnd_some hx46
      refine T_x (Wx_callL rfl (fun w1 hw1 => lidarref01_times_ok p0 ([w64 (Int.tdiv 65536 (w64 (x34 + 1)))]) (Has.len' (Has.up (L := (K ++ [.m g47 3 [.int .i64 (w64 (Int.tdiv 65536 (w64 (x34 + 1))))]])) ha0' (SubE.app2 SubE.nil))) (Has.len' (Has.up (L := (K ++ [.m g47 3 [.int .i64 (w64 (Int.tdiv 65536 (w64 (x34 + 1))))]])) hs48 (SubE.appR2 (SubE.cons2 (i := 0) rfl (SubE.nil))))) h50 w1 (okApp (K := K) (K2 := [.m g47 3 [.int .i64 (w64 (Int.tdiv 65536 (w64 (x34 + 1))))]]) hK (by exact (SubE.cons2 (i := 1) rfl (SubE.nil))) (by exact (SubE.cons2 (i := 0) rfl (SubE.nil))) hw1)) rfl ?_)
      rintro _ _ hlo ⟨A52, c53, rfl, rfl, -⟩
      refine T_app1 ?_
      refine T_val (Ev_move rfl) rfl ?_
      refine T_val (Ev_move rfl) rfl ?_
      have hs54 : Has [.m g47 3 [.int .i64 (w64 (Int.tdiv 65536 (w64 (x34 + 1))))]] (some ⟨g47, 0, none⟩) 1 1 1 e_i64 [w64 (Int.tdiv 65536 (w64 (x34 + 1)))] := Has.ofM (fun _ _ => rfl) rfl (by decide) rfl
      obtain ⟨r55, h56, hx57⟩ := bnd_some hx51
      refine T_x (Wx_callL rfl (fun w1 hw1 => lidarref01_times_ok p1 ([w64 (Int.tdiv 65536 (w64 (x34 + 1)))]) (Has.len' (Has.up (L := (K ++ [.m g47 3 [.int .i64 (w64 (Int.tdiv 65536 (w64 (x34 + 1))))]])) ha1' (SubE.app2 SubE.nil))) (Has.len' (Has.up (L := (K ++ [.m g47 3 [.int .i64 (w64 (Int.tdiv 65536 (w64 (x34 + 1))))]])) hs54 (SubE.appR2 (SubE.cons2 (i := 0) rfl (SubE.nil))))) h56 w1 (okApp (K := K) (K2 := [.m g47 3 [.int .i64 (w64 (Int.tdiv 65536 (w64 (x34 + 1))))]]) hK (by exact (SubE.cons2 (i := 2) rfl (SubE.nil))) (by exact (SubE.cons2 (i := 1) rfl (SubE.nil))) hw1)) rfl ?_)
      rintro _ _ hlo ⟨A58, c59, rfl, rfl, -⟩
      refine T_app1 ?_
      refine T_val (Ev_assign rfl) rfl ?_
      refine T_val (Ev_assign rfl) rfl ?_
      refine T_nil ?_
      refine T_next ?_
      refine T_seq ?_
      refine T_reg ?_
      refine T_val (Ev_move rfl) rfl ?_
      refine T_val (Ev_len rfl 3 Try.underlying27) rfl ?_
      refine T_val (Ev_move rfl) rfl ?_
      refine T_val (Ev_len rfl 3 Try.underlying27) rfl ?_
      refine T_val (Ev_sub_w64 rfl rfl) rfl ?_
      refine T_val (Ev_add_w64 rfl rfl) rfl ?_
      obtain ⟨h61, hx62⟩ := gd_some hx57
      refine T_x (Wx_makeP e_i64 (0) (z := .int .i64 (0)) rfl rfl rfl h61.1 Try.underlying27 (show Try.prog.info? 3 = some Try.t3 from by kernel_rfl) (by kernel_rfl) rfl rfl (by kernel_rfl) (show 8 * _ ≤ _ from h61.2) (by decide) rfl (fun A60 => ?_))
      refine T_val (Ev_assign rfl) rfl ?_
      refine T_nil ?_
      refine T_next ?_
      refine T_seq ?_
      refine T_reg ?_
      refine T_x (Wx_buildSlice rfl (bls27_0_) rfl (fun g63 => ?_))
      refine T_val (Ev_move rfl) rfl ?_
      refine T_val (Ev_move rfl) rfl ?_
      refine T_val (Ev_len rfl 3 Try.underlying27) rfl ?_
      refine T_val (Ev_move rfl) rfl ?_
      refine T_val (Ev_len rfl 3 Try.underlying27) rfl ?_
      refine T_val (Ev_sub_w64 rfl rfl) rfl ?_
      refine T_val (Ev_add_w64 rfl rfl) rfl ?_
      refine T_rowP (k := 3) rfl (by decide) (fun _ => rfl) (fun hn64 hs65 => ?_)
      obtain ⟨h67, hx68⟩ := gd_some hx62
      have hs66 := Has.subL hs65 h67.1 h67.2
      refine T_val (Ev_subL rfl rfl slc27 h67.1 h67.2) rfl ?_
      refine T_mr (enc := e_i64) (sz := 1) (([] : List Int)) (.here) rfl rfl (fun _ => rfl) (by decide) ?_
      obtain ⟨h69, hx70⟩ := gd_some hx68
      refine T_h (Wh_appendH e_i64 (([] : List Int)) (subl r49 (w64 ((w64 (((((r49).length : Nat) : Int)) - ((((r55).length : Nat) : Int)))) + 1)) (((r49).length : Nat) : Int)) rfl rfl elm27 (fun _ => rfl) hs66 (SubE.cons2 (i := 3) rfl (SubE.nil)) (fun _ => rfl) h69 rfl (fun _ _ => .here) (by decide) (fun A71 c72 => ?_))
      refine T_rowP (k := 0) rfl (by decide) (fun _ => rfl) (fun hn73 hs74 => ?_)
      obtain ⟨r75, h76, hx77⟩ := bnd_some hx70
      refine T_x (Wx_callL rfl (fun w1 hw1 => lidarref01_trim_ok ((([] : List Int)) ++ (subl r49 (w64 ((w64 (((((r49).length : Nat) : Int)) - ((((r55).length : Nat) : Int)))) + 1)) (((r49).length : Nat) : Int))) (Has.len' hs74) h76 w1 (okAll (K := ([.r (A71) (((([] : List Int)) ++ (subl r49 (w64 ((w64 (((((r49).length : Nat) : Int)) - ((((r55).length : Nat) : Int)))) + 1)) (((r49).length : Nat) : Int))).length) (c72) 3 1 (((([] : List Int)) ++ (subl r49 (w64 ((w64 (((((r49).length : Nat) : Int)) - ((((r55).length : Nat) : Int)))) + 1)) (((r49).length : Nat) : Int))).flatMap e_i64)] : List Ent)) (by exact (SubE.cons2 (i := 0) rfl (SubE.nil))) hw1)) rfl ?_)
      rintro _ _ hlo ⟨rfl, rfl, hs78, -⟩
      refine T_app0 ?_
      refine T_front (r := r75) (trim_front h76) (.here) (by decide) (fun _ => rfl) ?_
      refine T_val (Ev_assign rfl) rfl ?_
      refine T_nil ?_
      refine T_next ?_
      obtain ⟨j13, hj13, hx77⟩ := jn_some hx77
      refine T_cutP (τ := (List Int) × (List Int)) (γ := (Option Addr) × Nat × (Option Addr) × Nat) (J := j13) (out := r) (fun s13 y13 => [(8, .slice (some ⟨g47, 0, none⟩) (1) (1)), (11, .slice (y13.1) ((s13.1).length) (y13.2.1)), (12, .slice (y13.2.2.1) ((s13.2).length) (y13.2.2.2))]) (fun s13 y13 => [.r (y13.2.2.1) ((s13.2).length) (y13.2.2.2) 3 1 ((s13.2).flatMap e_i64), .r (y13.1) ((s13.1).length) (y13.2.1) 3 1 ((s13.1).flatMap e_i64), .r (some ⟨g47, 0, none⟩) (1) (1) 3 1 (([w64 (Int.tdiv 65536 (w64 (x34 + 1)))]).flatMap e_i64)] ++ [.old w]) (fun s13 y13 => True) ?_ ?_
      · intro s13 y13 hx383 hG384
        subst hj13
        refine T_seq ?_
        refine T_reg ?_
        refine T_val (Ev_move rfl) rfl ?_
        refine T_val (Ev_move rfl) rfl ?_
        obtain ⟨x385, h386, hx387⟩ := bnd_some hx383
        refine T_idxR (k := 2) rfl (by decide) (fun _ => rfl) h386 (fun b388 j390 hA391 hj392 hl393 hm395 hp394 => ?_)
        refine T_val (Ev_index rfl rfl hA391 (j := j390) hj392 hl393 slc27) rfl ?_
        refine T_val (Ev_loadP0 rfl hp394 (SubE.cons2 (i := 2) rfl (SubE.nil)) rfl one3) rfl ?_
        refine T_rowP (k := 0) rfl (by decide) (fun _ => rfl) (fun hn396 hs397 => ?_)
        obtain ⟨r398, h399, hx400⟩ := bnd_some hx387
        refine T_x (Wx_callL rfl (fun w1 hw1 => lidarref01_short_ok s13.2 x385 (Has.len' hs397) h399 w1 (okAll (K := ([.r (y13.2.2.1) ((s13.2).length) (y13.2.2.2) 3 1 ((s13.2).flatMap e_i64)] : List Ent)) (by exact (SubE.cons2 (i := 0) rfl (SubE.nil))) hw1)) rfl ?_)
        rintro _ _ hlo ⟨A401, c402, rfl, rfl, -⟩
        refine T_app1 ?_
        refine T_val (Ev_move rfl) rfl ?_
        refine T_val (Ev_extract rfl rfl) rfl ?_
        refine T_val (Ev_extract rfl rfl) rfl ?_
        refine T_val (Ev_assign rfl) rfl ?_
        refine T_val (Ev_assign rfl) rfl ?_
        refine T_nil ?_
        refine T_next ?_
        refine T_seq ?_
        refine T_reg ?_
        refine T_val (Ev_move rfl) rfl ?_
        refine T_rowP (k := 2) rfl (by decide) (fun _ => rfl) (fun hn403 hs404 => ?_)
        obtain ⟨r405, h406, hx407⟩ := bnd_some hx400
        refine T_x (Wx_callL rfl (fun w1 hw1 => lidarref01_trim_ok s13.1 (Has.len' hs404) h406 w1 (okAll (K := ([.r (y13.1) ((s13.1).length) (y13.2.1) 3 1 ((s13.1).flatMap e_i64)] : List Ent)) (by exact (SubE.cons2 (i := 2) rfl (SubE.nil))) hw1)) rfl ?_)
        rintro _ _ hlo ⟨rfl, rfl, hs408, -⟩
        refine T_app0 ?_
        refine T_front (r := r405) (trim_front h406) (.there (.there (.here))) (by decide) (fun _ => rfl) ?_
        refine T_val (Ev_move rfl) rfl ?_
        refine T_val (Ev_assign rfl) rfl ?_
        refine T_val (Ev_assign rfl) rfl ?_
        refine T_nil ?_
        refine T_next ?_
        refine T_retc ?_
        refine T_rowP (k := 0) rfl (by decide) (fun _ => rfl) (fun hn409 hs410 => ?_)
        obtain rfl := Option.some.inj hx407
        exact T_retP (rs := [.tmp 4, .tmp 5]) Try.results127 (.tmp rfl (.tmp rfl (.nil))) (Ln := [.r (y13.1) ((r405).length) (y13.2.1) 3 1 ((r405).flatMap e_i64), .r (A401) ((r398.1).length) (c402) 3 1 ((r398.1).flatMap e_i64)]) ⟨y13.1, y13.2.1, A401, c402, (.r (A401) ((r398.1).length) (c402) 3 1 ((r398.1).flatMap e_i64)), rfl, rfl, Has.len' (Has.up (L := (K ++ [.r (A401) ((r398.1).length) (c402) 3 1 ((r398.1).flatMap e_i64)])) hs410 (SubE.appR2 (SubE.cons2 (i := 0) rfl (SubE.nil)))), trivial⟩ (loCons rfl (loCons rfl (loNil))) (by exact .pick 2 rfl (.pick 0 rfl (.drop 0 rfl (.drop 0 rfl (.refl)))))
      · skip
        refine T_seq ?_
        refine T_reg ?_
        refine T_val (Ev_move rfl) rfl ?_
        refine T_val (Ev_len rfl 3 Try.underlying27) rfl ?_
        refine T_val (Ev_move rfl) rfl ?_
        refine T_val (Ev_len rfl 3 Try.underlying27) rfl ?_
        refine T_val (Ev_sub_w64 rfl rfl) rfl ?_
        refine T_val (Ev_assign rfl) rfl ?_
        refine T_nil ?_
        refine T_next ?_
        refine T_block ?_
        refine T_mr (enc := e_i64) (sz := 1) ([w64 (Int.tdiv 65536 (w64 (x34 + 1)))]) (.there (.there (.there (.there (.here))))) rfl rfl (fun _ => rfl) (by show 1 ≤ maxLen; decide) ?_
        obtain ⟨t230, hl230, ho230⟩ := bnd_some hx77
        refine T_loopP (σ := (List Int) × (List Int) × Int) (γ := (Option Addr) × Nat × (Option Addr) × Nat) hl230 (fun s230 y230 => [(8, .slice (some ⟨g47, 0, none⟩) (1) (1)), (9, .slice (A52) ((r49).length) (c53)), (10, .slice (A58) ((r55).length) (c59)), (11, .slice (y230.1) ((s230.1).length) (y230.2.1)), (12, .slice (y230.2.2.1) ((s230.2.1).length) (y230.2.2.2)), (13, .int .i64 (s230.2.2))]) (fun s230 y230 => [.r (y230.2.2.1) ((s230.2.1).length) (y230.2.2.2) 3 1 ((s230.2.1).flatMap e_i64), .r (y230.1) ((s230.1).length) (y230.2.1) 3 1 ((s230.1).flatMap e_i64), .r (A58) ((r55).length) (c59) 3 1 ((r55).flatMap e_i64), .r (A52) ((r49).length) (c53) 3 1 ((r49).flatMap e_i64), .r (some ⟨g47, 0, none⟩) (1) (1) 3 1 (([w64 (Int.tdiv 65536 (w64 (x34 + 1)))]).flatMap e_i64)] ++ [.old w]) (fun s230 y230 => True) (A60, (List.replicate (Int.toNat (w64 ((w64 (((((r49).length : Nat) : Int)) - ((((r55).length : Nat) : Int)))) + 1))) (0 : Int)).length, A71, c72) trivial (by exact .cons rfl (.cons rfl (.cons rfl (.cons rfl (.cons rfl (.cons rfl (.nil))))))) (by exact .pick 0 rfl (.pick 0 rfl (.pick 0 rfl (.pick 0 rfl (.pick 0 rfl (.refl)))))) ?_
        intro s230 y230 hG230 x230 hx230 ht230
        unfold lidarref01_divide_l11 at hx230
        refine T_seq ?_
        refine T_seq ?_
        refine T_reg ?_
        refine T_val (Ev_move rfl) rfl ?_
        refine T_val (Ev_geq rfl rfl) rfl ?_
        refine T_nil ?_
        refine T_next ?_
        refine T_caseP (s := 78) rfl (fun h231 => ?_) (fun h231 => ?_)
        · have hx232 := ite_t h231 hx230
          refine T_condT rfl ?_
          refine T_skip ?_
          refine T_next ?_
          refine T_seq ?_
          refine T_block ?_
          refine T_seq ?_
          refine T_reg ?_
          refine T_val (Ev_move rfl) rfl ?_
          refine T_val (Ev_move rfl) rfl ?_
          obtain ⟨x234, h235, hx236⟩ := bnd_some hx232
          refine T_idxR (k := 3) rfl (by decide) (fun _ => rfl) h235 (fun b237 j239 hA240 hj241 hl242 hm244 hp243 => ?_)
          refine T_val (Ev_index rfl rfl hA240 (j := j239) hj241 hl242 slc27) rfl ?_
          refine T_val (Ev_loadP0 rfl hp243 (SubE.cons2 (i := 3) rfl (SubE.nil)) rfl one3) rfl ?_
          refine T_x (Wx_buildSlice rfl (bls27_1_0i64 _) rfl (fun g245 => ?_))
          refine T_val (Ev_move rfl) rfl ?_
          refine T_mr (enc := e_i64) (sz := 1) ([x234]) (.here) rfl rfl (fun _ => rfl) (by show 1 ≤ maxLen; decide) ?_
          refine T_rowP (k := 1) rfl (by decide) (fun _ => rfl) (fun hn246 hs247 => ?_)
          obtain ⟨h248, hx249⟩ := gd_some hx236
          refine T_h (Wh_appendH e_i64 ([x234]) (s230.2.1) rfl rfl elm27 (fun _ => rfl) hs247 (SubE.cons2 (i := 1) rfl (SubE.nil)) (fun _ => rfl) h248 rfl (fun _ _ => .here) (by decide) (fun A250 c251 => ?_))
          refine T_rowP (k := 0) rfl (by decide) (fun _ => rfl) (fun hn252 hs253 => ?_)
          obtain ⟨r254, h255, hx256⟩ := bnd_some hx249
          refine T_x (Wx_callL rfl (fun w1 hw1 => lidarref01_trim_ok (([x234]) ++ s230.2.1) (Has.len' hs253) h255 w1 (okAll (K := ([.r (A250) ((([x234]) ++ s230.2.1).length) (c251) 3 1 ((([x234]) ++ s230.2.1).flatMap e_i64)] : List Ent)) (by exact (SubE.cons2 (i := 0) rfl (SubE.nil))) hw1)) rfl ?_)
          rintro _ _ hlo ⟨rfl, rfl, hs257, -⟩
          refine T_app0 ?_
          refine T_front (r := r254) (trim_front h255) (.here) (by decide) (fun _ => rfl) ?_
          refine T_val (Ev_assign rfl) rfl ?_
          refine T_nil ?_
          refine T_next ?_
          refine T_seq ?_
          refine T_reg ?_
          refine T_val (Ev_assign rfl) rfl ?_
          refine T_nil ?_
          refine T_next ?_
          obtain ⟨j41, hj41, hx256⟩ := jn_some hx256
          refine T_cutP (τ := Int) (γ := Unit) (J := j41) (out := x230) (fun s41 y41 => [(8, .slice (some ⟨g47, 0, none⟩) (1) (1)), (9, .slice (A52) ((r49).length) (c53)), (10, .slice (A58) ((r55).length) (c59)), (11, .slice (y230.1) ((s230.1).length) (y230.2.1)), (12, .slice (A250) ((r254).length) (c251)), (13, .int .i64 (s230.2.2)), (14, .int .i64 (s41))]) (fun s41 y41 => [.r (A250) ((r254).length) (c251) 3 1 ((r254).flatMap e_i64), .r (y230.1) ((s230.1).length) (y230.2.1) 3 1 ((s230.1).flatMap e_i64), .r (A58) ((r55).length) (c59) 3 1 ((r55).flatMap e_i64), .r (A52) ((r49).length) (c53) 3 1 ((r49).flatMap e_i64), .r (some ⟨g47, 0, none⟩) (1) (1) 3 1 (([w64 (Int.tdiv 65536 (w64 (x34 + 1)))]).flatMap e_i64)] ++ [.old w]) (fun s41 y41 => True) ?_ ?_
          · intro s41 y41 hx304 hG305
            subst hj41
            refine T_seq ?_
            refine T_reg ?_
            refine T_val (Ev_move rfl) rfl ?_
            refine T_val (Ev_move rfl) rfl ?_
            refine T_x (Wx_buildSlice rfl (bls27_1_0i64 _) rfl (fun g306 => ?_))
            have hs307 : Has [.m g306 3 [.int .i64 (s41)]] (some ⟨g306, 0, none⟩) 1 1 1 e_i64 [s41] := Has.ofM (fun _ _ => rfl) rfl (by decide) rfl
            obtain ⟨r308, h309, hx310⟩ := bnd_some hx304
            refine T_x (Wx_callL rfl (fun w1 hw1 => lidarref01_trim_ok ([s41]) (Has.len' hs307) h309 w1 (okAll (K := ([.m g306 3 [.int .i64 (s41)]] : List Ent)) (by exact (SubE.cons2 (i := 0) rfl (SubE.nil))) hw1)) rfl ?_)
            rintro _ _ hlo ⟨rfl, rfl, hs311, -⟩
            refine T_app0 ?_
            refine T_rowP (k := 3) rfl (by decide) (fun _ => rfl) (fun hn312 hs313 => ?_)
            obtain ⟨r314, h315, hx316⟩ := bnd_some hx310
            refine T_x (Wx_callL rfl (fun w1 hw1 => lidarref01_times_ok r55 r308 (Has.len' (Has.up (L := ([.r (A58) ((r55).length) (c59) 3 1 ((r55).flatMap e_i64), .m g306 3 [.int .i64 (s41)]] : List Ent)) hs313 (SubE.cons2 (i := 0) rfl (SubE.nil)))) (Has.len' (Has.up (L := ([.r (A58) ((r55).length) (c59) 3 1 ((r55).flatMap e_i64), .m g306 3 [.int .i64 (s41)]] : List Ent)) hs311 (SubE.cons2 (i := 1) rfl (SubE.nil)))) h315 w1 (okAll (K := ([.r (A58) ((r55).length) (c59) 3 1 ((r55).flatMap e_i64), .m g306 3 [.int .i64 (s41)]] : List Ent)) (by exact (SubE.cons2 (i := 3) rfl (SubE.cons2 (i := 0) rfl (SubE.nil)))) hw1)) rfl ?_)
            rintro _ _ hlo ⟨A317, c318, rfl, rfl, -⟩
            refine T_app1 ?_
            refine T_val (Ev_assign rfl) rfl ?_
            refine T_nil ?_
            refine T_next ?_
            obtain ⟨j49, hj49, hx316⟩ := jn_some hx316
            refine T_cutP (τ := Int × (List Int)) (γ := (Option Addr) × Nat) (J := j49) (out := x230) (fun s49 y49 => [(8, .slice (some ⟨g47, 0, none⟩) (1) (1)), (9, .slice (A52) ((r49).length) (c53)), (10, .slice (A58) ((r55).length) (c59)), (11, .slice (y230.1) ((s230.1).length) (y230.2.1)), (12, .slice (A250) ((r254).length) (c251)), (13, .int .i64 (s230.2.2)), (14, .int .i64 (s49.1)), (16, .slice (y49.1) ((s49.2).length) (y49.2))]) (fun s49 y49 => [.r (y49.1) ((s49.2).length) (y49.2) 3 1 ((s49.2).flatMap e_i64), .r (A250) ((r254).length) (c251) 3 1 ((r254).flatMap e_i64), .r (y230.1) ((s230.1).length) (y230.2.1) 3 1 ((s230.1).flatMap e_i64), .r (A58) ((r55).length) (c59) 3 1 ((r55).flatMap e_i64), .r (A52) ((r49).length) (c53) 3 1 ((r49).flatMap e_i64), .r (some ⟨g47, 0, none⟩) (1) (1) 3 1 (([w64 (Int.tdiv 65536 (w64 (x34 + 1)))]).flatMap e_i64)] ++ [.old w]) (fun s49 y49 => True) ?_ ?_
            · intro s49 y49 hx359 hG360
              subst hj49
              refine T_seq ?_
              refine T_reg ?_
              refine T_val (Ev_move rfl) rfl ?_
              refine T_val (Ev_move rfl) rfl ?_
              refine T_rowP (k := 1) rfl (by decide) (fun _ => rfl) (fun hn361 hs362 => ?_)
              refine T_rowP (k := 0) rfl (by decide) (fun _ => rfl) (fun hn363 hs364 => ?_)
              obtain ⟨r365, h366, hx367⟩ := bnd_some hx359
              refine T_x (Wx_callL rfl (fun w1 hw1 => lidarref01_less_ok r254 s49.2 (Has.len' (Has.up (L := ([.r (A250) ((r254).length) (c251) 3 1 ((r254).flatMap e_i64), .r (y49.1) ((s49.2).length) (y49.2) 3 1 ((s49.2).flatMap e_i64)] : List Ent)) hs362 (SubE.cons2 (i := 0) rfl (SubE.nil)))) (Has.len' (Has.up (L := ([.r (A250) ((r254).length) (c251) 3 1 ((r254).flatMap e_i64), .r (y49.1) ((s49.2).length) (y49.2) 3 1 ((s49.2).flatMap e_i64)] : List Ent)) hs364 (SubE.cons2 (i := 1) rfl (SubE.nil)))) h366 w1 (okAll (K := ([.r (A250) ((r254).length) (c251) 3 1 ((r254).flatMap e_i64), .r (y49.1) ((s49.2).length) (y49.2) 3 1 ((s49.2).flatMap e_i64)] : List Ent)) (by exact (SubE.cons2 (i := 1) rfl (SubE.cons2 (i := 0) rfl (SubE.nil)))) hw1)) rfl ?_)
              rintro _ _ hlo ⟨A368, c369, rfl, rfl, -⟩
              refine T_app1 ?_
              refine T_val (Ev_assign rfl) rfl ?_
              refine T_nil ?_
              refine T_next ?_
              refine T_reg ?_
              refine T_val (Ev_move rfl) rfl ?_
              refine T_val (Ev_move rfl) rfl ?_
              refine T_val (Ev_move rfl) rfl ?_
              obtain ⟨x370, h371, hx372⟩ := bnd_some hx367
              refine T_idxR (k := 3) rfl (by decide) (fun _ => rfl) h371 (fun b373 j375 hA376 hj377 hl378 hm380 hp379 => ?_)
              refine T_val (Ev_index rfl rfl hA376 (j := j375) hj377 hl378 slc27) rfl ?_
              refine T_h (Wh_storeP e_i64 (s230.1) (s230.2.2) (s49.1) rfl rfl rfl (.there (.there (.there (.here)))) hA376 rfl hj377 hl378 (fun _ => rfl) (by decide) rfl one3.2 ?_)
              refine T_nil ?_
              refine T_inN ?_
              refine T_next ?_
              refine T_reg ?_
              refine T_val (Ev_move rfl) rfl ?_
              refine T_val (Ev_sub_w64 rfl rfl) rfl ?_
              refine T_val (Ev_assign rfl) rfl ?_
              refine T_nil ?_
              have hn381 : (s230.1).length = (setI s230.1 s230.2.2 s49.1).length := by simp [setI_len, cpy_len, List.length_append] <;> omega
              refine T_ent (.there (.there (.there (.here)))) (e' := .r (y230.1) ((setI s230.1 s230.2.2 s49.1).length) (y230.2.1) 3 1 ((setI s230.1 s230.2.2 s49.1).flatMap e_i64)) (by first | (rw [← hn381]; done) | rfl) ?_
              refine T_slot (s := 11) (v' := .slice (y230.1) ((setI s230.1 s230.2.2 s49.1).length) (y230.2.1)) rfl (by have hn382 : ((s230.1).length) = (setI s230.1 s230.2.2 s49.1).length := (by simp [setI_len, cpy_len, List.length_append] <;> omega); first | (rw [← hn382]; done) | rfl) ?_
              exact T_roundP (setI s230.1 s230.2.2 s49.1, r365, w64 (s230.2.2 - 1)) (y230.1, y230.2.1, A368, c369) hx372 trivial (by exact .cons rfl (.cons rfl (.cons rfl (.cons rfl (.cons rfl (.cons rfl (.nil))))))) (by exact .pick 0 rfl (.pick 2 rfl (.pick 2 rfl (.pick 2 rfl (.pick 2 rfl (.drop 0 rfl (.drop 0 rfl (.refl))))))))
            · skip
              refine T_block ?_
              obtain ⟨t339, hl339, ho339⟩ := bnd_some hx316
              refine T_loopP (σ := Int × (List Int)) (γ := (Option Addr) × Nat) hl339 (fun s339 y339 => [(8, .slice (some ⟨g47, 0, none⟩) (1) (1)), (9, .slice (A52) ((r49).length) (c53)), (10, .slice (A58) ((r55).length) (c59)), (11, .slice (y230.1) ((s230.1).length) (y230.2.1)), (12, .slice (A250) ((r254).length) (c251)), (13, .int .i64 (s230.2.2)), (14, .int .i64 (s339.1)), (16, .slice (y339.1) ((s339.2).length) (y339.2))]) (fun s339 y339 => [.r (y339.1) ((s339.2).length) (y339.2) 3 1 ((s339.2).flatMap e_i64), .r (A250) ((r254).length) (c251) 3 1 ((r254).flatMap e_i64), .r (y230.1) ((s230.1).length) (y230.2.1) 3 1 ((s230.1).flatMap e_i64), .r (A58) ((r55).length) (c59) 3 1 ((r55).flatMap e_i64), .r (A52) ((r49).length) (c53) 3 1 ((r49).flatMap e_i64), .r (some ⟨g47, 0, none⟩) (1) (1) 3 1 (([w64 (Int.tdiv 65536 (w64 (x34 + 1)))]).flatMap e_i64)] ++ [.old w]) (fun s339 y339 => True) (A317, c318) trivial (by exact .cons rfl (.cons rfl (.cons rfl (.cons rfl (.cons rfl (.cons rfl (.cons rfl (.cons rfl (.nil))))))))) (by exact .pick 0 rfl (.pick 1 rfl (.pick 1 rfl (.pick 1 rfl (.pick 1 rfl (.pick 1 rfl (.drop 0 rfl (.refl)))))))) ?_
              intro s339 y339 hG339 x339 hx339 ht339
              unfold lidarref01_divide_l23 at hx339
              refine T_seq ?_
              refine T_seq ?_
              refine T_reg ?_
              refine T_val (Ev_move rfl) rfl ?_
              refine T_val (Ev_move rfl) rfl ?_
              refine T_rowP (k := 0) rfl (by decide) (fun _ => rfl) (fun hn340 hs341 => ?_)
              refine T_rowP (k := 1) rfl (by decide) (fun _ => rfl) (fun hn342 hs343 => ?_)
              obtain ⟨r344, h345, hx346⟩ := bnd_some hx339
              refine T_x (Wx_callL rfl (fun w1 hw1 => lidarref01_compare_ok s339.2 r254 (Has.len' (Has.up (L := ([.r (y339.1) ((s339.2).length) (y339.2) 3 1 ((s339.2).flatMap e_i64), .r (A250) ((r254).length) (c251) 3 1 ((r254).flatMap e_i64)] : List Ent)) hs341 (SubE.cons2 (i := 0) rfl (SubE.nil)))) (Has.len' (Has.up (L := ([.r (y339.1) ((s339.2).length) (y339.2) 3 1 ((s339.2).flatMap e_i64), .r (A250) ((r254).length) (c251) 3 1 ((r254).flatMap e_i64)] : List Ent)) hs343 (SubE.cons2 (i := 1) rfl (SubE.nil)))) h345 w1 (okAll (K := ([.r (y339.1) ((s339.2).length) (y339.2) 3 1 ((s339.2).flatMap e_i64), .r (A250) ((r254).length) (c251) 3 1 ((r254).flatMap e_i64)] : List Ent)) (by exact (SubE.cons2 (i := 0) rfl (SubE.cons2 (i := 1) rfl (SubE.nil)))) hw1)) rfl ?_)
              rintro _ _ hlo ⟨rfl, rfl, -⟩
              refine T_app0 ?_
              refine T_val (Ev_gtr rfl rfl) rfl ?_
              refine T_nil ?_
              refine T_next ?_
              refine T_caseP (s := 132) rfl (fun h347 => ?_) (fun h347 => ?_)
              · have hx348 := ite_t h347 hx346
                refine T_condT rfl ?_
                refine T_skip ?_
                refine T_next ?_
                refine T_block ?_
                refine T_seq ?_
                refine T_reg ?_
                refine T_val (Ev_move rfl) rfl ?_
                refine T_val (Ev_sub_w64 rfl rfl) rfl ?_
                refine T_val (Ev_assign rfl) rfl ?_
                refine T_nil ?_
                refine T_next ?_
                refine T_reg ?_
                refine T_val (Ev_move rfl) rfl ?_
                refine T_val (Ev_move rfl) rfl ?_
                refine T_rowP (k := 0) rfl (by decide) (fun _ => rfl) (fun hn350 hs351 => ?_)
                refine T_rowP (k := 3) rfl (by decide) (fun _ => rfl) (fun hn352 hs353 => ?_)
                obtain ⟨r354, h355, hx356⟩ := bnd_some hx348
                refine T_x (Wx_callL rfl (fun w1 hw1 => lidarref01_less_ok s339.2 r55 (Has.len' (Has.up (L := ([.r (y339.1) ((s339.2).length) (y339.2) 3 1 ((s339.2).flatMap e_i64), .r (A58) ((r55).length) (c59) 3 1 ((r55).flatMap e_i64)] : List Ent)) hs351 (SubE.cons2 (i := 0) rfl (SubE.nil)))) (Has.len' (Has.up (L := ([.r (y339.1) ((s339.2).length) (y339.2) 3 1 ((s339.2).flatMap e_i64), .r (A58) ((r55).length) (c59) 3 1 ((r55).flatMap e_i64)] : List Ent)) hs353 (SubE.cons2 (i := 1) rfl (SubE.nil)))) h355 w1 (okAll (K := ([.r (y339.1) ((s339.2).length) (y339.2) 3 1 ((s339.2).flatMap e_i64), .r (A58) ((r55).length) (c59) 3 1 ((r55).flatMap e_i64)] : List Ent)) (by exact (SubE.cons2 (i := 0) rfl (SubE.cons2 (i := 3) rfl (SubE.nil)))) hw1)) rfl ?_)
                rintro _ _ hlo ⟨A357, c358, rfl, rfl, -⟩
                refine T_app1 ?_
                refine T_val (Ev_assign rfl) rfl ?_
                refine T_nil ?_
                refine T_inN ?_
                exact T_roundP (w64 (s339.1 - 1), r354) (A357, c358) hx356 trivial (by exact .cons rfl (.cons rfl (.cons rfl (.cons rfl (.cons rfl (.cons rfl (.cons rfl (.cons rfl (.nil))))))))) (by exact .pick 0 rfl (.pick 1 rfl (.pick 1 rfl (.pick 1 rfl (.pick 1 rfl (.pick 1 rfl (.drop 0 rfl (.refl))))))))
              · have hx349 := ite_f h347 hx346
                refine T_condF rfl ?_
                refine T_exit ?_
                refine T_outX ?_
                obtain rfl := exit_eq ht339 hx349
                refine T_outX ?_
                refine T_here ?_
                exact T_metP (s339.1, s339.2) (y339.1, y339.2) ho339 trivial (by exact .cons rfl (.cons rfl (.cons rfl (.cons rfl (.cons rfl (.cons rfl (.cons rfl (.cons rfl (.nil))))))))) (by exact .pick 0 rfl (.pick 0 rfl (.pick 0 rfl (.pick 0 rfl (.pick 0 rfl (.pick 0 rfl (.refl)))))))
          · skip
            refine T_seq ?_
            refine T_reg ?_
            refine T_val (Ev_move rfl) rfl ?_
            refine T_val (Ev_len rfl 3 Try.underlying27) rfl ?_
            refine T_val (Ev_move rfl) rfl ?_
            refine T_val (Ev_len rfl 3 Try.underlying27) rfl ?_
            refine T_val (Ev_geq rfl rfl) rfl ?_
            refine T_nil ?_
            refine T_next ?_
            refine T_caseP (s := 93) rfl (fun h258 => ?_) (fun h258 => ?_)
            · have hx259 := ite_t h258 hx256
              refine T_condT rfl ?_
              refine T_seq ?_
              refine T_reg ?_
              refine T_val (Ev_move rfl) rfl ?_
              refine T_val (Ev_move rfl) rfl ?_
              refine T_val (Ev_len rfl 3 Try.underlying27) rfl ?_
              refine T_val (Ev_sub_w64 rfl rfl) rfl ?_
              obtain ⟨x260, h261, hx262⟩ := bnd_some hx259
              refine T_idxR (k := 0) rfl (by decide) (fun _ => rfl) h261 (fun b263 j265 hA266 hj267 hl268 hm270 hp269 => ?_)
              refine T_val (Ev_index rfl rfl hA266 (j := j265) hj267 hl268 slc27) rfl ?_
              refine T_val (Ev_loadP0 rfl hp269 (SubE.cons2 (i := 0) rfl (SubE.nil)) rfl one3) rfl ?_
              refine T_val (Ev_assign rfl) rfl ?_
              refine T_nil ?_
              refine T_next ?_
              obtain ⟨j44, hj44, hx262⟩ := jn_some hx262
              refine T_cutP (τ := Int) (γ := Unit) (J := j44) (out := x230) (fun s44 y44 => [(8, .slice (some ⟨g47, 0, none⟩) (1) (1)), (9, .slice (A52) ((r49).length) (c53)), (10, .slice (A58) ((r55).length) (c59)), (11, .slice (y230.1) ((s230.1).length) (y230.2.1)), (12, .slice (A250) ((r254).length) (c251)), (13, .int .i64 (s230.2.2)), (15, .int .i64 (s44))]) (fun s44 y44 => [.r (A250) ((r254).length) (c251) 3 1 ((r254).flatMap e_i64), .r (y230.1) ((s230.1).length) (y230.2.1) 3 1 ((s230.1).flatMap e_i64), .r (A58) ((r55).length) (c59) 3 1 ((r55).flatMap e_i64), .r (A52) ((r49).length) (c53) 3 1 ((r49).flatMap e_i64), .r (some ⟨g47, 0, none⟩) (1) (1) 3 1 (([w64 (Int.tdiv 65536 (w64 (x34 + 1)))]).flatMap e_i64)] ++ [.old w]) (fun s44 y44 => True) ?_ ?_
              · intro s44 y44 hx285 hG286
                subst hj44
                refine T_seq ?_
                refine T_reg ?_
                refine T_val (Ev_move rfl) rfl ?_
                refine T_val (Ev_move rfl) rfl ?_
                refine T_val (Ev_move rfl) rfl ?_
                refine T_val (Ev_len rfl 3 Try.underlying27) rfl ?_
                refine T_val (Ev_sub_w64 rfl rfl) rfl ?_
                obtain ⟨x287, h288, hx289⟩ := bnd_some hx285
                refine T_idxR (k := 2) rfl (by decide) (fun _ => rfl) h288 (fun b290 j292 hA293 hj294 hl295 hm297 hp296 => ?_)
                refine T_val (Ev_index rfl rfl hA293 (j := j292) hj294 hl295 slc27) rfl ?_
                refine T_val (Ev_loadP0 rfl hp296 (SubE.cons2 (i := 2) rfl (SubE.nil)) rfl one3) rfl ?_
                obtain ⟨h298, hx299⟩ := gd_some hx289
                refine T_val (Ev_quo_w64 rfl rfl h298) rfl ?_
                refine T_val (Ev_assign rfl) rfl ?_
                refine T_nil ?_
                refine T_next ?_
                refine T_seq ?_
                refine T_reg ?_
                refine T_val (Ev_move rfl) rfl ?_
                refine T_val (Ev_geq rfl rfl) rfl ?_
                refine T_nil ?_
                refine T_next ?_
                refine T_caseP (s := 123) rfl (fun h300 => ?_) (fun h300 => ?_)
                · have hx301 := ite_t h300 hx299
                  refine T_condT rfl ?_
                  refine T_reg ?_
                  refine T_val (Ev_assign rfl) rfl ?_
                  refine T_nil ?_
                  exact T_metP 65535 () hx301 trivial (by exact .cons rfl (.cons rfl (.cons rfl (.cons rfl (.cons rfl (.cons rfl (.cons rfl (.nil)))))))) (by exact .pick 0 rfl (.pick 0 rfl (.pick 0 rfl (.pick 0 rfl (.pick 0 rfl (.refl))))))
                · have hx302 := ite_f h300 hx299
                  refine T_condF rfl ?_
                  refine T_skip ?_
                  exact T_metP (w64 (Int.tdiv s44 x287)) () hx302 trivial (by exact .cons rfl (.cons rfl (.cons rfl (.cons rfl (.cons rfl (.cons rfl (.cons rfl (.nil)))))))) (by exact .pick 0 rfl (.pick 0 rfl (.pick 0 rfl (.pick 0 rfl (.pick 0 rfl (.refl))))))
              · skip
                refine T_seq ?_
                refine T_reg ?_
                refine T_val (Ev_move rfl) rfl ?_
                refine T_val (Ev_len rfl 3 Try.underlying27) rfl ?_
                refine T_val (Ev_move rfl) rfl ?_
                refine T_val (Ev_len rfl 3 Try.underlying27) rfl ?_
                refine T_val (Ev_gtr rfl rfl) rfl ?_
                refine T_nil ?_
                refine T_next ?_
                refine T_caseP (s := 104) rfl (fun h271 => ?_) (fun h271 => ?_)
                · have hx272 := ite_t h271 hx262
                  refine T_condT rfl ?_
                  refine T_reg ?_
                  refine T_val (Ev_move rfl) rfl ?_
                  refine T_val (Ev_mul_w64 rfl rfl) rfl ?_
                  refine T_val (Ev_move rfl) rfl ?_
                  refine T_val (Ev_move rfl) rfl ?_
                  refine T_val (Ev_len rfl 3 Try.underlying27) rfl ?_
                  refine T_val (Ev_sub_w64 rfl rfl) rfl ?_
                  obtain ⟨x273, h274, hx275⟩ := bnd_some hx272
                  refine T_idxR (k := 0) rfl (by decide) (fun _ => rfl) h274 (fun b276 j278 hA279 hj280 hl281 hm283 hp282 => ?_)
                  refine T_val (Ev_index rfl rfl hA279 (j := j278) hj280 hl281 slc27) rfl ?_
                  refine T_val (Ev_loadP0 rfl hp282 (SubE.cons2 (i := 0) rfl (SubE.nil)) rfl one3) rfl ?_
                  refine T_val (Ev_add_w64 rfl rfl) rfl ?_
                  refine T_val (Ev_assign rfl) rfl ?_
                  refine T_nil ?_
                  exact T_metP (w64 ((w64 (x260 * 65536)) + x273)) () hx275 trivial (by exact .cons rfl (.cons rfl (.cons rfl (.cons rfl (.cons rfl (.cons rfl (.cons rfl (.nil)))))))) (by exact .pick 0 rfl (.pick 1 rfl (.pick 1 rfl (.pick 1 rfl (.pick 1 rfl (.drop 0 rfl (.refl)))))))
                · have hx284 := ite_f h271 hx262
                  refine T_condF rfl ?_
                  refine T_skip ?_
                  exact T_metP x260 () hx284 trivial (by exact .cons rfl (.cons rfl (.cons rfl (.cons rfl (.cons rfl (.cons rfl (.cons rfl (.nil)))))))) (by exact .pick 0 rfl (.pick 1 rfl (.pick 1 rfl (.pick 1 rfl (.pick 1 rfl (.drop 0 rfl (.refl)))))))
            · have hx303 := ite_f h258 hx256
              refine T_condF rfl ?_
              refine T_skip ?_
              exact T_metP 0 () hx303 trivial (by exact .cons rfl (.cons rfl (.cons rfl (.cons rfl (.cons rfl (.cons rfl (.cons rfl (.nil)))))))) (by exact .pick 0 rfl (.pick 1 rfl (.pick 1 rfl (.pick 1 rfl (.pick 1 rfl (.drop 0 rfl (.refl)))))))
        · have hx233 := ite_f h231 hx230
          refine T_condF rfl ?_
          refine T_exit ?_
          refine T_outX ?_
          obtain rfl := exit_eq ht230 hx233
          refine T_outX ?_
          refine T_here ?_
          exact T_metP (s230.1, s230.2.1) (y230.1, y230.2.1, y230.2.2.1, y230.2.2.2) ho230 trivial (by exact .cons rfl (.cons rfl (.cons rfl (.nil)))) (by exact .pick 0 rfl (.pick 0 rfl (.pick 2 rfl (.drop 0 rfl (.drop 0 rfl (.refl))))))
set_option maxRecDepth 100000 in
theorem lidarref01_gcd_ok (p0 : List Int) (p1 : List Int) {K : List Ent} {A0_0 : Option Addr} {c0_0 : Nat} {A0_1 : Option Addr} {c0_1 : Nat} (ha0 : Has K A0_0 (p0).length c0_0 1 e_i64 (p0)) (ha1 : Has K A0_1 (p1).length c0_1 1 e_i64 (p1)) {r : List Int} (hx : lidarref01_gcd p0 p1 = some r) (w : World) (hK : ∀ e ∈ K, Ent.ok w e) : CtL Try.prog 126 [.slice (A0_0) ((p0).length) (c0_0), .slice (A0_1) ((p1).length) (c0_1)] w fun v Ln => ∃ (A0 : Option Addr) (c0 : Nat) (e0 : Ent), v = .slice (A0) ((r).length) (c0) ∧ Ln = [e0] ∧ Has (K ++ [e0]) A0 (r).length c0 1 e_i64 (r) ∧ True := by
  have ha0' := Has.up0 ha0
  have ha1' := Has.up0 ha1
  refine CtL.mk 19 Try.func126 rfl Try.ntmps126 (by kernel_rfl) rfl ?_
  show T 19 _ [(0, .slice (A0_0) ((p0).length) (c0_0)), (1, .slice (A0_1) ((p1).length) (c0_1))] _
  unfold lidarref01_gcd at hx
  refine T_seq ?_
  refine T_reg ?_
  refine T_val (Ev_assign rfl) rfl ?_
  refine T_nil ?_
  refine T_next ?_
  obtain ⟨j2, hj2, hx⟩ := jn_some hx
  refine T_cutP (τ := List Int) (γ := (Option Addr) × Nat × Ent) (J := j2) (out := r) (fun s2 y2 => [(0, .slice (y2.1) ((s2).length) (y2.2.1))]) (fun s2 y2 => [y2.2.2] ++ [.old w]) (fun s2 y2 => y2.2.2.low = 0 ∧ Has (K ++ [y2.2.2]) (y2.1) ((s2).length) (y2.2.1) 1 e_i64 (s2) ∧ True) ?_ ?_
  · intro s2 y2 hx37 hG38
    obtain ⟨lo39, hs40, -⟩ := hG38
    subst hj2
    refine T_seq ?_
    refine T_reg ?_
    refine T_val (Ev_move rfl) rfl ?_
    refine T_val (Ev_assign rfl) rfl ?_
    refine T_nil ?_
    refine T_next ?_
    refine T_retc ?_
    obtain rfl := Option.some.inj hx37
    exact T_retP (rs := [.tmp 4]) Try.results126 (.tmp rfl (.nil)) (Ln := [y2.2.2]) ⟨y2.1, y2.2.1, y2.2.2, rfl, rfl, Has.len' hs40, trivial⟩ (loCons lo39 (loNil)) (by exact .pick 0 rfl (.refl))
  · skip
    refine T_block ?_
    obtain ⟨t19, hl19, ho19⟩ := bnd_some hx
    refine T_none 0 1 ?_
    refine T_loopP (σ := (List Int) × (List Int)) (γ := (Option Addr) × Nat × Ent × (Option Addr) × Nat) hl19 (fun s19 y19 => [(0, .slice (y19.1) ((s19.1).length) (y19.2.1)), (1, .slice (y19.2.2.2.1) ((s19.2).length) (y19.2.2.2.2))]) (fun s19 y19 => [y19.2.2.1] ++ [.old w]) (fun s19 y19 => y19.2.2.1.low = 0 ∧ Has (K ++ [y19.2.2.1]) (y19.1) ((s19.1).length) (y19.2.1) 1 e_i64 (s19.1) ∧ Has (K ++ [y19.2.2.1]) (y19.2.2.2.1) ((s19.2).length) (y19.2.2.2.2) 1 e_i64 (s19.2) ∧ True) (A0_0, c0_0, .r none 0 0 0 1 [], A0_1, c0_1) ((by exact ⟨rfl, Has.len' ((Has.up (L := (K ++ [.r none 0 0 0 1 []])) ha0' (SubE.app2 SubE.nil))), Has.len' ((Has.up (L := (K ++ [.r none 0 0 0 1 []])) ha1' (SubE.app2 SubE.nil))), trivial⟩)) (by exact .cons rfl (.cons rfl (.nil))) (by exact .pick 0 rfl (.refl)) ?_
    intro s19 y19 hG19 x19 hx19 ht19
    unfold lidarref01_gcd_l1 at hx19
    obtain ⟨lo20, hs21, hs22, -⟩ := hG19
    refine T_seq ?_
    refine T_seq ?_
    refine T_reg ?_
    refine T_val (Ev_move rfl) rfl ?_
    refine T_val (Ev_len rfl 3 Try.underlying27) rfl ?_
    refine T_val (Ev_gtr rfl rfl) rfl ?_
    refine T_nil ?_
    refine T_next ?_
    refine T_caseP (s := 9) rfl (fun h23 => ?_) (fun h23 => ?_)
    · have hx24 := ite_t h23 hx19
      refine T_condT rfl ?_
      refine T_skip ?_
      refine T_next ?_
      refine T_block ?_
      refine T_seq ?_
      refine T_reg ?_
      refine T_val (Ev_move rfl) rfl ?_
      refine T_val (Ev_move rfl) rfl ?_
      obtain ⟨r26, h27, hx28⟩ := bnd_some hx24
      refine T_x (Wx_callL rfl (fun w1 hw1 => lidarref01_divide_ok s19.1 s19.2 (Has.len' hs21) (Has.len' hs22) h27 w1 (okApp (K := K) (K2 := [y19.2.2.1]) hK (by exact (SubE.cons2 (i := 1) rfl (SubE.nil))) (by exact (SubE.cons2 (i := 0) rfl (SubE.nil))) hw1)) rfl ?_)
      rintro _ _ hlo ⟨A29, c30, A31, c32, e33, rfl, rfl, hs34, -⟩
      have lo35 := hlo e33 (by simp)
      refine T_app2 ?_
      have hs36 : Has (K ++ [y19.2.2.1, e33]) _ _ _ _ _ _ := Has.assoc hs34
      refine T_val (Ev_move rfl) rfl ?_
      refine T_val (Ev_extract rfl rfl) rfl ?_
      refine T_val (Ev_extract rfl rfl) rfl ?_
      refine T_val (Ev_assign rfl) rfl ?_
      refine T_val (Ev_assign rfl) rfl ?_
      refine T_nil ?_
      refine T_next ?_
      refine T_reg ?_
      refine T_val (Ev_move rfl) rfl ?_
      refine T_val (Ev_move rfl) rfl ?_
      refine T_val (Ev_assign rfl) rfl ?_
      refine T_val (Ev_assign rfl) rfl ?_
      refine T_nil ?_
      refine T_inN ?_
      refine T_bundle (es := [y19.2.2.1, e33]) (by exact .pick 2 rfl (.pick 1 rfl (.refl))) (loCons lo20 (loCons lo35 (loNil))) ?_
      exact T_roundP (s19.2, r26.2) (y19.2.2.2.1, y19.2.2.2.2, bun [y19.2.2.1, e33], A31, c32) hx28 ((by exact ⟨rfl, Has.len' ((Has.up (L := (K ++ [(bun [y19.2.2.1, e33])])) hs22 (SubE.app2 (SubE.consB (i := 0) (j := 0) rfl rfl (SubE.nil))))), Has.len' ((Has.up (L := (K ++ [(bun [y19.2.2.1, e33])])) hs36 (SubE.app2 (SubE.consB (i := 0) (j := 0) rfl rfl (SubE.consB (i := 0) (j := 1) rfl rfl (SubE.nil)))))), trivial⟩)) (by exact .cons rfl (.cons rfl (.nil))) (by exact .pick 0 rfl (.drop 0 rfl (.refl)))
    · have hx25 := ite_f h23 hx19
      refine T_condF rfl ?_
      refine T_exit ?_
      refine T_outX ?_
      obtain rfl := exit_eq ht19 hx25
      refine T_outX ?_
      refine T_here ?_
      exact T_metP s19.1 (y19.1, y19.2.1, y19.2.2.1) ho19 ((by exact ⟨lo20, Has.len' hs21, trivial⟩)) (by exact .cons rfl (.nil)) (by exact .pick 0 rfl (.refl))
set_option maxRecDepth 100000 in
theorem lidarref01_Frac_ok (p0 : S_lidarref01_Int) (p1 : S_lidarref01_Int) {K : List Ent} {A0_0 : Option Addr} {c0_0 : Nat} {A0_1 : Option Addr} {c0_1 : Nat} (ha0 : Has K A0_0 (p0.L).length c0_0 1 e_i64 (p0.L)) (ha1 : Has K A0_1 (p1.L).length c0_1 1 e_i64 (p1.L)) {r : S_lidarref01_Q} (hx : lidarref01_Frac p0 p1 = some r) (w : World) (hK : ∀ e ∈ K, Ent.ok w e) : CtL Try.prog 95 [.agg #[.bool (p0.Neg), .slice (A0_0) ((p0.L).length) (c0_0)], .agg #[.bool (p1.Neg), .slice (A0_1) ((p1.L).length) (c0_1)]] w fun v Ln => ∃ (A0 : Option Addr) (c0 : Nat) (A2 : Option Addr) (c2 : Nat), v = .agg #[.bool (r.N.Neg), .slice (A0) ((r.N.L).length) (c0), .slice (A2) ((r.D).length) (c2)] ∧ Ln = [.r A0 (r.N.L).length c0 3 1 ((r.N.L).flatMap e_i64), .r A2 (r.D).length c2 3 1 ((r.D).flatMap e_i64)] ∧ True := by
  have ha0' := Has.up0 ha0
  have ha1' := Has.up0 ha1
  refine CtL.mk 40 Try.func95 rfl Try.ntmps95 (by kernel_rfl) rfl ?_
  show T 40 _ [(0, .agg #[.bool (p0.Neg), .slice (A0_0) ((p0.L).length) (c0_0)]), (1, .agg #[.bool (p1.Neg), .slice (A0_1) ((p1.L).length) (c0_1)])] _
  unfold lidarref01_Frac at hx
  refine T_seq ?_
  refine T_reg ?_
  refine T_x (Wx_box rfl rfl rfl (fun g1 => ?_))
  refine T_x (Wx_box rfl rfl rfl (fun g2 => ?_))
  refine T_x (Wx_alloc zer45 rfl (fun g3 => ?_))
  refine T_nil ?_
  refine T_next ?_
  refine T_seq ?_
  refine T_reg ?_
  refine T_val (Ev_field rfl fld43_1 rfl) rfl ?_
  refine T_val (Ev_load1 rfl (i := 2) rfl rfl one27) rfl ?_
  refine T_val (Ev_field rfl fld43_1 rfl) rfl ?_
  refine T_val (Ev_load1 rfl (i := 1) rfl rfl one27) rfl ?_
  obtain ⟨r4, h5, hx6⟩ := bnd_some hx
  refine T_x (Wx_callL rfl (fun w1 hw1 => lidarref01_gcd_ok p0.L p1.L (Has.len' ha0') (Has.len' ha1') h5 w1 (okApp (K := K) (K2 := []) hK (by exact (SubE.cons2 (i := 3) rfl (SubE.nil))) (by exact (SubE.nil)) hw1)) rfl ?_)
  rintro _ _ hlo ⟨A7, c8, e9, rfl, rfl, hs10, -⟩
  have lo11 := hlo e9 (by simp)
  refine T_app1 ?_
  have hs12 : Has (K ++ [e9]) _ _ _ _ _ _ := Has.assoc hs10
  refine T_val (Ev_assign rfl) rfl ?_
  refine T_nil ?_
  refine T_next ?_
  refine T_seq ?_
  refine T_reg ?_
  refine T_val (Ev_field rfl fld43_1 rfl) rfl ?_
  refine T_val (Ev_load1 rfl (i := 3) rfl rfl one27) rfl ?_
  refine T_val (Ev_move rfl) rfl ?_
  obtain ⟨r13, h14, hx15⟩ := bnd_some hx6
  refine T_x (Wx_callL rfl (fun w1 hw1 => lidarref01_divide_ok p0.L r4 (Has.len' (Has.up (L := (K ++ [e9])) ha0' (SubE.app2 SubE.nil))) (Has.len' hs12) h14 w1 (okApp (K := K) (K2 := [e9]) hK (by exact (SubE.cons2 (i := 4) rfl (SubE.nil))) (by exact (SubE.cons2 (i := 0) rfl (SubE.nil))) hw1)) rfl ?_)
  rintro _ _ hlo ⟨A16, c17, A18, c19, e20, rfl, rfl, hs21, -⟩
  have lo22 := hlo e20 (by simp)
  refine T_app2 ?_
  have hs23 : Has (K ++ [e9, e20]) _ _ _ _ _ _ := Has.assoc hs21
  refine T_val (Ev_move rfl) rfl ?_
  refine T_val (Ev_extract rfl rfl) rfl ?_
  refine T_val (Ev_extract rfl rfl) rfl ?_
  refine T_val (Ev_assign rfl) rfl ?_
  refine T_val (Ev_assign rfl) rfl ?_
  refine T_nil ?_
  refine T_next ?_
  refine T_seq ?_
  refine T_reg ?_
  refine T_val (Ev_field rfl fld43_1 rfl) rfl ?_
  refine T_val (Ev_load1 rfl (i := 4) rfl rfl one27) rfl ?_
  refine T_val (Ev_move rfl) rfl ?_
  obtain ⟨r24, h25, hx26⟩ := bnd_some hx15
  refine T_x (Wx_callL rfl (fun w1 hw1 => lidarref01_divide_ok p1.L r4 (Has.len' (Has.up (L := (K ++ [e9])) ha1' (SubE.app2 SubE.nil))) (Has.len' hs12) h25 w1 (okApp (K := K) (K2 := [e9]) hK (by exact (SubE.cons2 (i := 6) rfl (SubE.nil))) (by exact (SubE.cons2 (i := 2) rfl (SubE.nil))) hw1)) rfl ?_)
  rintro _ _ hlo ⟨A27, c28, A29, c30, e31, rfl, rfl, hs32, -⟩
  have lo33 := hlo e31 (by simp)
  refine T_app2 ?_
  have hs34 : Has (K ++ [e9, e31]) _ _ _ _ _ _ := Has.assoc hs32
  refine T_val (Ev_move rfl) rfl ?_
  refine T_val (Ev_extract rfl rfl) rfl ?_
  refine T_val (Ev_extract rfl rfl) rfl ?_
  refine T_val (Ev_assign rfl) rfl ?_
  refine T_val (Ev_assign rfl) rfl ?_
  refine T_nil ?_
  refine T_next ?_
  obtain ⟨j5, hj5, hx26⟩ := jn_some hx26
  refine T_cutP (τ := Bool) (γ := Unit) (J := j5) (out := r) (fun s5 y5 => [(4, .pointer (some ⟨g3, 0, none⟩))]) (fun s5 y5 => [.r (A27) ((r24.1).length) (c28) 3 1 ((r24.1).flatMap e_i64), .r (A16) ((r13.1).length) (c17) 3 1 ((r13.1).flatMap e_i64), .m g3 45 [.bool (s5), .slice (A16) ((r13.1).length) (c17), .slice (A27) ((r24.1).length) (c28)]] ++ [.old w]) (fun s5 y5 => True) ?_ ?_
  · intro s5 y5 hx38 hG39
    subst hj5
    refine T_retc ?_
    obtain rfl := Option.some.inj hx38
    exact T_retP (rs := [.cell 4 45]) Try.results95 (.cell rfl (i := 2) rfl rfl agg45 (.nil)) (Ln := [.r (A16) ((r13.1).length) (c17) 3 1 ((r13.1).flatMap e_i64), .r (A27) ((r24.1).length) (c28) 3 1 ((r24.1).flatMap e_i64)]) ⟨A16, c17, A27, c28, rfl, rfl, trivial⟩ (loCons rfl (loCons rfl (loNil))) (by exact .pick 1 rfl (.pick 0 rfl (.drop 0 rfl (.refl))))
  · skip
    refine T_reg ?_
    refine T_val (Ev_field rfl fld43_0 rfl) rfl ?_
    refine T_val (Ev_load1 rfl (i := 7) rfl rfl one4) rfl ?_
    refine T_val (Ev_move rfl) rfl ?_
    refine T_caseB (s := 31) rfl (fun h35 => ?_) (fun h35 => ?_)
    · have hx36 := ite_t h35 hx26
      refine T_valG rfl rfl rfl (Ev_move rfl) rfl ?_
      refine T_valG rfl rfl rfl (Ev_len rfl 3 Try.underlying27) rfl ?_
      refine T_valG rfl rfl rfl (Ev_gtr rfl rfl) rfl ?_
      refine T_val (Ev_pickT rfl rfl) rfl ?_
      refine T_val (Ev_move rfl) rfl ?_
      refine T_val (Ev_build rfl (bld43_0b1s _ _ _ _)) rfl ?_
      refine T_val (Ev_move rfl) rfl ?_
      refine T_val (Ev_build rfl (bld45_0abs1s _ _ _ _ _ _ _)) rfl ?_
      refine T_h (Wh_store rfl rfl rfl (.there (.there (.there (.there (.there (.here)))))) (.put (.put (.put (.done)))) rfl (List.cons_ne_nil _ _) agg45.2 ?_)
      refine T_nil ?_
      exact T_metP (decide (0 < ((((r13.1).length : Nat) : Int)))) () hx36 trivial (by exact .cons rfl (.nil)) (by exact .pick 0 rfl (.pick 1 rfl (.pick 3 rfl (.drop 0 rfl (.drop 0 rfl (.drop 0 rfl (.drop 0 rfl (.drop 0 rfl (.refl)))))))))
    · have hx37 := ite_bf h35 hx26
      refine T_skipG rfl rfl rfl rfl rfl ?_
      refine T_skipG rfl rfl rfl rfl rfl ?_
      refine T_skipG rfl rfl rfl rfl rfl ?_
      refine T_val (Ev_pickF rfl rfl) rfl ?_
      refine T_val (Ev_move rfl) rfl ?_
      refine T_val (Ev_build rfl (bld43_0b1s _ _ _ _)) rfl ?_
      refine T_val (Ev_move rfl) rfl ?_
      refine T_val (Ev_build rfl (bld45_0abs1s _ _ _ _ _ _ _)) rfl ?_
      refine T_h (Wh_store rfl rfl rfl (.there (.there (.there (.there (.there (.here)))))) (.put (.put (.put (.done)))) rfl (List.cons_ne_nil _ _) agg45.2 ?_)
      refine T_nil ?_
      exact T_metP false () hx37 trivial (by exact .cons rfl (.nil)) (by exact .pick 0 rfl (.pick 1 rfl (.pick 3 rfl (.drop 0 rfl (.drop 0 rfl (.drop 0 rfl (.drop 0 rfl (.drop 0 rfl (.refl)))))))))
set_option maxRecDepth 100000 in
theorem lidarref01_Int_Add_ok (p0 : S_lidarref01_Int) (p1 : S_lidarref01_Int) {K : List Ent} {A0_0 : Option Addr} {c0_0 : Nat} {A0_1 : Option Addr} {c0_1 : Nat} (ha0 : Has K A0_0 (p0.L).length c0_0 1 e_i64 (p0.L)) (ha1 : Has K A0_1 (p1.L).length c0_1 1 e_i64 (p1.L)) {r : S_lidarref01_Int} (hx : lidarref01_Int_Add p0 p1 = some r) (w : World) (hK : ∀ e ∈ K, Ent.ok w e) : CtL Try.prog 97 [.agg #[.bool (p0.Neg), .slice (A0_0) ((p0.L).length) (c0_0)], .agg #[.bool (p1.Neg), .slice (A0_1) ((p1.L).length) (c0_1)]] w fun v Ln => ∃ (A0 : Option Addr) (c0 : Nat), v = .agg #[.bool (r.Neg), .slice (A0) ((r.L).length) (c0)] ∧ Ln = [.r A0 (r.L).length c0 3 1 ((r.L).flatMap e_i64)] ∧ True := by
  have ha0' := Has.up0 ha0
  have ha1' := Has.up0 ha1
  refine CtL.mk 45 Try.func97 rfl Try.ntmps97 (by kernel_rfl) rfl ?_
  show T 45 _ [(0, .agg #[.bool (p0.Neg), .slice (A0_0) ((p0.L).length) (c0_0)]), (1, .agg #[.bool (p1.Neg), .slice (A0_1) ((p1.L).length) (c0_1)])] _
  unfold lidarref01_Int_Add at hx
  refine T_seq ?_
  refine T_reg ?_
  refine T_x (Wx_box rfl rfl rfl (fun g1 => ?_))
  refine T_x (Wx_box rfl rfl rfl (fun g2 => ?_))
  refine T_x (Wx_alloc zer43 rfl (fun g3 => ?_))
  refine T_nil ?_
  refine T_next ?_
  refine T_seq ?_
  refine T_seq ?_
  refine T_reg ?_
  refine T_val (Ev_field rfl fld43_0 rfl) rfl ?_
  refine T_val (Ev_load1 rfl (i := 2) rfl rfl one4) rfl ?_
  refine T_val (Ev_field rfl fld43_0 rfl) rfl ?_
  refine T_val (Ev_load1 rfl (i := 1) rfl rfl one4) rfl ?_
  refine T_val (Ev_eqlB rfl rfl (by kernel_rfl)) rfl ?_
  refine T_nil ?_
  refine T_next ?_
  refine T_caseB (s := 10) rfl (fun h4 => ?_) (fun h4 => ?_)
  · have hx5 := ite_t h4 hx
    refine T_condT rfl ?_
    refine T_seq ?_
    refine T_draw [0, 1, 0, 1, 0, 1, 2, 0, 3] [[], [0], [], [2], [], [4], [2, 3, 4, 5], [0, 1, 2, 3, 4, 5, 6], [0, 1, 2, 3, 4, 5, 6, 7]] (.q 0 (.q 1 (.q 2 (.q 3 (.q 4 (.q 5 (.e 6 (.q 7 (.e 8 (.done) (.stop))) (.stop)))))))) mixed (by kernel_rfl) (by kernel_rfl) ?_
    refine P_p rfl rfl (Ev_field rfl fld43_0 rfl) rfl ?_
    refine P_q rfl rfl (Ev_load1 rfl (i := 2) rfl rfl one4) rfl ?_
    refine P_p rfl rfl (Ev_field rfl fld43_1 rfl) rfl ?_
    refine P_q rfl rfl (Ev_load1 rfl (i := 2) rfl rfl one27) rfl ?_
    refine P_p rfl rfl (Ev_field rfl fld43_1 rfl) rfl ?_
    refine P_q rfl rfl (Ev_load1 rfl (i := 1) rfl rfl one27) rfl ?_
    obtain ⟨r6, h7, hx8⟩ := bnd_some hx5
    refine P_x rfl (Wx_callL rfl (fun w1 hw1 => lidarref01_plus_ok p0.L p1.L (Has.len' ha0') (Has.len' ha1') h7 w1 (okApp (K := K) (K2 := []) hK (by exact (SubE.cons2 (i := 3) rfl (SubE.nil))) (by exact (SubE.nil)) hw1)) rfl ?_) ?_
    rotate_left; exact P_stop
    rintro _ _ hlo ⟨A9, c10, rfl, rfl, -⟩
    refine T_app1 ?_
    refine P_p rfl rfl (Ev_build rfl (bld43_0b1s _ _ _ _)) rfl ?_
    refine P_h rfl rfl (Wh_store rfl rfl rfl (.there (.here)) (.put (.put (.done))) rfl (List.cons_ne_nil _ _) agg43.2 ?_) ?_
    rotate_left; exact P_stop
    refine P_done ?_
    refine T_next ?_
    refine T_retc ?_
    refine T_outR ?_
    obtain rfl := Option.some.inj hx8
    exact T_retP (rs := [.cell 4 43]) Try.results97 (.cell rfl (i := 1) rfl rfl agg43 (.nil)) (Ln := [.r (A9) ((r6).length) (c10) 3 1 ((r6).flatMap e_i64)]) ⟨A9, c10, rfl, rfl, trivial⟩ (loCons rfl (loNil)) (by exact .pick 0 rfl (.drop 0 rfl (.drop 0 rfl (.drop 0 rfl (.refl)))))
  · have hx11 := ite_bf h4 hx
    refine T_condF rfl ?_
    refine T_skip ?_
    refine T_next ?_
    refine T_seq ?_
    refine T_reg ?_
    refine T_val (Ev_field rfl fld43_1 rfl) rfl ?_
    refine T_val (Ev_load1 rfl (i := 2) rfl rfl one27) rfl ?_
    refine T_val (Ev_field rfl fld43_1 rfl) rfl ?_
    refine T_val (Ev_load1 rfl (i := 1) rfl rfl one27) rfl ?_
    obtain ⟨r12, h13, hx14⟩ := bnd_some hx11
    refine T_x (Wx_callL rfl (fun w1 hw1 => lidarref01_compare_ok p0.L p1.L (Has.len' ha0') (Has.len' ha1') h13 w1 (okApp (K := K) (K2 := []) hK (by exact (SubE.cons2 (i := 3) rfl (SubE.nil))) (by exact (SubE.nil)) hw1)) rfl ?_)
    rintro _ _ hlo ⟨rfl, rfl, -⟩
    refine T_app0 ?_
    refine T_val (Ev_assign rfl) rfl ?_
    refine T_nil ?_
    refine T_next ?_
    refine T_seq ?_
    refine T_seq ?_
    refine T_reg ?_
    refine T_val (Ev_move rfl) rfl ?_
    refine T_val (Ev_eql rfl rfl) rfl ?_
    refine T_nil ?_
    refine T_next ?_
    refine T_caseP (s := 25) rfl (fun h15 => ?_) (fun h15 => ?_)
    · have hx16 := ite_t h15 hx14
      refine T_condT rfl ?_
      refine T_seq ?_
      refine T_reg ?_
      refine T_val (Ev_build rfl (bld43_)) rfl ?_
      refine T_h (Wh_store rfl rfl rfl (.here) (.put (.put (.done))) rfl (List.cons_ne_nil _ _) agg43.2 ?_)
      refine T_nil ?_
      refine T_next ?_
      refine T_retc ?_
      refine T_outR ?_
      refine T_none 3 1 ?_
      obtain rfl := Option.some.inj hx16
      exact T_retP (rs := [.cell 4 43]) Try.results97 (.cell rfl (i := 1) rfl rfl agg43 (.nil)) (Ln := [.r (none) (0) (0) 3 1 ((([] : List Int)).flatMap e_i64)]) ⟨none, 0, rfl, rfl, trivial⟩ (loCons rfl (loNil)) (by exact .pick 0 rfl (.drop 0 rfl (.drop 0 rfl (.drop 0 rfl (.refl)))))
    · have hx17 := ite_f h15 hx14
      refine T_condF rfl ?_
      refine T_skip ?_
      refine T_next ?_
      refine T_seq ?_
      refine T_seq ?_
      refine T_reg ?_
      refine T_val (Ev_move rfl) rfl ?_
      refine T_val (Ev_gtr rfl rfl) rfl ?_
      refine T_nil ?_
      refine T_next ?_
      refine T_caseP (s := 28) rfl (fun h18 => ?_) (fun h18 => ?_)
      · have hx19 := ite_t h18 hx17
        refine T_condT rfl ?_
        refine T_seq ?_
        refine T_draw [0, 1, 0, 1, 0, 1, 2, 0, 3] [[], [0], [], [2], [], [4], [2, 3, 4, 5], [0, 1, 2, 3, 4, 5, 6], [0, 1, 2, 3, 4, 5, 6, 7]] (.q 0 (.q 1 (.q 2 (.q 3 (.q 4 (.q 5 (.e 6 (.q 7 (.e 8 (.done) (.stop))) (.stop)))))))) mixed (by kernel_rfl) (by kernel_rfl) ?_
        refine P_p rfl rfl (Ev_field rfl fld43_0 rfl) rfl ?_
        refine P_q rfl rfl (Ev_load1 rfl (i := 2) rfl rfl one4) rfl ?_
        refine P_p rfl rfl (Ev_field rfl fld43_1 rfl) rfl ?_
        refine P_q rfl rfl (Ev_load1 rfl (i := 2) rfl rfl one27) rfl ?_
        refine P_p rfl rfl (Ev_field rfl fld43_1 rfl) rfl ?_
        refine P_q rfl rfl (Ev_load1 rfl (i := 1) rfl rfl one27) rfl ?_
        obtain ⟨r20, h21, hx22⟩ := bnd_some hx19
        refine P_x rfl (Wx_callL rfl (fun w1 hw1 => lidarref01_less_ok p0.L p1.L (Has.len' ha0') (Has.len' ha1') h21 w1 (okApp (K := K) (K2 := []) hK (by exact (SubE.cons2 (i := 3) rfl (SubE.nil))) (by exact (SubE.nil)) hw1)) rfl ?_) ?_
        rotate_left; exact P_stop
        rintro _ _ hlo ⟨A23, c24, rfl, rfl, -⟩
        refine T_app1 ?_
        refine P_p rfl rfl (Ev_build rfl (bld43_0b1s _ _ _ _)) rfl ?_
        refine P_h rfl rfl (Wh_store rfl rfl rfl (.there (.here)) (.put (.put (.done))) rfl (List.cons_ne_nil _ _) agg43.2 ?_) ?_
        rotate_left; exact P_stop
        refine P_done ?_
        refine T_next ?_
        refine T_retc ?_
        refine T_outR ?_
        obtain rfl := Option.some.inj hx22
        exact T_retP (rs := [.cell 4 43]) Try.results97 (.cell rfl (i := 1) rfl rfl agg43 (.nil)) (Ln := [.r (A23) ((r20).length) (c24) 3 1 ((r20).flatMap e_i64)]) ⟨A23, c24, rfl, rfl, trivial⟩ (loCons rfl (loNil)) (by exact .pick 0 rfl (.drop 0 rfl (.drop 0 rfl (.drop 0 rfl (.refl)))))
      · have hx25 := ite_f h18 hx17
        refine T_condF rfl ?_
        refine T_skip ?_
        refine T_next ?_
        refine T_seq ?_
        refine T_draw [0, 1, 0, 1, 0, 1, 2, 0, 3] [[], [0], [], [2], [], [4], [2, 3, 4, 5], [0, 1, 2, 3, 4, 5, 6], [0, 1, 2, 3, 4, 5, 6, 7]] (.q 0 (.q 1 (.q 2 (.q 3 (.q 4 (.q 5 (.e 6 (.q 7 (.e 8 (.done) (.stop))) (.stop)))))))) mixed (by kernel_rfl) (by kernel_rfl) ?_
        refine P_p rfl rfl (Ev_field rfl fld43_0 rfl) rfl ?_
        refine P_q rfl rfl (Ev_load1 rfl (i := 1) rfl rfl one4) rfl ?_
        refine P_p rfl rfl (Ev_field rfl fld43_1 rfl) rfl ?_
        refine P_q rfl rfl (Ev_load1 rfl (i := 1) rfl rfl one27) rfl ?_
        refine P_p rfl rfl (Ev_field rfl fld43_1 rfl) rfl ?_
        refine P_q rfl rfl (Ev_load1 rfl (i := 2) rfl rfl one27) rfl ?_
        obtain ⟨r26, h27, hx28⟩ := bnd_some hx25
        refine P_x rfl (Wx_callL rfl (fun w1 hw1 => lidarref01_less_ok p1.L p0.L (Has.len' ha1') (Has.len' ha0') h27 w1 (okApp (K := K) (K2 := []) hK (by exact (SubE.cons2 (i := 3) rfl (SubE.nil))) (by exact (SubE.nil)) hw1)) rfl ?_) ?_
        rotate_left; exact P_stop
        rintro _ _ hlo ⟨A29, c30, rfl, rfl, -⟩
        refine T_app1 ?_
        refine P_p rfl rfl (Ev_build rfl (bld43_0b1s _ _ _ _)) rfl ?_
        refine P_h rfl rfl (Wh_store rfl rfl rfl (.there (.here)) (.put (.put (.done))) rfl (List.cons_ne_nil _ _) agg43.2 ?_) ?_
        rotate_left; exact P_stop
        refine P_done ?_
        refine T_next ?_
        refine T_retc ?_
        obtain rfl := Option.some.inj hx28
        exact T_retP (rs := [.cell 4 43]) Try.results97 (.cell rfl (i := 1) rfl rfl agg43 (.nil)) (Ln := [.r (A29) ((r26).length) (c30) 3 1 ((r26).flatMap e_i64)]) ⟨A29, c30, rfl, rfl, trivial⟩ (loCons rfl (loNil)) (by exact .pick 0 rfl (.drop 0 rfl (.drop 0 rfl (.drop 0 rfl (.refl)))))
set_option maxRecDepth 100000 in
theorem lidarref01_Int_Mul_ok (p0 : S_lidarref01_Int) (p1 : S_lidarref01_Int) {K : List Ent} {A0_0 : Option Addr} {c0_0 : Nat} {A0_1 : Option Addr} {c0_1 : Nat} (ha0 : Has K A0_0 (p0.L).length c0_0 1 e_i64 (p0.L)) (ha1 : Has K A0_1 (p1.L).length c0_1 1 e_i64 (p1.L)) {r : S_lidarref01_Int} (hx : lidarref01_Int_Mul p0 p1 = some r) (w : World) (hK : ∀ e ∈ K, Ent.ok w e) : CtL Try.prog 96 [.agg #[.bool (p0.Neg), .slice (A0_0) ((p0.L).length) (c0_0)], .agg #[.bool (p1.Neg), .slice (A0_1) ((p1.L).length) (c0_1)]] w fun v Ln => ∃ (A0 : Option Addr) (c0 : Nat), v = .agg #[.bool (r.Neg), .slice (A0) ((r.L).length) (c0)] ∧ Ln = [.r A0 (r.L).length c0 3 1 ((r.L).flatMap e_i64)] ∧ True := by
  have ha0' := Has.up0 ha0
  have ha1' := Has.up0 ha1
  refine CtL.mk 23 Try.func96 rfl Try.ntmps96 (by kernel_rfl) rfl ?_
  show T 23 _ [(0, .agg #[.bool (p0.Neg), .slice (A0_0) ((p0.L).length) (c0_0)]), (1, .agg #[.bool (p1.Neg), .slice (A0_1) ((p1.L).length) (c0_1)])] _
  unfold lidarref01_Int_Mul at hx
  refine T_seq ?_
  refine T_reg ?_
  refine T_x (Wx_box rfl rfl rfl (fun g1 => ?_))
  refine T_x (Wx_box rfl rfl rfl (fun g2 => ?_))
  refine T_x (Wx_alloc zer43 rfl (fun g3 => ?_))
  refine T_nil ?_
  refine T_next ?_
  refine T_seq ?_
  refine T_reg ?_
  refine T_val (Ev_field rfl fld43_1 rfl) rfl ?_
  refine T_val (Ev_load1 rfl (i := 2) rfl rfl one27) rfl ?_
  refine T_val (Ev_field rfl fld43_1 rfl) rfl ?_
  refine T_val (Ev_load1 rfl (i := 1) rfl rfl one27) rfl ?_
  obtain ⟨r4, h5, hx6⟩ := bnd_some hx
  refine T_x (Wx_callL rfl (fun w1 hw1 => lidarref01_times_ok p0.L p1.L (Has.len' ha0') (Has.len' ha1') h5 w1 (okApp (K := K) (K2 := []) hK (by exact (SubE.cons2 (i := 3) rfl (SubE.nil))) (by exact (SubE.nil)) hw1)) rfl ?_)
  rintro _ _ hlo ⟨A7, c8, rfl, rfl, -⟩
  refine T_app1 ?_
  refine T_val (Ev_assign rfl) rfl ?_
  refine T_nil ?_
  refine T_next ?_
  obtain ⟨j3, hj3, hx6⟩ := jn_some hx6
  refine T_cutP (τ := Bool) (γ := Unit) (J := j3) (out := r) (fun s3 y3 => [(4, .pointer (some ⟨g3, 0, none⟩))]) (fun s3 y3 => [.r (A7) ((r4).length) (c8) 3 1 ((r4).flatMap e_i64), .m g3 43 [.bool (s3), .slice (A7) ((r4).length) (c8)]] ++ [.old w]) (fun s3 y3 => True) ?_ ?_
  · intro s3 y3 hx12 hG13
    subst hj3
    refine T_retc ?_
    obtain rfl := Option.some.inj hx12
    exact T_retP (rs := [.cell 4 43]) Try.results96 (.cell rfl (i := 1) rfl rfl agg43 (.nil)) (Ln := [.r (A7) ((r4).length) (c8) 3 1 ((r4).flatMap e_i64)]) ⟨A7, c8, rfl, rfl, trivial⟩ (loCons rfl (loNil)) (by exact .pick 0 rfl (.drop 0 rfl (.refl)))
  · skip
    refine T_reg ?_
    refine T_val (Ev_field rfl fld43_0 rfl) rfl ?_
    refine T_val (Ev_load1 rfl (i := 3) rfl rfl one4) rfl ?_
    refine T_val (Ev_field rfl fld43_0 rfl) rfl ?_
    refine T_val (Ev_load1 rfl (i := 2) rfl rfl one4) rfl ?_
    refine T_val (Ev_neqB rfl rfl (by kernel_rfl)) rfl ?_
    refine T_val (Ev_move rfl) rfl ?_
    refine T_caseNB (s := 16) rfl (fun h9 => ?_) (fun h9 => ?_)
    · have hx10 := ite_bf h9 hx6
      refine T_valG rfl rfl rfl (Ev_move rfl) rfl ?_
      refine T_valG rfl rfl rfl (Ev_len rfl 3 Try.underlying27) rfl ?_
      refine T_valG rfl rfl rfl (Ev_gtr rfl rfl) rfl ?_
      refine T_val (Ev_pickT rfl rfl) rfl ?_
      refine T_val (Ev_move rfl) rfl ?_
      refine T_val (Ev_build rfl (bld43_0b1s _ _ _ _)) rfl ?_
      refine T_h (Wh_store rfl rfl rfl (.there (.here)) (.put (.put (.done))) rfl (List.cons_ne_nil _ _) agg43.2 ?_)
      refine T_nil ?_
      exact T_metP (decide (0 < ((((r4).length : Nat) : Int)))) () hx10 trivial (by exact .cons rfl (.nil)) (by exact .pick 0 rfl (.pick 0 rfl (.drop 0 rfl (.drop 0 rfl (.refl)))))
    · have hx11 := ite_t h9 hx6
      refine T_skipG rfl rfl rfl rfl rfl ?_
      refine T_skipG rfl rfl rfl rfl rfl ?_
      refine T_skipG rfl rfl rfl rfl rfl ?_
      refine T_val (Ev_pickF rfl rfl) rfl ?_
      refine T_val (Ev_move rfl) rfl ?_
      refine T_val (Ev_build rfl (bld43_0b1s _ _ _ _)) rfl ?_
      refine T_h (Wh_store rfl rfl rfl (.there (.here)) (.put (.put (.done))) rfl (List.cons_ne_nil _ _) agg43.2 ?_)
      refine T_nil ?_
      exact T_metP false () hx11 trivial (by exact .cons rfl (.nil)) (by exact .pick 0 rfl (.pick 0 rfl (.drop 0 rfl (.drop 0 rfl (.refl)))))
set_option maxRecDepth 100000 in
theorem lidarref01_Whole_ok (p0 : Int)  {r : S_lidarref01_Q} (hx : lidarref01_Whole p0 = some r) (w : World) : CtL Try.prog 56 [.int .i64 (p0)] w fun v Ln => ∃ (A0 : Option Addr) (c0 : Nat) (A2 : Option Addr) (c2 : Nat) (e0 : Ent), v = .agg #[.bool (r.N.Neg), .slice (A0) ((r.N.L).length) (c0), .slice (A2) ((r.D).length) (c2)] ∧ Ln = [.r A2 (r.D).length c2 3 1 ((r.D).flatMap e_i64), e0] ∧ Has ([e0] : List Ent) A0 (r.N.L).length c0 1 e_i64 (r.N.L) ∧ True := by
  refine CtL.mk 7 Try.func56 rfl Try.ntmps56 (by kernel_rfl) rfl ?_
  show T 7 _ [(0, .int .i64 (p0))] _
  unfold lidarref01_Whole at hx
  refine T_seq ?_
  refine T_reg ?_
  refine T_x (Wx_alloc zer45 rfl (fun g1 => ?_))
  refine T_nil ?_
  refine T_next ?_
  refine T_seq ?_
  refine T_reg ?_
  refine T_val (Ev_move rfl) rfl ?_
  obtain ⟨r2, h3, hx4⟩ := bnd_some hx
  refine T_x (Wx_callL rfl (fun w1 hw1 => lidarref01_Small_ok p0  h3 w1) rfl ?_)
  rintro _ _ hlo ⟨A5, c6, e7, rfl, rfl, hs8, -⟩
  have lo9 := hlo e7 (by simp)
  refine T_app1 ?_
  refine T_x (Wx_buildSlice rfl (bls27_1_0i64 _) rfl (fun g10 => ?_))
  refine T_val (Ev_build rfl (bld45_0abs1s _ _ _ _ _ _ _)) rfl ?_
  refine T_h (Wh_store rfl rfl rfl (.there (.there (.here))) (.put (.put (.put (.done)))) rfl (List.cons_ne_nil _ _) agg45.2 ?_)
  refine T_nil ?_
  refine T_next ?_
  refine T_retc ?_
  refine T_mr (enc := e_i64) (sz := 1) ([1]) (.here) rfl rfl (fun _ => rfl) (by show 1 ≤ maxLen; decide) ?_
  have hn11 : 1 = ([1]).length := by simp [setI_len, cpy_len, List.length_append] <;> omega
  refine T_ent (.here) (e' := .r (some ⟨g10, 0, none⟩) (([1]).length) (1) 3 1 (([1]).flatMap e_i64)) (by first | (rw [← hn11]; done) | rfl) ?_
  refine T_ent (.there (.there (.here))) (e' := .m g1 45 [.bool (r2.Neg), .slice (A5) ((r2.L).length) (c6), .slice (some ⟨g10, 0, none⟩) (([1]).length) (1)]) (by first | (rw [show (1) = ([1]).length from (by simp [setI_len, cpy_len, List.length_append] <;> omega)]; done) | rfl) ?_
  obtain rfl := Option.some.inj hx4
  exact T_retP (rs := [.cell 2 45]) Try.results56 (.cell rfl (i := 2) rfl rfl agg45 (.nil)) (Ln := [.r (some ⟨g10, 0, none⟩) (([1]).length) (1) 3 1 (([1]).flatMap e_i64), e7]) ⟨A5, c6, (some ⟨g10, 0, none⟩), 1, e7, rfl, rfl, Has.len' hs8, trivial⟩ (loCons rfl (loCons lo9 (loNil))) (by exact .pick 0 rfl (.pick 0 rfl (.drop 0 rfl (.refl))))
set_option maxRecDepth 100000 in
theorem lidarref01_Q_Add_ok (p0 : S_lidarref01_Q) (p1 : S_lidarref01_Q) {K : List Ent} {A0_0 : Option Addr} {c0_0 : Nat} {A0_1 : Option Addr} {c0_1 : Nat} {A0_2 : Option Addr} {c0_2 : Nat} {A0_3 : Option Addr} {c0_3 : Nat} (ha0 : Has K A0_0 (p0.N.L).length c0_0 1 e_i64 (p0.N.L)) (ha1 : Has K A0_1 (p0.D).length c0_1 1 e_i64 (p0.D)) (ha2 : Has K A0_2 (p1.N.L).length c0_2 1 e_i64 (p1.N.L)) (ha3 : Has K A0_3 (p1.D).length c0_3 1 e_i64 (p1.D)) {r : S_lidarref01_Q} (hx : lidarref01_Q_Add p0 p1 = some r) (w : World) (hK : ∀ e ∈ K, Ent.ok w e) : CtL Try.prog 60 [.agg #[.bool (p0.N.Neg), .slice (A0_0) ((p0.N.L).length) (c0_0), .slice (A0_1) ((p0.D).length) (c0_1)], .agg #[.bool (p1.N.Neg), .slice (A0_2) ((p1.N.L).length) (c0_2), .slice (A0_3) ((p1.D).length) (c0_3)]] w fun v Ln => ∃ (A0 : Option Addr) (c0 : Nat) (A2 : Option Addr) (c2 : Nat), v = .agg #[.bool (r.N.Neg), .slice (A0) ((r.N.L).length) (c0), .slice (A2) ((r.D).length) (c2)] ∧ Ln = [.r A0 (r.N.L).length c0 3 1 ((r.N.L).flatMap e_i64), .r A2 (r.D).length c2 3 1 ((r.D).flatMap e_i64)] ∧ True := by
  have ha0' := Has.up0 ha0
  have ha1' := Has.up0 ha1
  have ha2' := Has.up0 ha2
  have ha3' := Has.up0 ha3
  refine CtL.mk 25 Try.func60 rfl Try.ntmps60 (by kernel_rfl) rfl ?_
  show T 25 _ [(0, .agg #[.bool (p0.N.Neg), .slice (A0_0) ((p0.N.L).length) (c0_0), .slice (A0_1) ((p0.D).length) (c0_1)]), (1, .agg #[.bool (p1.N.Neg), .slice (A0_2) ((p1.N.L).length) (c0_2), .slice (A0_3) ((p1.D).length) (c0_3)])] _
  unfold lidarref01_Q_Add at hx
  refine T_seq ?_
  refine T_reg ?_
  refine T_x (Wx_box rfl rfl rfl (fun g1 => ?_))
  refine T_x (Wx_box rfl rfl rfl (fun g2 => ?_))
  refine T_x (Wx_alloc zer45 rfl (fun g3 => ?_))
  refine T_nil ?_
  refine T_next ?_
  refine T_seq ?_
  refine T_draw [0, 1, 0, 1, 0, 2, 0, 1, 0, 1, 0, 2, 2, 0, 1, 0, 1, 2, 0, 2, 3] [[], [0], [], [2], [2, 3], [0, 1, 2, 3, 4], [], [6], [], [8], [8, 9], [0, 1, 2, 3, 4, 5, 6, 7, 8, 9, 10], [0, 1, 2, 3, 4, 5, 6, 7, 8, 9, 10, 11], [], [13], [], [15], [0, 1, 2, 3, 4, 5, 6, 7, 8, 9, 10, 11, 12, 13, 14, 15, 16], [0, 1, 2, 3, 4, 5, 6, 7, 8, 9, 10, 11, 12, 13, 14, 15, 16, 17], [0, 1, 2, 3, 4, 5, 6, 7, 8, 9, 10, 11, 12, 13, 14, 15, 16, 17, 18], [0, 1, 2, 3, 4, 5, 6, 7, 8, 9, 10, 11, 12, 13, 14, 15, 16, 17, 18, 19]] (.q 0 (.q 1 (.q 2 (.q 3 (.q 4 (.q 6 (.q 7 (.q 8 (.q 9 (.q 10 (.q 13 (.q 14 (.q 15 (.q 16 (.e 5 (.e 11 (.e 12 (.e 17 (.q 18 (.e 19 (.e 20 (.done) (.stop)) (.stop))) (.stop)) (.stop)) (.stop)) (.stop)))))))))))))))) mixed (by kernel_rfl) (by kernel_rfl) ?_
  refine P_p rfl rfl (Ev_field rfl fld45_0 rfl) rfl ?_
  refine P_q rfl rfl (Ev_loadK rfl (i := 2) rfl rfl agg43) rfl ?_
  refine P_p rfl rfl (Ev_field rfl fld45_1 rfl) rfl ?_
  refine P_q rfl rfl (Ev_load1 rfl (i := 1) rfl rfl one27) rfl ?_
  refine P_p rfl rfl (Ev_build rfl (bld43_0b1s _ _ _ _)) rfl ?_
  refine P_p rfl rfl (Ev_field rfl fld45_0 rfl) rfl ?_
  refine P_q rfl rfl (Ev_loadK rfl (i := 1) rfl rfl agg43) rfl ?_
  refine P_p rfl rfl (Ev_field rfl fld45_1 rfl) rfl ?_
  refine P_q rfl rfl (Ev_load1 rfl (i := 2) rfl rfl one27) rfl ?_
  refine P_p rfl rfl (Ev_build rfl (bld43_0b1s _ _ _ _)) rfl ?_
  refine P_p rfl rfl (Ev_field rfl fld45_1 rfl) rfl ?_
  refine P_q rfl rfl (Ev_load1 rfl (i := 2) rfl rfl one27) rfl ?_
  refine P_p rfl rfl (Ev_field rfl fld45_1 rfl) rfl ?_
  refine P_q rfl rfl (Ev_load1 rfl (i := 1) rfl rfl one27) rfl ?_
  obtain ⟨r4, h5, hx6⟩ := bnd_some hx
  refine P_x rfl (Wx_callL rfl (fun w1 hw1 => lidarref01_Int_Mul_ok p0.N (⟨false, p1.D⟩ : S_lidarref01_Int) (Has.len' ha0') (Has.len' ha3') h5 w1 (okApp (K := K) (K2 := []) hK (by exact (SubE.cons2 (i := 3) rfl (SubE.nil))) (by exact (SubE.nil)) hw1)) rfl ?_) ?_
  rotate_left; exact P_stop
  rintro _ _ hlo ⟨A7, c8, rfl, rfl, -⟩
  refine T_app1 ?_
  obtain ⟨r9, h10, hx11⟩ := bnd_some hx6
  refine P_x rfl (Wx_callL rfl (fun w1 hw1 => lidarref01_Int_Mul_ok p1.N (⟨false, p0.D⟩ : S_lidarref01_Int) (Has.len' ha2') (Has.len' ha1') h10 w1 (okApp (K := K) (K2 := []) hK (by exact (SubE.cons2 (i := 4) rfl (SubE.nil))) (by exact (SubE.nil)) hw1)) rfl ?_) ?_
  rotate_left; exact P_stop
  rintro _ _ hlo ⟨A12, c13, rfl, rfl, -⟩
  refine T_app1 ?_
  refine T_rowP (k := 1) rfl (by decide) (fun _ => rfl) (fun hn14 hs15 => ?_)
  refine T_rowP (k := 0) rfl (by decide) (fun _ => rfl) (fun hn16 hs17 => ?_)
  obtain ⟨r18, h19, hx20⟩ := bnd_some hx11
  refine P_x rfl (Wx_callL rfl (fun w1 hw1 => lidarref01_Int_Add_ok r4 r9 (Has.len' (Has.up (L := ([.r (A7) ((r4.L).length) (c8) 3 1 ((r4.L).flatMap e_i64), .r (A12) ((r9.L).length) (c13) 3 1 ((r9.L).flatMap e_i64)] : List Ent)) hs15 (SubE.cons2 (i := 0) rfl (SubE.nil)))) (Has.len' (Has.up (L := ([.r (A7) ((r4.L).length) (c8) 3 1 ((r4.L).flatMap e_i64), .r (A12) ((r9.L).length) (c13) 3 1 ((r9.L).flatMap e_i64)] : List Ent)) hs17 (SubE.cons2 (i := 1) rfl (SubE.nil)))) h19 w1 (okAll (K := ([.r (A7) ((r4.L).length) (c8) 3 1 ((r4.L).flatMap e_i64), .r (A12) ((r9.L).length) (c13) 3 1 ((r9.L).flatMap e_i64)] : List Ent)) (by exact (SubE.cons2 (i := 1) rfl (SubE.cons2 (i := 0) rfl (SubE.nil)))) hw1)) rfl ?_) ?_
  rotate_left; exact P_stop
  rintro _ _ hlo ⟨A21, c22, rfl, rfl, -⟩
  refine T_app1 ?_
  obtain ⟨r23, h24, hx25⟩ := bnd_some hx20
  refine P_x rfl (Wx_callL rfl (fun w1 hw1 => lidarref01_times_ok p0.D p1.D (Has.len' ha1') (Has.len' ha3') h24 w1 (okApp (K := K) (K2 := []) hK (by exact (SubE.cons2 (i := 6) rfl (SubE.nil))) (by exact (SubE.nil)) hw1)) rfl ?_) ?_
  rotate_left; exact P_stop
  rintro _ _ hlo ⟨A26, c27, rfl, rfl, -⟩
  refine T_app1 ?_
  refine P_p rfl rfl (Ev_build rfl (bld43_0b1s _ _ _ _)) rfl ?_
  refine T_rowP (k := 1) rfl (by decide) (fun _ => rfl) (fun hn28 hs29 => ?_)
  refine T_rowP (k := 0) rfl (by decide) (fun _ => rfl) (fun hn30 hs31 => ?_)
  obtain ⟨r32, h33, hx34⟩ := bnd_some hx25
  refine P_x rfl (Wx_callL rfl (fun w1 hw1 => lidarref01_Frac_ok r18 (⟨false, r23⟩ : S_lidarref01_Int) (Has.len' (Has.up (L := ([.r (A21) ((r18.L).length) (c22) 3 1 ((r18.L).flatMap e_i64), .r (A26) ((r23).length) (c27) 3 1 ((r23).flatMap e_i64)] : List Ent)) hs29 (SubE.cons2 (i := 0) rfl (SubE.nil)))) (Has.len' (Has.up (L := ([.r (A21) ((r18.L).length) (c22) 3 1 ((r18.L).flatMap e_i64), .r (A26) ((r23).length) (c27) 3 1 ((r23).flatMap e_i64)] : List Ent)) hs31 (SubE.cons2 (i := 1) rfl (SubE.nil)))) h33 w1 (okAll (K := ([.r (A21) ((r18.L).length) (c22) 3 1 ((r18.L).flatMap e_i64), .r (A26) ((r23).length) (c27) 3 1 ((r23).flatMap e_i64)] : List Ent)) (by exact (SubE.cons2 (i := 1) rfl (SubE.cons2 (i := 0) rfl (SubE.nil)))) hw1)) rfl ?_) ?_
  rotate_left; exact P_stop
  rintro _ _ hlo ⟨A35, c36, A37, c38, rfl, rfl, -⟩
  refine T_app2 ?_
  refine P_h rfl rfl (Wh_store rfl rfl rfl (.there (.there (.there (.there (.there (.there (.here))))))) (.put (.put (.put (.done)))) rfl (List.cons_ne_nil _ _) agg45.2 ?_) ?_
  rotate_left; exact P_stop
  refine P_done ?_
  refine T_next ?_
  refine T_retc ?_
  obtain rfl := Option.some.inj hx34
  exact T_retP (rs := [.cell 4 45]) Try.results60 (.cell rfl (i := 6) rfl rfl agg45 (.nil)) (Ln := [.r (A35) ((r32.N.L).length) (c36) 3 1 ((r32.N.L).flatMap e_i64), .r (A37) ((r32.D).length) (c38) 3 1 ((r32.D).flatMap e_i64)]) ⟨A35, c36, A37, c38, rfl, rfl, trivial⟩ (loCons rfl (loCons rfl (loNil))) (by exact .pick 0 rfl (.pick 0 rfl (.drop 0 rfl (.drop 0 rfl (.drop 0 rfl (.drop 0 rfl (.drop 0 rfl (.drop 0 rfl (.drop 0 rfl (.refl))))))))))
set_option maxRecDepth 100000 in
theorem lidarref01_Q_Mul_ok (p0 : S_lidarref01_Q) (p1 : S_lidarref01_Q) {K : List Ent} {A0_0 : Option Addr} {c0_0 : Nat} {A0_1 : Option Addr} {c0_1 : Nat} {A0_2 : Option Addr} {c0_2 : Nat} {A0_3 : Option Addr} {c0_3 : Nat} (ha0 : Has K A0_0 (p0.N.L).length c0_0 1 e_i64 (p0.N.L)) (ha1 : Has K A0_1 (p0.D).length c0_1 1 e_i64 (p0.D)) (ha2 : Has K A0_2 (p1.N.L).length c0_2 1 e_i64 (p1.N.L)) (ha3 : Has K A0_3 (p1.D).length c0_3 1 e_i64 (p1.D)) {r : S_lidarref01_Q} (hx : lidarref01_Q_Mul p0 p1 = some r) (w : World) (hK : ∀ e ∈ K, Ent.ok w e) : CtL Try.prog 61 [.agg #[.bool (p0.N.Neg), .slice (A0_0) ((p0.N.L).length) (c0_0), .slice (A0_1) ((p0.D).length) (c0_1)], .agg #[.bool (p1.N.Neg), .slice (A0_2) ((p1.N.L).length) (c0_2), .slice (A0_3) ((p1.D).length) (c0_3)]] w fun v Ln => ∃ (A0 : Option Addr) (c0 : Nat) (A2 : Option Addr) (c2 : Nat), v = .agg #[.bool (r.N.Neg), .slice (A0) ((r.N.L).length) (c0), .slice (A2) ((r.D).length) (c2)] ∧ Ln = [.r A0 (r.N.L).length c0 3 1 ((r.N.L).flatMap e_i64), .r A2 (r.D).length c2 3 1 ((r.D).flatMap e_i64)] ∧ True := by
  have ha0' := Has.up0 ha0
  have ha1' := Has.up0 ha1
  have ha2' := Has.up0 ha2
  have ha3' := Has.up0 ha3
  refine CtL.mk 17 Try.func61 rfl Try.ntmps61 (by kernel_rfl) rfl ?_
  show T 17 _ [(0, .agg #[.bool (p0.N.Neg), .slice (A0_0) ((p0.N.L).length) (c0_0), .slice (A0_1) ((p0.D).length) (c0_1)]), (1, .agg #[.bool (p1.N.Neg), .slice (A0_2) ((p1.N.L).length) (c0_2), .slice (A0_3) ((p1.D).length) (c0_3)])] _
  unfold lidarref01_Q_Mul at hx
  refine T_seq ?_
  refine T_reg ?_
  refine T_x (Wx_box rfl rfl rfl (fun g1 => ?_))
  refine T_x (Wx_box rfl rfl rfl (fun g2 => ?_))
  refine T_x (Wx_alloc zer45 rfl (fun g3 => ?_))
  refine T_nil ?_
  refine T_next ?_
  refine T_seq ?_
  refine T_draw [0, 1, 0, 1, 2, 0, 1, 0, 1, 2, 0, 2, 3] [[], [0], [], [2], [0, 1, 2, 3], [], [5], [], [7], [0, 1, 2, 3, 4, 5, 6, 7, 8], [0, 1, 2, 3, 4, 5, 6, 7, 8, 9], [0, 1, 2, 3, 4, 5, 6, 7, 8, 9, 10], [0, 1, 2, 3, 4, 5, 6, 7, 8, 9, 10, 11]] (.q 0 (.q 1 (.q 2 (.q 3 (.q 5 (.q 6 (.q 7 (.q 8 (.e 4 (.e 9 (.q 10 (.e 11 (.e 12 (.done) (.stop)) (.stop))) (.stop)) (.stop)))))))))) mixed (by kernel_rfl) (by kernel_rfl) ?_
  refine P_p rfl rfl (Ev_field rfl fld45_0 rfl) rfl ?_
  refine P_q rfl rfl (Ev_loadK rfl (i := 2) rfl rfl agg43) rfl ?_
  refine P_p rfl rfl (Ev_field rfl fld45_0 rfl) rfl ?_
  refine P_q rfl rfl (Ev_loadK rfl (i := 1) rfl rfl agg43) rfl ?_
  refine P_p rfl rfl (Ev_field rfl fld45_1 rfl) rfl ?_
  refine P_q rfl rfl (Ev_load1 rfl (i := 2) rfl rfl one27) rfl ?_
  refine P_p rfl rfl (Ev_field rfl fld45_1 rfl) rfl ?_
  refine P_q rfl rfl (Ev_load1 rfl (i := 1) rfl rfl one27) rfl ?_
  obtain ⟨r4, h5, hx6⟩ := bnd_some hx
  refine P_x rfl (Wx_callL rfl (fun w1 hw1 => lidarref01_Int_Mul_ok p0.N p1.N (Has.len' ha0') (Has.len' ha2') h5 w1 (okApp (K := K) (K2 := []) hK (by exact (SubE.cons2 (i := 3) rfl (SubE.nil))) (by exact (SubE.nil)) hw1)) rfl ?_) ?_
  rotate_left; exact P_stop
  rintro _ _ hlo ⟨A7, c8, rfl, rfl, -⟩
  refine T_app1 ?_
  obtain ⟨r9, h10, hx11⟩ := bnd_some hx6
  refine P_x rfl (Wx_callL rfl (fun w1 hw1 => lidarref01_times_ok p0.D p1.D (Has.len' ha1') (Has.len' ha3') h10 w1 (okApp (K := K) (K2 := []) hK (by exact (SubE.cons2 (i := 4) rfl (SubE.nil))) (by exact (SubE.nil)) hw1)) rfl ?_) ?_
  rotate_left; exact P_stop
  rintro _ _ hlo ⟨A12, c13, rfl, rfl, -⟩
  refine T_app1 ?_
  refine P_p rfl rfl (Ev_build rfl (bld43_0b1s _ _ _ _)) rfl ?_
  refine T_rowP (k := 1) rfl (by decide) (fun _ => rfl) (fun hn14 hs15 => ?_)
  refine T_rowP (k := 0) rfl (by decide) (fun _ => rfl) (fun hn16 hs17 => ?_)
  obtain ⟨r18, h19, hx20⟩ := bnd_some hx11
  refine P_x rfl (Wx_callL rfl (fun w1 hw1 => lidarref01_Frac_ok r4 (⟨false, r9⟩ : S_lidarref01_Int) (Has.len' (Has.up (L := ([.r (A7) ((r4.L).length) (c8) 3 1 ((r4.L).flatMap e_i64), .r (A12) ((r9).length) (c13) 3 1 ((r9).flatMap e_i64)] : List Ent)) hs15 (SubE.cons2 (i := 0) rfl (SubE.nil)))) (Has.len' (Has.up (L := ([.r (A7) ((r4.L).length) (c8) 3 1 ((r4.L).flatMap e_i64), .r (A12) ((r9).length) (c13) 3 1 ((r9).flatMap e_i64)] : List Ent)) hs17 (SubE.cons2 (i := 1) rfl (SubE.nil)))) h19 w1 (okAll (K := ([.r (A7) ((r4.L).length) (c8) 3 1 ((r4.L).flatMap e_i64), .r (A12) ((r9).length) (c13) 3 1 ((r9).flatMap e_i64)] : List Ent)) (by exact (SubE.cons2 (i := 1) rfl (SubE.cons2 (i := 0) rfl (SubE.nil)))) hw1)) rfl ?_) ?_
  rotate_left; exact P_stop
  rintro _ _ hlo ⟨A21, c22, A23, c24, rfl, rfl, -⟩
  refine T_app2 ?_
  refine P_h rfl rfl (Wh_store rfl rfl rfl (.there (.there (.there (.there (.here))))) (.put (.put (.put (.done)))) rfl (List.cons_ne_nil _ _) agg45.2 ?_) ?_
  rotate_left; exact P_stop
  refine P_done ?_
  refine T_next ?_
  refine T_retc ?_
  obtain rfl := Option.some.inj hx20
  exact T_retP (rs := [.cell 4 45]) Try.results61 (.cell rfl (i := 4) rfl rfl agg45 (.nil)) (Ln := [.r (A21) ((r18.N.L).length) (c22) 3 1 ((r18.N.L).flatMap e_i64), .r (A23) ((r18.D).length) (c24) 3 1 ((r18.D).flatMap e_i64)]) ⟨A21, c22, A23, c24, rfl, rfl, trivial⟩ (loCons rfl (loCons rfl (loNil))) (by exact .pick 0 rfl (.pick 0 rfl (.drop 0 rfl (.drop 0 rfl (.drop 0 rfl (.drop 0 rfl (.drop 0 rfl (.refl))))))))
set_option maxRecDepth 100000 in
theorem model_amount_ok (p0 : S_api_Grid) (p1 : S_api_Grid) (p2 : List Int) {K : List Ent} {A0_0 : Option Addr} {c0_0 : Nat} {A0_1 : Option Addr} {c0_1 : Nat} {A0_2 : Option Addr} {c0_2 : Nat} (ha0 : Has K A0_0 (p0.Cells).length c0_0 3 e_api_Cell (p0.Cells)) (ha1 : Has K A0_1 (p1.Cells).length c0_1 3 e_api_Cell (p1.Cells)) (ha2 : Has K A0_2 (p2).length c0_2 1 e_i64 (p2)) {r : S_api_Rat × S_api_Rat} (hx : model_amount p0 p1 p2 = some r) (w : World) (hK : ∀ e ∈ K, Ent.ok w e) : CtL Try.prog 59 [.agg #[.int .i64 (p0.Raster.X0), .int .i64 (p0.Raster.Y0), .int .i64 (p0.Raster.Step), .int .i64 (p0.Raster.NX), .int .i64 (p0.Raster.NY), .slice (A0_0) ((p0.Cells).length) (c0_0)], .agg #[.int .i64 (p1.Raster.X0), .int .i64 (p1.Raster.Y0), .int .i64 (p1.Raster.Step), .int .i64 (p1.Raster.NX), .int .i64 (p1.Raster.NY), .slice (A0_1) ((p1.Cells).length) (c0_1)], .slice (A0_2) ((p2).length) (c0_2)] w fun v Ln => ∃ (A0 : Option Addr) (c0 : Nat) (A2 : Option Addr) (c2 : Nat) (A4 : Option Addr) (c4 : Nat) (A6 : Option Addr) (c6 : Nat) (e0 : Ent) (e1 : Ent), v = .tuple #[.agg #[.bool (r.1.Neg), .slice (A0) ((r.1.Num).length) (c0), .slice (A2) ((r.1.Den).length) (c2)], .agg #[.bool (r.2.Neg), .slice (A4) ((r.2.Num).length) (c4), .slice (A6) ((r.2.Den).length) (c6)]] ∧ Ln = [e0, e1] ∧ Has (K ++ [e0, e1]) A0 (r.1.Num).length c0 1 e_u32 (r.1.Num) ∧ Has (K ++ [e0, e1]) A2 (r.1.Den).length c2 1 e_u32 (r.1.Den) ∧ Has (K ++ [e0, e1]) A4 (r.2.Num).length c4 1 e_u32 (r.2.Num) ∧ Has (K ++ [e0, e1]) A6 (r.2.Den).length c6 1 e_u32 (r.2.Den) ∧ True := by
  have ha0' := Has.up0 ha0
  have ha1' := Has.up0 ha1
  have ha2' := Has.up0 ha2
  refine CtL.mk 61 Try.func59 rfl Try.ntmps59 (by kernel_rfl) rfl ?_
  show T 61 _ [(0, .agg #[.int .i64 (p0.Raster.X0), .int .i64 (p0.Raster.Y0), .int .i64 (p0.Raster.Step), .int .i64 (p0.Raster.NX), .int .i64 (p0.Raster.NY), .slice (A0_0) ((p0.Cells).length) (c0_0)]), (1, .agg #[.int .i64 (p1.Raster.X0), .int .i64 (p1.Raster.Y0), .int .i64 (p1.Raster.Step), .int .i64 (p1.Raster.NX), .int .i64 (p1.Raster.NY), .slice (A0_1) ((p1.Cells).length) (c0_1)]), (2, .slice (A0_2) ((p2).length) (c0_2))] _
  unfold model_amount at hx
  refine T_seq ?_
  refine T_reg ?_
  refine T_x (Wx_box rfl rfl rfl (fun g1 => ?_))
  refine T_x (Wx_box rfl rfl rfl (fun g2 => ?_))
  refine T_x (Wx_alloc zer32 rfl (fun g3 => ?_))
  refine T_x (Wx_alloc zer32 rfl (fun g4 => ?_))
  refine T_nil ?_
  refine T_next ?_
  refine T_seq ?_
  refine T_reg ?_
  refine T_val (Ev_assign rfl) rfl ?_
  refine T_val (Ev_assign rfl) rfl ?_
  refine T_nil ?_
  refine T_next ?_
  obtain ⟨j3, hj3, hx⟩ := jn_some hx
  refine T_cutP (τ := Int × Int) (γ := Unit) (J := j3) (out := r) (fun s3 y3 => [(3, .pointer (some ⟨g1, 0, none⟩)), (6, .pointer (some ⟨g3, 0, none⟩)), (7, .pointer (some ⟨g4, 0, none⟩)), (8, .int .i64 (s3.1)), (9, .int .i64 (s3.2))]) (fun s3 y3 => [.m g4 32 [.bool (false), .slice (none) (0) (0), .slice (none) (0) (0)], .m g3 32 [.bool (false), .slice (none) (0) (0), .slice (none) (0) (0)], .m g1 26 [.int .i64 (p0.Raster.X0), .int .i64 (p0.Raster.Y0), .int .i64 (p0.Raster.Step), .int .i64 (p0.Raster.NX), .int .i64 (p0.Raster.NY), .slice (A0_0) ((p0.Cells).length) (c0_0)]] ++ [.old w]) (fun s3 y3 => True) ?_ ?_
  · intro s3 y3 hx123 hG124
    subst hj3
    refine T_seq ?_
    refine T_draw [0, 1, 0, 2, 0, 1, 0, 2, 3, 3] [[], [0], [], [0, 1, 2], [], [4], [], [0, 1, 2, 3, 4, 5, 6], [0, 1, 2, 3, 4, 5, 6, 7], [0, 1, 2, 3, 4, 5, 6, 7, 8]] (.q 0 (.q 1 (.q 2 (.q 4 (.q 5 (.q 6 (.e 3 (.e 7 (.e 8 (.e 9 (.done) (.stop)) (.stop)) (.stop)) (.stop)))))))) mixed (by kernel_rfl) (by kernel_rfl) ?_
    refine P_p rfl rfl (Ev_field rfl fld26_0 rfl) rfl ?_
    refine P_q rfl rfl (Ev_loadK rfl (i := 2) rfl rfl agg23) rfl ?_
    refine P_p rfl rfl (Ev_move rfl) rfl ?_
    refine P_p rfl rfl (Ev_field rfl fld26_0 rfl) rfl ?_
    refine P_q rfl rfl (Ev_loadK rfl (i := 2) rfl rfl agg23) rfl ?_
    refine P_p rfl rfl (Ev_move rfl) rfl ?_
    obtain ⟨r125, h126, hx127⟩ := bnd_some hx123
    refine P_x rfl (Wx_callL rfl (fun w1 hw1 => model_times_ok p0.Raster s3.1  h126 w1) rfl ?_) ?_
    rotate_left; exact P_stop
    rintro _ _ hlo ⟨A128, c129, A130, c131, e132, rfl, rfl, hs133, hs134, -⟩
    have lo135 := hlo e132 (by simp)
    refine T_app1 ?_
    obtain ⟨r136, h137, hx138⟩ := bnd_some hx127
    refine P_x rfl (Wx_callL rfl (fun w1 hw1 => model_times_ok p0.Raster s3.2  h137 w1) rfl ?_) ?_
    rotate_left; exact P_stop
    rintro _ _ hlo ⟨A139, c140, A141, c142, e143, rfl, rfl, hs144, hs145, -⟩
    have lo146 := hlo e143 (by simp)
    refine T_app1 ?_
    refine P_h rfl rfl (Wh_store rfl rfl rfl (.there (.there (.there (.here)))) (.put (.put (.put (.done)))) rfl (List.cons_ne_nil _ _) agg32.2 ?_) ?_
    rotate_left; exact P_stop
    refine P_h rfl rfl (Wh_store rfl rfl rfl (.there (.there (.here))) (.put (.put (.put (.done)))) rfl (List.cons_ne_nil _ _) agg32.2 ?_) ?_
    rotate_left; exact P_stop
    refine P_done ?_
    refine T_next ?_
    refine T_retc ?_
    obtain rfl := Option.some.inj hx138
    exact T_retP (rs := [.cell 6 32, .cell 7 32]) Try.results59 (.cell rfl (i := 3) rfl rfl agg32 (.cell rfl (i := 2) rfl rfl agg32 (.nil))) (Ln := [e132, e143]) ⟨A128, c129, A130, c131, A139, c140, A141, c142, e132, e143, rfl, rfl, Has.len' (Has.up (L := (K ++ [e132, e143])) hs133 (SubE.appR2 (SubE.cons2 (i := 0) rfl (SubE.nil)))), Has.len' (Has.up (L := (K ++ [e132, e143])) hs134 (SubE.appR2 (SubE.cons2 (i := 0) rfl (SubE.nil)))), Has.len' (Has.up (L := (K ++ [e132, e143])) hs144 (SubE.appR2 (SubE.cons2 (i := 1) rfl (SubE.nil)))), Has.len' (Has.up (L := (K ++ [e132, e143])) hs145 (SubE.appR2 (SubE.cons2 (i := 1) rfl (SubE.nil)))), trivial⟩ (loCons lo135 (loCons lo146 (loNil))) (by exact .pick 1 rfl (.pick 0 rfl (.drop 0 rfl (.drop 0 rfl (.drop 0 rfl (.refl))))))
  · skip
    refine T_seq ?_
    refine T_reg ?_
    refine T_val (Ev_move rfl) rfl ?_
    refine T_val (Ev_len rfl 3 Try.underlying27) rfl ?_
    refine T_val (Ev_move rfl) rfl ?_
    refine T_nil ?_
    refine T_next ?_
    refine T_block ?_
    obtain ⟨t64, hl64, ho64⟩ := bnd_some hx
    refine T_loopP (σ := Int × Int × Int) (γ := Unit) hl64 (fun s64 y64 => [(3, .pointer (some ⟨g1, 0, none⟩)), (4, .pointer (some ⟨g2, 0, none⟩)), (6, .pointer (some ⟨g3, 0, none⟩)), (7, .pointer (some ⟨g4, 0, none⟩)), (8, .int .i64 (s64.1)), (9, .int .i64 (s64.2.1)), (12, .slice (A0_2) ((p2).length) (c0_2)), (13, .int .i64 ((((p2).length : Nat) : Int))), (14, .int .i64 (s64.2.2))]) (fun s64 y64 => [.m g4 32 [.bool (false), .slice (none) (0) (0), .slice (none) (0) (0)], .m g3 32 [.bool (false), .slice (none) (0) (0), .slice (none) (0) (0)], .m g2 26 [.int .i64 (p1.Raster.X0), .int .i64 (p1.Raster.Y0), .int .i64 (p1.Raster.Step), .int .i64 (p1.Raster.NX), .int .i64 (p1.Raster.NY), .slice (A0_1) ((p1.Cells).length) (c0_1)], .m g1 26 [.int .i64 (p0.Raster.X0), .int .i64 (p0.Raster.Y0), .int .i64 (p0.Raster.Step), .int .i64 (p0.Raster.NX), .int .i64 (p0.Raster.NY), .slice (A0_0) ((p0.Cells).length) (c0_0)]] ++ [.old w]) (fun s64 y64 => True) () trivial (by exact .cons rfl (.cons rfl (.cons rfl (.cons rfl (.cons rfl (.cons rfl (.cons rfl (.cons rfl (.cons rfl (.nil)))))))))) (by exact .pick 0 rfl (.pick 0 rfl (.pick 0 rfl (.pick 0 rfl (.refl))))) ?_
    intro s64 y64 hG64 x64 hx64 ht64
    unfold model_amount_l3 at hx64
    refine T_seq ?_
    refine T_reg ?_
    refine T_val (Ev_lss rfl rfl) rfl ?_
    refine T_nil ?_
    refine T_next ?_
    refine T_seq ?_
    refine T_caseP (s := 15) rfl (fun h65 => ?_) (fun h65 => ?_)
    · have hx66 := ite_t h65 hx64
      refine T_condT rfl ?_
      refine T_skip ?_
      refine T_next ?_
      refine T_seq ?_
      refine T_block ?_
      refine T_seq ?_
      refine T_reg ?_
      obtain ⟨x68, h69, hx70⟩ := bnd_some hx66
      have hw78 := Has.low (E := []) ha2' hK
      obtain ⟨b71, o72, j73, hA74, hj75, hl76, hp77⟩ := Has.at_idx hw78 h69
      refine T_val (Ev_index rfl rfl hA74 (j := j73) hj75 hl76 slc27) rfl ?_
      refine T_val (Ev_loadP0 rfl hp77 (SubE.cons2 (i := 4) rfl (SubE.nil)) rfl one3) rfl ?_
      refine T_val (Ev_assign rfl) rfl ?_
      refine T_nil ?_
      refine T_next ?_
      refine T_seq ?_
      refine T_draw [0, 0, 1, 0, 0, 0, 0, 1, 0, 1, 0, 0, 0, 0, 1, 0, 0, 2] [[], [], [1], [], [1, 2, 3], [1, 2, 3, 4], [1, 2, 3, 4, 5], [1, 2, 3, 4, 5, 6], [], [8], [], [8, 9, 10], [8, 9, 10, 11], [8, 9, 10, 11, 12], [8, 9, 10, 11, 12, 13], [1, 2, 3, 4, 5, 6, 7, 8, 9, 10, 11, 12, 13, 14], [0, 1, 2, 3, 4, 5, 6, 7, 8, 9, 10, 11, 12, 13, 14, 15], [0, 1, 2, 3, 4, 5, 6, 7, 8, 9, 10, 11, 12, 13, 14, 15, 16]] (.q 0 (.q 1 (.q 2 (.q 3 (.q 4 (.q 5 (.q 6 (.q 7 (.q 8 (.q 9 (.q 10 (.q 11 (.q 12 (.q 13 (.q 14 (.q 15 (.q 16 (.e 17 (.done) (.stop))))))))))))))))))) mixed (by kernel_rfl) (by kernel_rfl) ?_
      refine P_p rfl rfl (Ev_move rfl) rfl ?_
      refine P_p rfl rfl (Ev_field rfl fld26_1 rfl) rfl ?_
      refine P_q rfl rfl (Ev_load1 rfl (i := 2) rfl rfl one24) rfl ?_
      refine P_p rfl rfl (Ev_move rfl) rfl ?_
      obtain ⟨x79, h80, hx81⟩ := bnd_some hx70
      have hw89 := Has.low (E := []) ha1' hK
      obtain ⟨b82, o83, j84, hA85, hj86, hl87, hp88⟩ := Has.at_idx hw89 h80
      refine P_p rfl rfl (Ev_index rfl rfl hA85 (j := j84) hj86 hl87 slc24) rfl ?_
      refine P_p rfl rfl (Ev_field rfl fld41_1 rfl) rfl ?_
      refine P_p rfl rfl (Ev_field rfl fld39_0 rfl) rfl ?_
      refine P_q rfl rfl (Ev_loadP1 (d := 1) rfl hp88 (SubE.cons2 (i := 4) rfl (SubE.nil)) rfl one3) rfl ?_
      refine P_p rfl rfl (Ev_field rfl fld26_1 rfl) rfl ?_
      refine P_q rfl rfl (Ev_load1 rfl (i := 3) rfl rfl one24) rfl ?_
      refine P_p rfl rfl (Ev_move rfl) rfl ?_
      obtain ⟨x90, h91, hx92⟩ := bnd_some hx81
      have hw100 := Has.low (E := []) ha0' hK
      obtain ⟨b93, o94, j95, hA96, hj97, hl98, hp99⟩ := Has.at_idx hw100 h91
      refine P_p rfl rfl (Ev_index rfl rfl hA96 (j := j95) hj97 hl98 slc24) rfl ?_
      refine P_p rfl rfl (Ev_field rfl fld41_1 rfl) rfl ?_
      refine P_p rfl rfl (Ev_field rfl fld39_1 rfl) rfl ?_
      refine P_q rfl rfl (Ev_loadP1 (d := 2) rfl hp99 (SubE.cons2 (i := 4) rfl (SubE.nil)) rfl one3) rfl ?_
      refine P_p rfl rfl (Ev_sub_w64 rfl rfl) rfl ?_
      refine P_p rfl rfl (Ev_add_w64 rfl rfl) rfl ?_
      refine P_x rfl (Wx_val (Ev_assign rfl) rfl ?_) ?_
      rotate_left; exact P_stop
      refine P_done ?_
      refine T_next ?_
      refine T_draw [0, 0, 1, 0, 0, 0, 0, 1, 0, 1, 0, 0, 0, 0, 1, 0, 0, 2] [[], [], [1], [], [1, 2, 3], [1, 2, 3, 4], [1, 2, 3, 4, 5], [1, 2, 3, 4, 5, 6], [], [8], [], [8, 9, 10], [8, 9, 10, 11], [8, 9, 10, 11, 12], [8, 9, 10, 11, 12, 13], [1, 2, 3, 4, 5, 6, 7, 8, 9, 10, 11, 12, 13, 14], [0, 1, 2, 3, 4, 5, 6, 7, 8, 9, 10, 11, 12, 13, 14, 15], [0, 1, 2, 3, 4, 5, 6, 7, 8, 9, 10, 11, 12, 13, 14, 15, 16]] (.q 0 (.q 1 (.q 2 (.q 3 (.q 4 (.q 5 (.q 6 (.q 7 (.q 8 (.q 9 (.q 10 (.q 11 (.q 12 (.q 13 (.q 14 (.q 15 (.q 16 (.e 17 (.done) (.stop))))))))))))))))))) mixed (by kernel_rfl) (by kernel_rfl) ?_
      refine P_p rfl rfl (Ev_move rfl) rfl ?_
      refine P_p rfl rfl (Ev_field rfl fld26_1 rfl) rfl ?_
      refine P_q rfl rfl (Ev_load1 rfl (i := 2) rfl rfl one24) rfl ?_
      refine P_p rfl rfl (Ev_move rfl) rfl ?_
      obtain ⟨x101, h102, hx103⟩ := bnd_some hx92
      have hw111 := Has.low (E := []) ha1' hK
      obtain ⟨b104, o105, j106, hA107, hj108, hl109, hp110⟩ := Has.at_idx hw111 h102
      refine P_p rfl rfl (Ev_index rfl rfl hA107 (j := j106) hj108 hl109 slc24) rfl ?_
      refine P_p rfl rfl (Ev_field rfl fld41_1 rfl) rfl ?_
      refine P_p rfl rfl (Ev_field rfl fld39_1 rfl) rfl ?_
      refine P_q rfl rfl (Ev_loadP1 (d := 2) rfl hp110 (SubE.cons2 (i := 4) rfl (SubE.nil)) rfl one3) rfl ?_
      refine P_p rfl rfl (Ev_field rfl fld26_1 rfl) rfl ?_
      refine P_q rfl rfl (Ev_load1 rfl (i := 3) rfl rfl one24) rfl ?_
      refine P_p rfl rfl (Ev_move rfl) rfl ?_
      obtain ⟨x112, h113, hx114⟩ := bnd_some hx103
      have hw122 := Has.low (E := []) ha0' hK
      obtain ⟨b115, o116, j117, hA118, hj119, hl120, hp121⟩ := Has.at_idx hw122 h113
      refine P_p rfl rfl (Ev_index rfl rfl hA118 (j := j117) hj119 hl120 slc24) rfl ?_
      refine P_p rfl rfl (Ev_field rfl fld41_1 rfl) rfl ?_
      refine P_p rfl rfl (Ev_field rfl fld39_0 rfl) rfl ?_
      refine P_q rfl rfl (Ev_loadP1 (d := 1) rfl hp121 (SubE.cons2 (i := 4) rfl (SubE.nil)) rfl one3) rfl ?_
      refine P_p rfl rfl (Ev_sub_w64 rfl rfl) rfl ?_
      refine P_p rfl rfl (Ev_add_w64 rfl rfl) rfl ?_
      refine P_x rfl (Wx_val (Ev_assign rfl) rfl ?_) ?_
      rotate_left; exact P_stop
      refine P_done ?_
      refine T_inN ?_
      refine T_next ?_
      refine T_reg ?_
      refine T_val (Ev_add_w64 rfl rfl) rfl ?_
      refine T_val (Ev_move rfl) rfl ?_
      refine T_nil ?_
      exact T_roundP (w64 (s64.1 + (w64 (x79.Z.Lo - x90.Z.Hi))), w64 (s64.2.1 + (w64 (x101.Z.Hi - x112.Z.Lo))), w64 (s64.2.2 + 1)) () hx114 trivial (by exact .cons rfl (.cons rfl (.cons rfl (.cons rfl (.cons rfl (.cons rfl (.cons rfl (.cons rfl (.cons rfl (.nil)))))))))) (by exact .pick 0 rfl (.pick 0 rfl (.pick 0 rfl (.pick 0 rfl (.refl)))))
    · have hx67 := ite_f h65 hx64
      refine T_condF rfl ?_
      refine T_exit ?_
      refine T_outX ?_
      obtain rfl := exit_eq ht64 hx67
      refine T_outX ?_
      refine T_here ?_
      exact T_metP (s64.1, s64.2.1) () ho64 trivial (by exact .cons rfl (.cons rfl (.cons rfl (.cons rfl (.cons rfl (.nil)))))) (by exact .pick 0 rfl (.pick 0 rfl (.pick 1 rfl (.drop 0 rfl (.refl)))))
set_option maxRecDepth 100000 in
theorem model_Amount_ok (p0 : S_api_Grid) (p1 : S_api_Grid) (p2 : List Int) {K : List Ent} {A0_0 : Option Addr} {c0_0 : Nat} {A0_1 : Option Addr} {c0_1 : Nat} {A0_2 : Option Addr} {c0_2 : Nat} (ha0 : Has K A0_0 (p0.Cells).length c0_0 3 e_api_Cell (p0.Cells)) (ha1 : Has K A0_1 (p1.Cells).length c0_1 3 e_api_Cell (p1.Cells)) (ha2 : Has K A0_2 (p2).length c0_2 1 e_i64 (p2)) {r : S_api_Rat × S_api_Rat × Int} (hx : model_Amount p0 p1 p2 = some r) (w : World) (hK : ∀ e ∈ K, Ent.ok w e) : CtL Try.prog 19 [.agg #[.int .i64 (p0.Raster.X0), .int .i64 (p0.Raster.Y0), .int .i64 (p0.Raster.Step), .int .i64 (p0.Raster.NX), .int .i64 (p0.Raster.NY), .slice (A0_0) ((p0.Cells).length) (c0_0)], .agg #[.int .i64 (p1.Raster.X0), .int .i64 (p1.Raster.Y0), .int .i64 (p1.Raster.Step), .int .i64 (p1.Raster.NX), .int .i64 (p1.Raster.NY), .slice (A0_1) ((p1.Cells).length) (c0_1)], .slice (A0_2) ((p2).length) (c0_2)] w fun v Ln => ∃ (A0 : Option Addr) (c0 : Nat) (A2 : Option Addr) (c2 : Nat) (A4 : Option Addr) (c4 : Nat) (A6 : Option Addr) (c6 : Nat) (e0 : Ent) (e1 : Ent), v = .tuple #[.agg #[.bool (r.1.Neg), .slice (A0) ((r.1.Num).length) (c0), .slice (A2) ((r.1.Den).length) (c2)], .agg #[.bool (r.2.1.Neg), .slice (A4) ((r.2.1.Num).length) (c4), .slice (A6) ((r.2.1.Den).length) (c6)], .int .i64 (r.2.2)] ∧ Ln = [e0, e1] ∧ Has (K ++ [e0, e1]) A0 (r.1.Num).length c0 1 e_u32 (r.1.Num) ∧ Has (K ++ [e0, e1]) A2 (r.1.Den).length c2 1 e_u32 (r.1.Den) ∧ Has (K ++ [e0, e1]) A4 (r.2.1.Num).length c4 1 e_u32 (r.2.1.Num) ∧ Has (K ++ [e0, e1]) A6 (r.2.1.Den).length c6 1 e_u32 (r.2.1.Den) ∧ True := by
  have ha0' := Has.up0 ha0
  have ha1' := Has.up0 ha1
  have ha2' := Has.up0 ha2
  refine CtL.mk 84 Try.func19 rfl Try.ntmps19 (by kernel_rfl) rfl ?_
  show T 84 _ [(0, .agg #[.int .i64 (p0.Raster.X0), .int .i64 (p0.Raster.Y0), .int .i64 (p0.Raster.Step), .int .i64 (p0.Raster.NX), .int .i64 (p0.Raster.NY), .slice (A0_0) ((p0.Cells).length) (c0_0)]), (1, .agg #[.int .i64 (p1.Raster.X0), .int .i64 (p1.Raster.Y0), .int .i64 (p1.Raster.Step), .int .i64 (p1.Raster.NX), .int .i64 (p1.Raster.NY), .slice (A0_1) ((p1.Cells).length) (c0_1)]), (2, .slice (A0_2) ((p2).length) (c0_2))] _
  unfold model_Amount at hx
  refine T_seq ?_
  refine T_reg ?_
  refine T_x (Wx_box rfl rfl rfl (fun g1 => ?_))
  refine T_x (Wx_box rfl rfl rfl (fun g2 => ?_))
  refine T_x (Wx_alloc zer32 rfl (fun g3 => ?_))
  refine T_x (Wx_alloc zer32 rfl (fun g4 => ?_))
  refine T_val (Ev_assign rfl) rfl ?_
  refine T_nil ?_
  refine T_next ?_
  refine T_seq ?_
  refine T_seq ?_
  refine T_reg ?_
  refine T_val (Ev_loadK rfl (i := 3) rfl rfl agg26) rfl ?_
  refine T_val (Ev_loadK rfl (i := 2) rfl rfl agg26) rfl ?_
  obtain ⟨r5, h6, hx7⟩ := bnd_some hx
  refine T_x (Wx_callL rfl (fun w1 hw1 => model_pair_ok p0 p1 (Has.len' ha0') (Has.len' ha1') h6 w1 (okApp (K := K) (K2 := []) hK (by exact (SubE.cons2 (i := 4) rfl (SubE.nil))) (by exact (SubE.nil)) hw1)) rfl ?_)
  rintro _ _ hlo ⟨rfl, rfl, -⟩
  refine T_app0 ?_
  refine T_val (Ev_assign rfl) rfl ?_
  refine T_nil ?_
  refine T_next ?_
  refine T_seq ?_
  refine T_reg ?_
  refine T_val (Ev_move rfl) rfl ?_
  refine T_val (Ev_neq rfl rfl) rfl ?_
  refine T_nil ?_
  refine T_next ?_
  refine T_caseNP (s := 19) rfl (fun h8 => ?_) (fun h8 => ?_)
  · have hx9 := ite_f h8 hx7
    refine T_condT rfl ?_
    refine T_seq ?_
    refine T_reg ?_
    refine T_val (Ev_build rfl (bld32_)) rfl ?_
    refine T_val (Ev_build rfl (bld32_)) rfl ?_
    refine T_val (Ev_move rfl) rfl ?_
    refine T_h (Wh_store rfl rfl rfl (.there (.here)) (.put (.put (.put (.done)))) rfl (List.cons_ne_nil _ _) agg32.2 ?_)
    refine T_h (Wh_store rfl rfl rfl (.here) (.put (.put (.put (.done)))) rfl (List.cons_ne_nil _ _) agg32.2 ?_)
    refine T_val (Ev_assign rfl) rfl ?_
    refine T_nil ?_
    refine T_next ?_
    refine T_retc ?_
    refine T_outR ?_
    refine T_none 0 1 ?_
    refine T_none 0 1 ?_
    obtain rfl := Option.some.inj hx9
    exact T_retP (rs := [.cell 6 32, .cell 7 32, .tmp 8]) Try.results19 (.cell rfl (i := 3) rfl rfl agg32 (.cell rfl (i := 2) rfl rfl agg32 (.tmp rfl (.nil)))) (Ln := [.r none 0 0 0 1 [], .r none 0 0 0 1 []]) ⟨none, 0, none, 0, none, 0, none, 0, (.r none 0 0 0 1 []), (.r none 0 0 0 1 []), rfl, rfl, Has.nil, Has.nil, Has.nil, Has.nil, trivial⟩ (loCons rfl (loCons rfl (loNil))) (by exact .pick 1 rfl (.pick 0 rfl (.drop 0 rfl (.drop 0 rfl (.drop 0 rfl (.drop 0 rfl (.refl)))))))
  · have hx10 := ite_t h8 hx7
    refine T_condF rfl ?_
    refine T_skip ?_
    refine T_next ?_
    obtain ⟨j6, hj6, hx10⟩ := jn_some hx10
    refine T_cutP (τ := Unit) (γ := Unit) (J := j6) (out := r) (fun s6 y6 => [(2, .slice (A0_2) ((p2).length) (c0_2)), (3, .pointer (some ⟨g1, 0, none⟩)), (4, .pointer (some ⟨g2, 0, none⟩)), (6, .pointer (some ⟨g3, 0, none⟩)), (7, .pointer (some ⟨g4, 0, none⟩))]) (fun s6 y6 => [.m g4 32 [.bool (false), .slice (none) (0) (0), .slice (none) (0) (0)], .m g3 32 [.bool (false), .slice (none) (0) (0), .slice (none) (0) (0)], .m g2 26 [.int .i64 (p1.Raster.X0), .int .i64 (p1.Raster.Y0), .int .i64 (p1.Raster.Step), .int .i64 (p1.Raster.NX), .int .i64 (p1.Raster.NY), .slice (A0_1) ((p1.Cells).length) (c0_1)], .m g1 26 [.int .i64 (p0.Raster.X0), .int .i64 (p0.Raster.Y0), .int .i64 (p0.Raster.Step), .int .i64 (p0.Raster.NX), .int .i64 (p0.Raster.NY), .slice (A0_0) ((p0.Cells).length) (c0_0)]] ++ [.old w]) (fun s6 y6 => True) ?_ ?_
    · intro s6 y6 hx53 hG54
      subst hj6
      refine T_seq ?_
      refine T_reg ?_
      refine T_val (Ev_field rfl fld26_1 rfl) rfl ?_
      refine T_val (Ev_load1 rfl (i := 3) rfl rfl one24) rfl ?_
      refine T_val (Ev_len rfl 41 Try.underlying24) rfl ?_
      obtain ⟨h56, hx57⟩ := gd_some hx53
      refine T_x (Wx_makeP e_bool (false) (z := .bool (false)) rfl rfl rfl h56.1 Try.underlying37 (show Try.prog.info? 4 = some Try.t4 from by kernel_rfl) (by kernel_rfl) rfl rfl (by kernel_rfl) (show 1 * _ ≤ _ from h56.2) (by decide) rfl (fun A55 => ?_))
      refine T_val (Ev_assign rfl) rfl ?_
      refine T_nil ?_
      refine T_next ?_
      obtain ⟨j21, hj21, hx57⟩ := jn_some hx57
      refine T_cutP (τ := Unit) (γ := Unit) (J := j21) (out := r) (fun s21 y21 => [(2, .slice (A0_2) ((p2).length) (c0_2)), (3, .pointer (some ⟨g1, 0, none⟩)), (4, .pointer (some ⟨g2, 0, none⟩)), (6, .pointer (some ⟨g3, 0, none⟩)), (7, .pointer (some ⟨g4, 0, none⟩))]) (fun s21 y21 => [.m g4 32 [.bool (false), .slice (none) (0) (0), .slice (none) (0) (0)], .m g3 32 [.bool (false), .slice (none) (0) (0), .slice (none) (0) (0)], .m g2 26 [.int .i64 (p1.Raster.X0), .int .i64 (p1.Raster.Y0), .int .i64 (p1.Raster.Step), .int .i64 (p1.Raster.NX), .int .i64 (p1.Raster.NY), .slice (A0_1) ((p1.Cells).length) (c0_1)], .m g1 26 [.int .i64 (p0.Raster.X0), .int .i64 (p0.Raster.Y0), .int .i64 (p0.Raster.Step), .int .i64 (p0.Raster.NX), .int .i64 (p0.Raster.NY), .slice (A0_0) ((p0.Cells).length) (c0_0)]] ++ [.old w]) (fun s21 y21 => True) ?_ ?_
      · intro s21 y21 hx200 hG201
        subst hj21
        refine T_seq ?_
        refine T_reg ?_
        refine T_val (Ev_loadK rfl (i := 3) rfl rfl agg26) rfl ?_
        refine T_val (Ev_loadK rfl (i := 2) rfl rfl agg26) rfl ?_
        refine T_val (Ev_move rfl) rfl ?_
        obtain ⟨r202, h203, hx204⟩ := bnd_some hx200
        refine T_x (Wx_callL rfl (fun w1 hw1 => model_amount_ok p0 p1 p2 (Has.len' ha0') (Has.len' ha1') (Has.len' ha2') h203 w1 (okApp (K := K) (K2 := []) hK (by exact (SubE.cons2 (i := 4) rfl (SubE.nil))) (by exact (SubE.nil)) hw1)) rfl ?_)
        rintro _ _ hlo ⟨A205, c206, A207, c208, A209, c210, A211, c212, e213, e214, rfl, rfl, hs215, hs216, hs217, hs218, -⟩
        have lo219 := hlo e213 (by simp)
        have lo220 := hlo e214 (by simp)
        refine T_app2 ?_
        have hs221 : Has (K ++ [e213, e214]) _ _ _ _ _ _ := Has.assoc hs215
        have hs222 : Has (K ++ [e213, e214]) _ _ _ _ _ _ := Has.assoc hs216
        have hs223 : Has (K ++ [e213, e214]) _ _ _ _ _ _ := Has.assoc hs217
        have hs224 : Has (K ++ [e213, e214]) _ _ _ _ _ _ := Has.assoc hs218
        refine T_val (Ev_move rfl) rfl ?_
        refine T_val (Ev_extract rfl rfl) rfl ?_
        refine T_val (Ev_extract rfl rfl) rfl ?_
        refine T_h (Wh_store rfl rfl rfl (.there (.there (.there (.here)))) (.put (.put (.put (.done)))) rfl (List.cons_ne_nil _ _) agg32.2 ?_)
        refine T_h (Wh_store rfl rfl rfl (.there (.there (.here))) (.put (.put (.put (.done)))) rfl (List.cons_ne_nil _ _) agg32.2 ?_)
        refine T_nil ?_
        refine T_next ?_
        obtain ⟨j38, hj38, hx204⟩ := jn_some hx204
        refine T_cutP (τ := Unit) (γ := Unit) (J := j38) (out := r) (fun s38 y38 => [(6, .pointer (some ⟨g3, 0, none⟩)), (7, .pointer (some ⟨g4, 0, none⟩)), (8, .int .i64 (0))]) (fun s38 y38 => [e213, e214, .m g4 32 [.bool (r202.2.Neg), .slice (A209) ((r202.2.Num).length) (c210), .slice (A211) ((r202.2.Den).length) (c212)], .m g3 32 [.bool (r202.1.Neg), .slice (A205) ((r202.1.Num).length) (c206), .slice (A207) ((r202.1.Den).length) (c208)]] ++ [.old w]) (fun s38 y38 => True) ?_ ?_
        · intro s38 y38 hx225 hG226
          subst hj38
          refine T_retc ?_
          obtain rfl := Option.some.inj hx225
          exact T_retP (rs := [.cell 6 32, .cell 7 32, .tmp 8]) Try.results19 (.cell rfl (i := 3) rfl rfl agg32 (.cell rfl (i := 2) rfl rfl agg32 (.tmp rfl (.nil)))) (Ln := [e213, e214]) ⟨A205, c206, A207, c208, A209, c210, A211, c212, e213, e214, rfl, rfl, Has.len' hs221, Has.len' hs222, Has.len' hs223, Has.len' hs224, trivial⟩ (loCons lo219 (loCons lo220 (loNil))) (by exact .pick 0 rfl (.pick 0 rfl (.drop 0 rfl (.drop 0 rfl (.refl)))))
        · skip
          refine T_draw [1, 2, 3, 3, 2] [[], [], [0], [0, 1, 2], [0, 1, 2, 3]] (.q 0 (.e 1 (.e 2 (.e 3 (.e 4 (.done) (.stop)) (.stop)) (.stop)) (.e 2 (.e 1 (.e 3 (.e 4 (.done) (.stop)) (.stop)) (.stop)) (.stop)))) mixed (by kernel_rfl) (by kernel_rfl) ?_
          refine P_q rfl rfl (Ev_loadK rfl (i := 3) rfl rfl agg32) rfl ?_
          refine P_x rfl (Wx_val (Ev_loadK rfl (i := 2) rfl rfl agg32) rfl ?_) ?_
          · skip
            refine P_h rfl rfl (Wh_store rfl rfl rfl (.there (.there (.there (.here)))) (.put (.put (.put (.done)))) rfl (List.cons_ne_nil _ _) agg32.2 ?_) ?_
            rotate_left; exact P_stop
            refine P_h rfl rfl (Wh_store rfl rfl rfl (.there (.there (.here))) (.put (.put (.put (.done)))) rfl (List.cons_ne_nil _ _) agg32.2 ?_) ?_
            rotate_left; exact P_stop
            refine P_x rfl (Wx_val (Ev_assign rfl) rfl ?_) ?_
            rotate_left; exact P_stop
            refine P_done ?_
            exact T_metP () () hx204 trivial (by exact .cons rfl (.cons rfl (.cons rfl (.nil)))) (by exact .pick 0 rfl (.pick 0 rfl (.pick 0 rfl (.pick 0 rfl (.drop 0 rfl (.drop 0 rfl (.refl)))))))
          · skip
            refine P_h rfl rfl (Wh_store rfl rfl rfl (.there (.there (.there (.here)))) (.put (.put (.put (.done)))) rfl (List.cons_ne_nil _ _) agg32.2 ?_) ?_
            rotate_left; exact P_stop
            refine P_x rfl (Wx_val (Ev_loadK rfl (i := 2) rfl rfl agg32) rfl ?_) ?_
            rotate_left; exact P_stop
            refine P_h rfl rfl (Wh_store rfl rfl rfl (.there (.there (.here))) (.put (.put (.put (.done)))) rfl (List.cons_ne_nil _ _) agg32.2 ?_) ?_
            rotate_left; exact P_stop
            refine P_x rfl (Wx_val (Ev_assign rfl) rfl ?_) ?_
            rotate_left; exact P_stop
            refine P_done ?_
            exact T_metP () () hx204 trivial (by exact .cons rfl (.cons rfl (.cons rfl (.nil)))) (by exact .pick 0 rfl (.pick 0 rfl (.pick 0 rfl (.pick 0 rfl (.drop 0 rfl (.drop 0 rfl (.refl)))))))
      · skip
        refine T_seq ?_
        refine T_reg ?_
        refine T_val (Ev_move rfl) rfl ?_
        refine T_val (Ev_len rfl 3 Try.underlying27) rfl ?_
        refine T_val (Ev_move rfl) rfl ?_
        refine T_nil ?_
        refine T_next ?_
        refine T_block ?_
        obtain ⟨t128, hl128, ho128⟩ := bnd_some hx57
        refine T_loopP (σ := (List Bool) × Int) (γ := (Option Addr) × Nat) hl128 (fun s128 y128 => [(2, .slice (A0_2) ((p2).length) (c0_2)), (3, .pointer (some ⟨g1, 0, none⟩)), (4, .pointer (some ⟨g2, 0, none⟩)), (6, .pointer (some ⟨g3, 0, none⟩)), (7, .pointer (some ⟨g4, 0, none⟩)), (12, .slice (y128.1) ((s128.1).length) (y128.2)), (43, .slice (A0_2) ((p2).length) (c0_2)), (44, .int .i64 ((((p2).length : Nat) : Int))), (45, .int .i64 (s128.2))]) (fun s128 y128 => [.r (y128.1) ((s128.1).length) (y128.2) 4 1 ((s128.1).flatMap e_bool), .m g4 32 [.bool (false), .slice (none) (0) (0), .slice (none) (0) (0)], .m g3 32 [.bool (false), .slice (none) (0) (0), .slice (none) (0) (0)], .m g2 26 [.int .i64 (p1.Raster.X0), .int .i64 (p1.Raster.Y0), .int .i64 (p1.Raster.Step), .int .i64 (p1.Raster.NX), .int .i64 (p1.Raster.NY), .slice (A0_1) ((p1.Cells).length) (c0_1)], .m g1 26 [.int .i64 (p0.Raster.X0), .int .i64 (p0.Raster.Y0), .int .i64 (p0.Raster.Step), .int .i64 (p0.Raster.NX), .int .i64 (p0.Raster.NY), .slice (A0_0) ((p0.Cells).length) (c0_0)]] ++ [.old w]) (fun s128 y128 => True) (A55, (List.replicate (Int.toNat ((((p0.Cells).length : Nat) : Int))) (false : Bool)).length) trivial (by exact .cons rfl (.cons rfl (.cons rfl (.cons rfl (.cons rfl (.cons rfl (.cons rfl (.cons rfl (.cons rfl (.nil)))))))))) (by exact .pick 0 rfl (.pick 0 rfl (.pick 0 rfl (.pick 0 rfl (.pick 0 rfl (.refl)))))) ?_
        intro s128 y128 hG128 x128 hx128 ht128
        unfold model_Amount_l12 at hx128
        refine T_seq ?_
        refine T_reg ?_
        refine T_val (Ev_lss rfl rfl) rfl ?_
        refine T_nil ?_
        refine T_next ?_
        refine T_seq ?_
        refine T_caseP (s := 46) rfl (fun h129 => ?_) (fun h129 => ?_)
        · have hx130 := ite_t h129 hx128
          refine T_condT rfl ?_
          refine T_skip ?_
          refine T_next ?_
          refine T_seq ?_
          refine T_block ?_
          refine T_seq ?_
          refine T_reg ?_
          obtain ⟨x132, h133, hx134⟩ := bnd_some hx130
          have hw142 := Has.low (E := []) ha2' hK
          obtain ⟨b135, o136, j137, hA138, hj139, hl140, hp141⟩ := Has.at_idx hw142 h133
          refine T_val (Ev_index rfl rfl hA138 (j := j137) hj139 hl140 slc27) rfl ?_
          refine T_val (Ev_loadP0 rfl hp141 (SubE.cons2 (i := 5) rfl (SubE.nil)) rfl one3) rfl ?_
          refine T_val (Ev_assign rfl) rfl ?_
          refine T_nil ?_
          refine T_next ?_
          refine T_seq ?_
          obtain ⟨j35, hj35, hx134⟩ := jn_some hx134
          refine T_cutP (τ := Bool) (γ := Unit) (J := j35) (out := x128) (fun s35 y35 => [(2, .slice (A0_2) ((p2).length) (c0_2)), (3, .pointer (some ⟨g1, 0, none⟩)), (4, .pointer (some ⟨g2, 0, none⟩)), (6, .pointer (some ⟨g3, 0, none⟩)), (7, .pointer (some ⟨g4, 0, none⟩)), (12, .slice (y128.1) ((s128.1).length) (y128.2)), (14, .int .i64 (x132)), (43, .slice (A0_2) ((p2).length) (c0_2)), (44, .int .i64 ((((p2).length : Nat) : Int))), (45, .int .i64 (s128.2)), (68, .bool (s35))]) (fun s35 y35 => [.r (y128.1) ((s128.1).length) (y128.2) 4 1 ((s128.1).flatMap e_bool), .m g4 32 [.bool (false), .slice (none) (0) (0), .slice (none) (0) (0)], .m g3 32 [.bool (false), .slice (none) (0) (0), .slice (none) (0) (0)], .m g2 26 [.int .i64 (p1.Raster.X0), .int .i64 (p1.Raster.Y0), .int .i64 (p1.Raster.Step), .int .i64 (p1.Raster.NX), .int .i64 (p1.Raster.NY), .slice (A0_1) ((p1.Cells).length) (c0_1)], .m g1 26 [.int .i64 (p0.Raster.X0), .int .i64 (p0.Raster.Y0), .int .i64 (p0.Raster.Step), .int .i64 (p0.Raster.NX), .int .i64 (p0.Raster.NY), .slice (A0_0) ((p0.Cells).length) (c0_0)]] ++ [.old w]) (fun s35 y35 => True) ?_ ?_
          · intro s35 y35 hx182 hG183
            subst hj35
            refine T_caseB (s := 68) rfl (fun h184 => ?_) (fun h184 => ?_)
            · have hx185 := ite_t h184 hx182
              refine T_condT rfl ?_
              refine T_seq ?_
              refine T_reg ?_
              refine T_val (Ev_build rfl (bld32_)) rfl ?_
              refine T_val (Ev_build rfl (bld32_)) rfl ?_
              refine T_h (Wh_store rfl rfl rfl (.there (.there (.here))) (.put (.put (.put (.done)))) rfl (List.cons_ne_nil _ _) agg32.2 ?_)
              refine T_h (Wh_store rfl rfl rfl (.there (.here)) (.put (.put (.put (.done)))) rfl (List.cons_ne_nil _ _) agg32.2 ?_)
              refine T_val (Ev_assign rfl) rfl ?_
              refine T_nil ?_
              refine T_next ?_
              refine T_retc ?_
              refine T_outR ?_
              refine T_inR ?_
              refine T_outR ?_
              obtain rfl := exit_eq ht128 hx185
              refine T_outR ?_
              refine T_inR ?_
              refine T_outR ?_
              refine T_none 0 1 ?_
              refine T_none 0 1 ?_
              obtain rfl := Option.some.inj ho128
              exact T_retP (rs := [.cell 6 32, .cell 7 32, .tmp 8]) Try.results19 (.cell rfl (i := 4) rfl rfl agg32 (.cell rfl (i := 3) rfl rfl agg32 (.tmp rfl (.nil)))) (Ln := [.r none 0 0 0 1 [], .r none 0 0 0 1 []]) ⟨none, 0, none, 0, none, 0, none, 0, (.r none 0 0 0 1 []), (.r none 0 0 0 1 []), rfl, rfl, Has.nil, Has.nil, Has.nil, Has.nil, trivial⟩ (loCons rfl (loCons rfl (loNil))) (by exact .pick 1 rfl (.pick 0 rfl (.drop 0 rfl (.drop 0 rfl (.drop 0 rfl (.drop 0 rfl (.drop 0 rfl (.refl))))))))
            · have hx186 := ite_bf h184 hx182
              refine T_condF rfl ?_
              refine T_skip ?_
              refine T_next ?_
              refine T_reg ?_
              refine T_val (Ev_move rfl) rfl ?_
              refine T_val (Ev_move rfl) rfl ?_
              obtain ⟨x187, h188, hx189⟩ := bnd_some hx186
              refine T_idxR (k := 0) rfl (by decide) (fun _ => rfl) h188 (fun b190 j192 hA193 hj194 hl195 hm197 hp196 => ?_)
              refine T_val (Ev_index rfl rfl hA193 (j := j192) hj194 hl195 slc37) rfl ?_
              refine T_h (Wh_storeP e_bool (s128.1) (x132) (true) rfl rfl rfl (.here) hA193 rfl hj194 hl195 (fun _ => rfl) (by decide) rfl one4.2 ?_)
              refine T_nil ?_
              refine T_inN ?_
              refine T_next ?_
              refine T_reg ?_
              refine T_val (Ev_add_w64 rfl rfl) rfl ?_
              refine T_val (Ev_move rfl) rfl ?_
              refine T_nil ?_
              have hn198 : (s128.1).length = (setI s128.1 x132 true).length := by simp [setI_len, cpy_len, List.length_append] <;> omega
              refine T_ent (.here) (e' := .r (y128.1) ((setI s128.1 x132 true).length) (y128.2) 4 1 ((setI s128.1 x132 true).flatMap e_bool)) (by first | (rw [← hn198]; done) | rfl) ?_
              refine T_slot (s := 12) (v' := .slice (y128.1) ((setI s128.1 x132 true).length) (y128.2)) rfl (by have hn199 : ((s128.1).length) = (setI s128.1 x132 true).length := (by simp [setI_len, cpy_len, List.length_append] <;> omega); first | (rw [← hn199]; done) | rfl) ?_
              exact T_roundP (setI s128.1 x132 true, w64 (s128.2 + 1)) (y128.1, y128.2) hx189 trivial (by exact .cons rfl (.cons rfl (.cons rfl (.cons rfl (.cons rfl (.cons rfl (.cons rfl (.cons rfl (.cons rfl (.nil)))))))))) (by exact .pick 0 rfl (.pick 0 rfl (.pick 0 rfl (.pick 0 rfl (.pick 0 rfl (.refl))))))
          · skip
            refine T_reg ?_
            refine T_val (Ev_move rfl) rfl ?_
            refine T_val (Ev_move rfl) rfl ?_
            obtain ⟨x143, h144, hx145⟩ := bnd_some hx134
            refine T_idxR (k := 0) rfl (by decide) (fun _ => rfl) h144 (fun b146 j148 hA149 hj150 hl151 hm153 hp152 => ?_)
            refine T_val (Ev_index rfl rfl hA149 (j := j148) hj150 hl151 slc37) rfl ?_
            refine T_val (Ev_loadP0 rfl hp152 (SubE.cons2 (i := 0) rfl (SubE.nil)) rfl one4) rfl ?_
            refine T_val (Ev_move rfl) rfl ?_
            refine T_caseB (s := 53) rfl (fun h154 => ?_) (fun h154 => ?_)
            · have hx155 := ite_t h154 hx145
              refine T_skipG rfl rfl rfl rfl rfl ?_
              refine T_skipG rfl rfl rfl rfl rfl ?_
              refine T_skipG rfl rfl rfl rfl rfl ?_
              refine T_skipG rfl rfl rfl rfl rfl ?_
              refine T_skipG rfl rfl rfl rfl rfl ?_
              refine T_skipG rfl rfl rfl rfl rfl ?_
              refine T_val (Ev_pickT rfl rfl) rfl ?_
              refine T_val (Ev_move rfl) rfl ?_
              refine T_skipG rfl rfl rfl rfl rfl ?_
              refine T_skipG rfl rfl rfl rfl rfl ?_
              refine T_skipG rfl rfl rfl rfl rfl ?_
              refine T_skipG rfl rfl rfl rfl rfl ?_
              refine T_skipG rfl rfl rfl rfl rfl ?_
              refine T_skipG rfl rfl rfl rfl rfl ?_
              refine T_val (Ev_pickT rfl rfl) rfl ?_
              refine T_nil ?_
              exact T_metP true () hx155 trivial (by exact .cons rfl (.cons rfl (.cons rfl (.cons rfl (.cons rfl (.cons rfl (.cons rfl (.cons rfl (.cons rfl (.cons rfl (.cons rfl (.nil)))))))))))) (by exact .pick 0 rfl (.pick 0 rfl (.pick 0 rfl (.pick 0 rfl (.pick 0 rfl (.refl))))))
            · have hx156 := ite_bf h154 hx145
              refine T_valG rfl rfl rfl (Ev_field rfl fld26_1 rfl) rfl ?_
              refine T_valG rfl rfl rfl (Ev_load1 rfl (i := 4) rfl rfl one24) rfl ?_
              refine T_valG rfl rfl rfl (Ev_move rfl) rfl ?_
              obtain ⟨x157, h158, hx159⟩ := bnd_some hx156
              have hw167 := Has.low (E := []) ha0' hK
              obtain ⟨b160, o161, j162, hA163, hj164, hl165, hp166⟩ := Has.at_idx hw167 h158
              refine T_valG rfl rfl rfl (Ev_index rfl rfl hA163 (j := j162) hj164 hl165 slc24) rfl ?_
              refine T_valG rfl rfl rfl (Ev_field rfl fld41_0 rfl) rfl ?_
              refine T_valG rfl rfl rfl (Ev_loadP1 (d := 0) rfl hp166 (SubE.cons2 (i := 5) rfl (SubE.nil)) rfl one4) rfl ?_
              refine T_val (Ev_pickF rfl rfl) rfl ?_
              refine T_val (Ev_move rfl) rfl ?_
              refine T_caseB (s := 61) rfl (fun h168 => ?_) (fun h168 => ?_)
              · have hx169 := ite_t h168 hx159
                refine T_skipG rfl rfl rfl rfl rfl ?_
                refine T_skipG rfl rfl rfl rfl rfl ?_
                refine T_skipG rfl rfl rfl rfl rfl ?_
                refine T_skipG rfl rfl rfl rfl rfl ?_
                refine T_skipG rfl rfl rfl rfl rfl ?_
                refine T_skipG rfl rfl rfl rfl rfl ?_
                refine T_val (Ev_pickT rfl rfl) rfl ?_
                refine T_nil ?_
                exact T_metP true () hx169 trivial (by exact .cons rfl (.cons rfl (.cons rfl (.cons rfl (.cons rfl (.cons rfl (.cons rfl (.cons rfl (.cons rfl (.cons rfl (.cons rfl (.nil)))))))))))) (by exact .pick 0 rfl (.pick 0 rfl (.pick 0 rfl (.pick 0 rfl (.pick 0 rfl (.refl))))))
              · have hx170 := ite_bf h168 hx159
                refine T_valG rfl rfl rfl (Ev_field rfl fld26_1 rfl) rfl ?_
                refine T_valG rfl rfl rfl (Ev_load1 rfl (i := 3) rfl rfl one24) rfl ?_
                refine T_valG rfl rfl rfl (Ev_move rfl) rfl ?_
                obtain ⟨x171, h172, hx173⟩ := bnd_some hx170
                have hw181 := Has.low (E := []) ha1' hK
                obtain ⟨b174, o175, j176, hA177, hj178, hl179, hp180⟩ := Has.at_idx hw181 h172
                refine T_valG rfl rfl rfl (Ev_index rfl rfl hA177 (j := j176) hj178 hl179 slc24) rfl ?_
                refine T_valG rfl rfl rfl (Ev_field rfl fld41_0 rfl) rfl ?_
                refine T_valG rfl rfl rfl (Ev_loadP1 (d := 0) rfl hp180 (SubE.cons2 (i := 5) rfl (SubE.nil)) rfl one4) rfl ?_
                refine T_val (Ev_pickF rfl rfl) rfl ?_
                refine T_nil ?_
                exact T_metP x171.Void () hx173 trivial (by exact .cons rfl (.cons rfl (.cons rfl (.cons rfl (.cons rfl (.cons rfl (.cons rfl (.cons rfl (.cons rfl (.cons rfl (.cons rfl (.nil)))))))))))) (by exact .pick 0 rfl (.pick 0 rfl (.pick 0 rfl (.pick 0 rfl (.pick 0 rfl (.refl))))))
        · have hx131 := ite_f h129 hx128
          refine T_condF rfl ?_
          refine T_exit ?_
          refine T_outX ?_
          obtain rfl := exit_eq ht128 hx131
          refine T_outX ?_
          refine T_here ?_
          exact T_metP () () ho128 trivial (by exact .cons rfl (.cons rfl (.cons rfl (.cons rfl (.cons rfl (.nil)))))) (by exact .pick 1 rfl (.pick 1 rfl (.pick 1 rfl (.pick 1 rfl (.drop 0 rfl (.refl))))))
    · skip
      refine T_seq ?_
      refine T_reg ?_
      refine T_val (Ev_move rfl) rfl ?_
      refine T_val (Ev_len rfl 3 Try.underlying27) rfl ?_
      refine T_val (Ev_move rfl) rfl ?_
      refine T_nil ?_
      refine T_next ?_
      refine T_block ?_
      obtain ⟨t32, hl32, ho32⟩ := bnd_some hx10
      refine T_loopP (σ := Int) (γ := Unit) hl32 (fun s32 y32 => [(2, .slice (A0_2) ((p2).length) (c0_2)), (3, .pointer (some ⟨g1, 0, none⟩)), (4, .pointer (some ⟨g2, 0, none⟩)), (6, .pointer (some ⟨g3, 0, none⟩)), (7, .pointer (some ⟨g4, 0, none⟩)), (23, .slice (A0_2) ((p2).length) (c0_2)), (24, .int .i64 ((((p2).length : Nat) : Int))), (25, .int .i64 (s32))]) (fun s32 y32 => [.m g4 32 [.bool (false), .slice (none) (0) (0), .slice (none) (0) (0)], .m g3 32 [.bool (false), .slice (none) (0) (0), .slice (none) (0) (0)], .m g2 26 [.int .i64 (p1.Raster.X0), .int .i64 (p1.Raster.Y0), .int .i64 (p1.Raster.Step), .int .i64 (p1.Raster.NX), .int .i64 (p1.Raster.NY), .slice (A0_1) ((p1.Cells).length) (c0_1)], .m g1 26 [.int .i64 (p0.Raster.X0), .int .i64 (p0.Raster.Y0), .int .i64 (p0.Raster.Step), .int .i64 (p0.Raster.NX), .int .i64 (p0.Raster.NY), .slice (A0_0) ((p0.Cells).length) (c0_0)]] ++ [.old w]) (fun s32 y32 => True) () trivial (by exact .cons rfl (.cons rfl (.cons rfl (.cons rfl (.cons rfl (.cons rfl (.cons rfl (.cons rfl (.nil))))))))) (by exact .pick 0 rfl (.pick 0 rfl (.pick 0 rfl (.pick 0 rfl (.refl))))) ?_
      intro s32 y32 hG32 x32 hx32 ht32
      unfold model_Amount_l5 at hx32
      refine T_seq ?_
      refine T_reg ?_
      refine T_val (Ev_lss rfl rfl) rfl ?_
      refine T_nil ?_
      refine T_next ?_
      refine T_seq ?_
      refine T_caseP (s := 26) rfl (fun h33 => ?_) (fun h33 => ?_)
      · have hx34 := ite_t h33 hx32
        refine T_condT rfl ?_
        refine T_skip ?_
        refine T_next ?_
        refine T_seq ?_
        refine T_block ?_
        refine T_seq ?_
        refine T_reg ?_
        obtain ⟨x36, h37, hx38⟩ := bnd_some hx34
        have hw46 := Has.low (E := []) ha2' hK
        obtain ⟨b39, o40, j41, hA42, hj43, hl44, hp45⟩ := Has.at_idx hw46 h37
        refine T_val (Ev_index rfl rfl hA42 (j := j41) hj43 hl44 slc27) rfl ?_
        refine T_val (Ev_loadP0 rfl hp45 (SubE.cons2 (i := 4) rfl (SubE.nil)) rfl one3) rfl ?_
        refine T_val (Ev_assign rfl) rfl ?_
        refine T_nil ?_
        refine T_next ?_
        refine T_seq ?_
        refine T_reg ?_
        refine T_val (Ev_move rfl) rfl ?_
        refine T_val (Ev_field rfl fld26_1 rfl) rfl ?_
        refine T_val (Ev_load1 rfl (i := 3) rfl rfl one24) rfl ?_
        refine T_val (Ev_len rfl 41 Try.underlying24) rfl ?_
        refine T_val (Ev_sub_w64 rfl rfl) rfl ?_
        obtain ⟨r47, h48, hx49⟩ := bnd_some hx38
        refine T_x (Wx_callL rfl (fun w1 hw1 => model_within_ok 0 x36 (w64 (((((p0.Cells).length : Nat) : Int)) - 1))  h48 w1) rfl ?_)
        rintro _ _ hlo ⟨rfl, rfl, -⟩
        refine T_app0 ?_
        refine T_val (Ev_not rfl) rfl ?_
        refine T_nil ?_
        refine T_next ?_
        refine T_caseNB (s := 35) rfl (fun h50 => ?_) (fun h50 => ?_)
        · have hx51 := ite_bf h50 hx49
          refine T_condT rfl ?_
          refine T_seq ?_
          refine T_reg ?_
          refine T_val (Ev_build rfl (bld32_)) rfl ?_
          refine T_val (Ev_build rfl (bld32_)) rfl ?_
          refine T_h (Wh_store rfl rfl rfl (.there (.here)) (.put (.put (.put (.done)))) rfl (List.cons_ne_nil _ _) agg32.2 ?_)
          refine T_h (Wh_store rfl rfl rfl (.here) (.put (.put (.put (.done)))) rfl (List.cons_ne_nil _ _) agg32.2 ?_)
          refine T_val (Ev_assign rfl) rfl ?_
          refine T_nil ?_
          refine T_next ?_
          refine T_retc ?_
          refine T_inR ?_
          refine T_outR ?_
          obtain rfl := exit_eq ht32 hx51
          refine T_outR ?_
          refine T_inR ?_
          refine T_outR ?_
          refine T_none 0 1 ?_
          refine T_none 0 1 ?_
          obtain rfl := Option.some.inj ho32
          exact T_retP (rs := [.cell 6 32, .cell 7 32, .tmp 8]) Try.results19 (.cell rfl (i := 3) rfl rfl agg32 (.cell rfl (i := 2) rfl rfl agg32 (.tmp rfl (.nil)))) (Ln := [.r none 0 0 0 1 [], .r none 0 0 0 1 []]) ⟨none, 0, none, 0, none, 0, none, 0, (.r none 0 0 0 1 []), (.r none 0 0 0 1 []), rfl, rfl, Has.nil, Has.nil, Has.nil, Has.nil, trivial⟩ (loCons rfl (loCons rfl (loNil))) (by exact .pick 1 rfl (.pick 0 rfl (.drop 0 rfl (.drop 0 rfl (.drop 0 rfl (.drop 0 rfl (.refl)))))))
        · have hx52 := ite_t h50 hx49
          refine T_condF rfl ?_
          refine T_skip ?_
          refine T_inN ?_
          refine T_next ?_
          refine T_reg ?_
          refine T_val (Ev_add_w64 rfl rfl) rfl ?_
          refine T_val (Ev_move rfl) rfl ?_
          refine T_nil ?_
          exact T_roundP (w64 (s32 + 1)) () hx52 trivial (by exact .cons rfl (.cons rfl (.cons rfl (.cons rfl (.cons rfl (.cons rfl (.cons rfl (.cons rfl (.nil))))))))) (by exact .pick 0 rfl (.pick 0 rfl (.pick 0 rfl (.pick 0 rfl (.refl)))))
      · have hx35 := ite_f h33 hx32
        refine T_condF rfl ?_
        refine T_exit ?_
        refine T_outX ?_
        obtain rfl := exit_eq ht32 hx35
        refine T_outX ?_
        refine T_here ?_
        exact T_metP () () ho32 trivial (by exact .cons rfl (.cons rfl (.cons rfl (.cons rfl (.cons rfl (.nil)))))) (by exact .pick 0 rfl (.pick 0 rfl (.pick 0 rfl (.pick 0 rfl (.refl)))))
end Go.Proofs.Ytjhknbpiaikblaa
