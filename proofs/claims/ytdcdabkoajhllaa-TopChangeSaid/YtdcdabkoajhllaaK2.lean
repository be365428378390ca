/- Walks of the program, with their plain functions: natural numbers. -/
import Derived.Test.YtdcdabkoajhllaaK1
namespace Go.Proofs.Ytdcdabkoajhllaa
open Go Go.RowKit
theorem slc72 : SliceOf Try.prog 72 27 1 := .mk Try.underlying72 (show Try.prog.info? 27 = some Try.t27 from by kernel_rfl) (by kernel_rfl)
theorem one27 : OneOf Try.prog 27 := .mk Try.underlying27 rfl (show Try.prog.info? 27 = some Try.t27 from by kernel_rfl) (by kernel_rfl)
theorem fld51_1 : FieldOf Try.prog 51 1 1 := .mk Try.underlying51 rfl rfl (show Try.prog.info? 49 = some Try.t49 from by kernel_rfl) (show Try.t49.size = 1 from by kernel_rfl) rfl
theorem one49 : OneOf Try.prog 49 := .mk Try.underlying49 rfl (show Try.prog.info? 49 = some Try.t49 from by kernel_rfl) (by kernel_rfl)
theorem fld51_2 : FieldOf Try.prog 51 2 2 := .mk Try.underlying51 rfl rfl (show Try.prog.info? 49 = some Try.t49 from by kernel_rfl) (show Try.t49.size = 1 from by kernel_rfl) rfl
theorem slc90 : SliceOf Try.prog 90 51 3 := .mk Try.underlying90 (show Try.prog.info? 51 = some Try.t51 from by kernel_rfl) (by kernel_rfl)
theorem agg51 : AggOf Try.prog 51 3 := .mk Try.underlying51 rfl (show Try.prog.info? 51 = some Try.t51 from by kernel_rfl) (by kernel_rfl)
theorem zer51 : ZeroOf Try.prog 51 [.bool (false), .slice (none) (0) (0), .slice (none) (0) (0)] := ⟨_, Try.zeroValue51, rfl⟩
theorem bls72_2_0u321u32 (x0 : Int) (x1 : Int) : BuildSliceOf Try.prog 72 2 [(0, .int .u32 x0), (1, .int .u32 x1)] 27 [.int .u32 x0, .int .u32 x1] := fun w => by kernel_rfl
theorem zer74 : ZeroOf Try.prog 74 [.bool (false), .slice (none) (0) (0), .slice (none) (0) (0)] := ⟨_, Try.zeroValue74, rfl⟩
theorem fld74_1 : FieldOf Try.prog 74 1 1 := .mk Try.underlying74 rfl rfl (show Try.prog.info? 72 = some Try.t72 from by kernel_rfl) (show Try.t72.size = 1 from by kernel_rfl) rfl
theorem one72 : OneOf Try.prog 72 := .mk Try.underlying72 rfl (show Try.prog.info? 72 = some Try.t72 from by kernel_rfl) (by kernel_rfl)
theorem bls72_1_0u32 (x0 : Int) : BuildSliceOf Try.prog 72 1 [(0, .int .u32 x0)] 27 [.int .u32 x0] := fun w => by kernel_rfl
theorem bld74_0b1s2s (x0 : Bool) (x1 : Option Addr) (x2 : Nat) (x3 : Nat) (x4 : Option Addr) (x5 : Nat) (x6 : Nat) : BuildOf Try.prog 74 [(0, .bool x0), (1, .slice x1 x2 x3), (2, .slice x4 x5 x6)] [.bool x0, .slice x1 x2 x3, .slice x4 x5 x6] := fun w => by kernel_rfl
theorem agg74 : AggOf Try.prog 74 3 := .mk Try.underlying74 rfl (show Try.prog.info? 74 = some Try.t74 from by kernel_rfl) (by kernel_rfl)
theorem fld74_2 : FieldOf Try.prog 74 2 2 := .mk Try.underlying74 rfl rfl (show Try.prog.info? 72 = some Try.t72 from by kernel_rfl) (show Try.t72.size = 1 from by kernel_rfl) rfl
theorem fld74_0 : FieldOf Try.prog 74 0 0 := .mk Try.underlying74 rfl rfl (show Try.prog.info? 4 = some Try.t4 from by kernel_rfl) (show Try.t4.size = 1 from by kernel_rfl) rfl
def e_u32 (x : Int) : List Value := [.int .u32 (x)]
theorem e_u32_len (x : Int) : (e_u32 x).length = 1 := rfl
noncomputable def ratio_nat_norm_l1  : (List Int) → Option (Sum (List Int) (List Int)) := fun s25 =>
 jn (fun (s6 : Bool) =>
 if s6 = true then (gd (0 ≤ (w64 (((((s25).length : Nat) : Int)) - 1)) ∧ (w64 (((((s25).length : Nat) : Int)) - 1)) ≤ (((s25).length : Nat) : Int)) <|
 some (.inl (subl s25 0 (w64 (((((s25).length : Nat) : Int)) - 1)))))
 else (some (.inr s25)))
 (fun j6 => if 0 < ((((s25).length : Nat) : Int)) then (bnd (idx s25 (w64 (((((s25).length : Nat) : Int)) - 1))) fun x29 =>
 j6 (decide (x29 = 0)))
 else (j6 false))
noncomputable def ratio_nat_norm (p0 : List Int) : Option (List Int) :=
 jn (fun (s2 : List Int) =>
 some s2)
 (fun j2 => bnd (lfix (ratio_nat_norm_l1) p0) fun t25 =>
 j2 t25)
structure S_api_Rat where
  Neg : Bool
  Num : List Int
  Den : List Int
noncomputable def ratio_Large (p0 : S_api_Rat) : Option Bool :=
 jn (fun (s2 : Bool) =>
 some s2)
 (fun j2 => bnd (ratio_nat_norm p0.Num) fun r2 =>
 if 256 < ((((r2).length : Nat) : Int)) then (j2 true)
 else (bnd (ratio_nat_norm p0.Den) fun r12 =>
 j2 (decide (256 < ((((r12).length : Nat) : Int))))))
def n_api_Rat (K : List Ent) (x : S_api_Rat) (ys : List Value) : Prop := ∃ (A0 : Option Addr) (c0 : Nat) (A1 : Option Addr) (c1 : Nat), ys = [.bool (x.Neg), .slice (A0) ((x.Num).length) (c0), .slice (A1) ((x.Den).length) (c1)] ∧ Has K A0 (x.Num).length c0 1 e_u32 (x.Num) ∧ Has K A1 (x.Den).length c1 1 e_u32 (x.Den)
theorem n_api_Rat_mono {K L : List Ent} {x : S_api_Rat} {ys : List Value} (hK : SubE K L) (h : n_api_Rat K x ys) : n_api_Rat L x ys := by
  obtain ⟨A0, c0, A1, c1, h0, h1, h2⟩ := h
  exact ⟨A0, c0, A1, c1, h0, Has.up h1 hK, Has.up h2 hK⟩
noncomputable def exact_anyLarge_l2 (p0 : List S_api_Rat) : Int → Option (Sum Int (Sum Unit Bool)) := fun s31 =>
 if s31 < ((((p0).length : Nat) : Int)) then (bnd (idx p0 s31) fun x35 =>
 bnd (ratio_Large x35) fun r55 =>
 if r55 = true then (some (.inr (.inr (true))))
 else (some (.inl (w64 (s31 + 1)))))
 else (some (.inr (.inl ())))
noncomputable def exact_anyLarge (p0 : List S_api_Rat) : Option Bool :=
 jn (fun (s2 : Unit) =>
 some false)
 (fun j2 => bnd (lfix (exact_anyLarge_l2 p0) 0) fun t31 =>
 (match t31 with
 | (.inl z31) => j2 z31
 | (.inr (z31)) => some z31
 ))
noncomputable def ratio_natOf (p0 : Int) : Option (List Int) :=
 bnd (ratio_nat_norm ([wu32 (p0), wu32 (shr_ .u64 p0 32)])) fun r3 =>
 some r3
noncomputable def math_bits_Add32 (p0 : Int) (p1 : Int) (p2 : Int) : Option (Int × Int) :=
 some (wu32 (wu64 ((wu64 ((wu64 (p0)) + (wu64 (p1)))) + (wu64 (p2)))), wu32 (shr_ .u64 (wu64 ((wu64 ((wu64 (p0)) + (wu64 (p1)))) + (wu64 (p2)))) 32))
noncomputable def math_bits_Sub32 (p0 : Int) (p1 : Int) (p2 : Int) : Option (Int × Int) :=
 some (wu32 ((wu32 (p0 - p1)) - p2), shr_ .u32 (bit_or .u32 (bit_and .u32 (bit_xor .u32 (if IntKind.signed .u32 then -1 else IntKind.max .u32) p0) p1) (bit_and .u32 (bit_xor .u32 (if IntKind.signed .u32 then -1 else IntKind.max .u32) (bit_xor .u32 p0 p1)) (wu32 ((wu32 (p0 - p1)) - p2)))) 31)
noncomputable def ratio_nat_mul_l7 (p1 : List Int) (s108 : (List Int) × Int) (x112 : Int) : ((List Int) × Int × Int) → Option (Sum ((List Int) × Int × Int) ((List Int) × Int)) := fun s160 =>
 if s160.2.2 < ((((p1).length : Nat) : Int)) then (bnd (idx p1 s160.2.2) fun x164 =>
 bnd (idx s160.1 (w64 (s108.2 + s160.2.2))) fun x175 =>
 bnd (idx s160.1 (w64 (s108.2 + s160.2.2))) fun x186 =>
 some (.inl (setI s160.1 (w64 (s108.2 + s160.2.2)) (wu32 (wu64 ((wu64 ((wu64 ((wu64 (x112)) * (wu64 (x164)))) + (wu64 (x175)))) + s160.2.1))), shr_ .u64 (wu64 ((wu64 ((wu64 ((wu64 (x112)) * (wu64 (x164)))) + (wu64 (x175)))) + s160.2.1)) 32, w64 (s160.2.2 + 1))))
 else (some (.inr (s160.1, s160.2.1)))
noncomputable def ratio_nat_mul_l3 (p0 : List Int) (p1 : List Int) : ((List Int) × Int) → Option (Sum ((List Int) × Int) (List Int)) := fun s108 =>
 if s108.2 < ((((p0).length : Nat) : Int)) then (bnd (idx p0 s108.2) fun x112 =>
 jn (fun (s29 : (List Int) × Int) =>
 bnd (idx s29.1 (w64 (s108.2 + ((((p1).length : Nat) : Int))))) fun x201 =>
 some (.inl (setI s29.1 (w64 (s108.2 + ((((p1).length : Nat) : Int)))) (wu32 (s29.2)), w64 (s108.2 + 1))))
 (fun j29 => bnd (lfix (ratio_nat_mul_l7 p1 s108 x112) (s108.1, 0, 0)) fun t160 =>
 j29 t160))
 else (some (.inr s108.1))
noncomputable def ratio_nat_mul (p0 : List Int) (p1 : List Int) : Option (List Int) :=
 gd ((0 : Int) ≤ (w64 (((((p0).length : Nat) : Int)) + ((((p1).length : Nat) : Int)))) ∧ 4 * Int.toNat (w64 (((((p0).length : Nat) : Int)) + ((((p1).length : Nat) : Int)))) ≤ 140737488355328) <|
 jn (fun (s3 : List Int) =>
 bnd (ratio_nat_norm s3) fun r218 =>
 some r218)
 (fun j3 => bnd (lfix (ratio_nat_mul_l3 p0 p1) (List.replicate (Int.toNat (w64 (((((p0).length : Nat) : Int)) + ((((p1).length : Nat) : Int))))) (0 : Int), 0)) fun t108 =>
 j3 t108)
noncomputable def ratio_nat_cmp_l6 (p0 : List Int) (p1 : List Int) : Int → Option (Sum Int (Sum Unit Int)) := fun s61 =>
 if 0 ≤ s61 then (bnd (idx p0 s61) fun x65 =>
 bnd (idx p1 s61) fun x76 =>
 if x65 = x76 then (some (.inl (w64 (s61 - 1))))
 else (bnd (idx p0 s61) fun x89 =>
 bnd (idx p1 s61) fun x100 =>
 if x89 < x100 then (some (.inr (.inr (-1))))
 else (some (.inr (.inr (1))))))
 else (some (.inr (.inl ())))
noncomputable def ratio_nat_cmp (p0 : List Int) (p1 : List Int) : Option Int :=
 if ((((p0).length : Nat) : Int)) = ((((p1).length : Nat) : Int)) then (jn (fun (s8 : Unit) =>
 some 0)
 (fun j8 => bnd (lfix (ratio_nat_cmp_l6 p0 p1) (w64 (((((p0).length : Nat) : Int)) - 1))) fun t61 =>
 (match t61 with
 | (.inl z61) => j8 z61
 | (.inr (z61)) => some z61
 )))
 else (if ((((p0).length : Nat) : Int)) < ((((p1).length : Nat) : Int)) then (some (-1))
 else (some 1))
noncomputable def ratio_nat_add_l6 (s2 : (List Int) × (List Int)) : ((List Int) × Int × Int) → Option (Sum ((List Int) × Int × Int) ((List Int) × Int)) := fun s56 =>
 if s56.2.2 < ((((s2.1).length : Nat) : Int)) then (jn (fun (s20 : Int) =>
 bnd (idx s2.1 s56.2.2) fun x76 =>
 bnd (math_bits_Add32 x76 s20 s56.2.1) fun r87 =>
 bnd (idx s56.1 s56.2.2) fun x90 =>
 some (.inl (setI s56.1 s56.2.2 r87.1, r87.2, w64 (s56.2.2 + 1))))
 (fun j20 => if s56.2.2 < ((((s2.2).length : Nat) : Int)) then (bnd (idx s2.2 s56.2.2) fun x62 =>
 j20 x62)
 else (j20 0)))
 else (some (.inr (s56.1, s56.2.1)))
noncomputable def ratio_nat_add (p0 : List Int) (p1 : List Int) : Option (List Int) :=
 jn (fun (s2 : (List Int) × (List Int)) =>
 gd ((0 : Int) ≤ (w64 (((((s2.1).length : Nat) : Int)) + 1)) ∧ 4 * Int.toNat (w64 (((((s2.1).length : Nat) : Int)) + 1)) ≤ 140737488355328) <|
 jn (fun (s6 : (List Int) × Int) =>
 bnd (idx s6.1 ((((s2.1).length : Nat) : Int))) fun x105 =>
 bnd (ratio_nat_norm (setI s6.1 ((((s2.1).length : Nat) : Int)) s6.2)) fun r122 =>
 some r122)
 (fun j6 => bnd (lfix (ratio_nat_add_l6 s2) (List.replicate (Int.toNat (w64 (((((s2.1).length : Nat) : Int)) + 1))) (0 : Int), 0, 0)) fun t56 =>
 j6 t56))
 (fun j2 => if ((((p0).length : Nat) : Int)) < ((((p1).length : Nat) : Int)) then (j2 (p1, p0))
 else (j2 (p0, p1)))
noncomputable def ratio_nat_sub_l4 (p0 : List Int) (p1 : List Int) : ((List Int) × Int × Int) → Option (Sum ((List Int) × Int × Int) (List Int)) := fun s49 =>
 if s49.2.2 < ((((p0).length : Nat) : Int)) then (jn (fun (s18 : Int) =>
 bnd (idx p0 s49.2.2) fun x69 =>
 bnd (math_bits_Sub32 x69 s18 s49.2.1) fun r80 =>
 bnd (idx s49.1 s49.2.2) fun x83 =>
 some (.inl (setI s49.1 s49.2.2 r80.1, r80.2, w64 (s49.2.2 + 1))))
 (fun j18 => if s49.2.2 < ((((p1).length : Nat) : Int)) then (bnd (idx p1 s49.2.2) fun x55 =>
 j18 x55)
 else (j18 0)))
 else (some (.inr s49.1))
noncomputable def ratio_nat_sub (p0 : List Int) (p1 : List Int) : Option (List Int) :=
 gd ((0 : Int) ≤ ((((p0).length : Nat) : Int)) ∧ 4 * Int.toNat ((((p0).length : Nat) : Int)) ≤ 140737488355328) <|
 jn (fun (s4 : List Int) =>
 bnd (ratio_nat_norm s4) fun r100 =>
 some r100)
 (fun j4 => bnd (lfix (ratio_nat_sub_l4 p0 p1) (List.replicate (Int.toNat ((((p0).length : Nat) : Int))) (0 : Int), 0, 0)) fun t49 =>
 j4 t49)
noncomputable def ratio_nat_word_l4 (p0 : List Int) (p1 : Int) : ((List Int) × Int × Int) → Option (Sum ((List Int) × Int × Int) ((List Int) × Int)) := fun s34 =>
 if 0 ≤ s34.2.2 then (bnd (idx p0 s34.2.2) fun x38 =>
 gd ((wu64 (p1)) ≠ 0) <|
 bnd (idx s34.1 s34.2.2) fun x51 =>
 gd ((wu64 (p1)) ≠ 0) <|
 some (.inl (setI s34.1 s34.2.2 (wu32 (wu64 (Int.tdiv (bit_or .u64 (shl_ .u64 s34.2.1 32) (wu64 (x38))) (wu64 (p1))))), Int.tmod (bit_or .u64 (shl_ .u64 s34.2.1 32) (wu64 (x38))) (wu64 (p1)), w64 (s34.2.2 - 1))))
 else (some (.inr (s34.1, s34.2.1)))
noncomputable def ratio_nat_word (p0 : List Int) (p1 : Int) : Option ((List Int) × Int) :=
 gd ((0 : Int) ≤ ((((p0).length : Nat) : Int)) ∧ 4 * Int.toNat ((((p0).length : Nat) : Int)) ≤ 140737488355328) <|
 jn (fun (s4 : (List Int) × Int) =>
 bnd (ratio_nat_norm s4.1) fun r70 =>
 some (r70, wu32 (s4.2)))
 (fun j4 => bnd (lfix (ratio_nat_word_l4 p0 p1) (List.replicate (Int.toNat ((((p0).length : Nat) : Int))) (0 : Int), 0, w64 (((((p0).length : Nat) : Int)) - 1))) fun t34 =>
 j4 t34)
noncomputable def ratio_nat_div (p0 : List Int) (p1 : List Int) : Option ((List Int) × (List Int)) :=
 bnd (ratio_nat_cmp p0 p1) fun r1 =>
 if r1 < 0 then (some (([] : List Int), p0))
 else (if ((((p1).length : Nat) : Int)) = 1 then (bnd (idx p1 0) fun x9 =>
 bnd (ratio_nat_word p0 x9) fun r20 =>
 bnd (ratio_natOf (wu64 (r20.2))) fun r29 =>
 some (r20.1, r29))
 else (bnd (idx p1 (w64 (((((p1).length : Nat) : Int)) - 1))) fun x38 =>
 none))
noncomputable def ratio_nat_gcd_l1  : ((List Int) × (List Int)) → Option (Sum ((List Int) × (List Int)) (List Int)) := fun s45 =>
 if 0 < ((((s45.2).length : Nat) : Int)) then (bnd (ratio_nat_div s45.1 s45.2) fun r52 =>
 some (.inl (s45.2, r52.2)))
 else (some (.inr s45.1))
noncomputable def ratio_nat_gcd (p0 : List Int) (p1 : List Int) : Option (List Int) :=
 jn (fun (s2 : List Int) =>
 some s2)
 (fun j2 => bnd (lfix (ratio_nat_gcd_l1) (p0, p1)) fun t45 =>
 j2 t45)
structure S_ratio_Num where
  neg : Bool
  n : List Int
  d : List Int
noncomputable def ratio_Num_Reduced (p0 : S_ratio_Num) : Option S_ratio_Num :=
 if ((((p0.n).length : Nat) : Int)) = 0 then (some (⟨false, [], [1]⟩ : S_ratio_Num))
 else (bnd (ratio_nat_gcd p0.n p0.d) fun r9 =>
 jn (fun (s7 : Bool) =>
 if s7 = true then (some p0)
 else (bnd (ratio_nat_div p0.n r9) fun r37 =>
 bnd (ratio_nat_div p0.d r9) fun r52 =>
 some (⟨p0.neg, r37.1, r52.1⟩ : S_ratio_Num)))
 (fun j7 => if ((((r9).length : Nat) : Int)) = 1 then (bnd (idx r9 0) fun x20 =>
 j7 (decide (x20 = 1)))
 else (j7 false)))
set_option maxRecDepth 100000 in
theorem ratio_nat_norm_ok (p0 : List Int) {K : List Ent} {A0_0 : Option Addr} {c0_0 : Nat} (ha0 : Has K A0_0 (p0).length c0_0 1 e_u32 (p0)) {r : List Int} (hx : ratio_nat_norm p0 = some r) (w : World) (hK : ∀ e ∈ K, Ent.ok w e) : CtL Try.prog 38 [.slice (A0_0) ((p0).length) (c0_0)] w fun v Ln => ∃ (A0 : Option Addr) (c0 : Nat), v = .slice (A0) ((r).length) (c0) ∧ Ln = [] ∧ Has (K ++ []) A0 (r).length c0 1 e_u32 (r) ∧ True := by
  have ha0' := Has.up0 ha0
  refine CtL.mk 21 Try.func38 rfl Try.ntmps38 (by kernel_rfl) rfl ?_
  show T 21 _ [(0, .slice (A0_0) ((p0).length) (c0_0))] _
  unfold ratio_nat_norm at hx
  refine T_seq ?_
  refine T_reg ?_
  refine T_val (Ev_assign rfl) rfl ?_
  refine T_nil ?_
  refine T_next ?_
  obtain ⟨j2, hj2, hx⟩ := jn_some hx
  refine T_cutP (τ := List Int) (γ := (Option Addr) × Nat) (J := j2) (out := r) (fun s2 y2 => [(0, .slice (y2.1) ((s2).length) (y2.2))]) (fun s2 y2 => [] ++ [.old w]) (fun s2 y2 => Has (K ++ []) (y2.1) ((s2).length) (y2.2) 1 e_u32 (s2) ∧ True) ?_ ?_
  · intro s2 y2 hx50 hG51
    obtain ⟨hs52, -⟩ := hG51
    subst hj2
    refine T_seq ?_
    refine T_reg ?_
    refine T_val (Ev_move rfl) rfl ?_
    refine T_val (Ev_assign rfl) rfl ?_
    refine T_nil ?_
    refine T_next ?_
    refine T_retc ?_
    obtain rfl := Option.some.inj hx50
    exact T_retP (rs := [.tmp 2]) Try.results38 (.tmp rfl (.nil)) (Ln := []) ⟨y2.1, y2.2, rfl, rfl, Has.len' hs52, trivial⟩ (loNil) (by exact .refl)
  · skip
    refine T_block ?_
    obtain ⟨t25, hl25, ho25⟩ := bnd_some hx
    refine T_loopP (σ := List Int) (γ := (Option Addr) × Nat) hl25 (fun s25 y25 => [(0, .slice (y25.1) ((s25).length) (y25.2))]) (fun s25 y25 => [] ++ [.old w]) (fun s25 y25 => Has (K ++ []) (y25.1) ((s25).length) (y25.2) 1 e_u32 (s25) ∧ True) (A0_0, c0_0) ((by exact ⟨Has.len' ha0', trivial⟩)) (by exact .cons rfl (.nil)) (by exact .refl) ?_
    intro s25 y25 hG25 x25 hx25 ht25
    unfold ratio_nat_norm_l1 at hx25
    obtain ⟨hs26, -⟩ := hG25
    refine T_seq ?_
    obtain ⟨j6, hj6, hx25⟩ := jn_some hx25
    refine T_cutP (τ := Bool) (γ := Unit) (J := j6) (out := x25) (fun s6 y6 => [(0, .slice (y25.1) ((s25).length) (y25.2)), (14, .bool (s6))]) (fun s6 y6 => [] ++ [.old w]) (fun s6 y6 => True) ?_ ?_
    · intro s6 y6 hx41 hG42
      subst hj6
      refine T_caseB (s := 14) rfl (fun h43 => ?_) (fun h43 => ?_)
      · have hx44 := ite_t h43 hx41
        refine T_condT rfl ?_
        refine T_skip ?_
        refine T_next ?_
        refine T_block ?_
        refine T_reg ?_
        refine T_val (Ev_move rfl) rfl ?_
        refine T_val (Ev_move rfl) rfl ?_
        refine T_val (Ev_len rfl 27 Try.underlying72) rfl ?_
        refine T_val (Ev_sub_w64 rfl rfl) rfl ?_
        obtain ⟨h47, hx48⟩ := gd_some hx44
        have hs46 := Has.subH hs26 h47.1 h47.2
        refine T_val (Ev_subH rfl rfl slc72 h47.1 (by have := Has.nc hs26; omega)) rfl ?_
        refine T_val (Ev_assign rfl) rfl ?_
        refine T_nil ?_
        refine T_inN ?_
        refine T_slot (s := 0) (v' := .slice (y25.1) ((subl s25 0 (w64 (((((s25).length : Nat) : Int)) - 1))).length) (y25.2)) rfl (by have hn49 : (Int.toNat (w64 (((((s25).length : Nat) : Int)) - 1))) = (subl s25 0 (w64 (((((s25).length : Nat) : Int)) - 1))).length := (Has.len hs46).symm; first | (rw [← hn49]; done) | rfl) ?_
        exact T_roundP (subl s25 0 (w64 (((((s25).length : Nat) : Int)) - 1))) (y25.1, y25.2) hx48 ((by exact ⟨Has.len' hs46, trivial⟩)) (by exact .cons rfl (.nil)) (by exact .refl)
      · have hx45 := ite_bf h43 hx41
        refine T_condF rfl ?_
        refine T_exit ?_
        refine T_outX ?_
        obtain rfl := exit_eq ht25 hx45
        refine T_outX ?_
        refine T_here ?_
        exact T_metP s25 (y25.1, y25.2) ho25 ((by exact ⟨Has.len' hs26, trivial⟩)) (by exact .cons rfl (.nil)) (by exact .refl)
    · skip
      refine T_reg ?_
      refine T_val (Ev_move rfl) rfl ?_
      refine T_val (Ev_len rfl 27 Try.underlying72) rfl ?_
      refine T_val (Ev_gtr rfl rfl) rfl ?_
      refine T_val (Ev_move rfl) rfl ?_
      refine T_caseP (s := 6) rfl (fun h27 => ?_) (fun h27 => ?_)
      · have hx28 := ite_t h27 hx25
        refine T_valG rfl rfl rfl (Ev_move rfl) rfl ?_
        refine T_valG rfl rfl rfl (Ev_move rfl) rfl ?_
        refine T_valG rfl rfl rfl (Ev_len rfl 27 Try.underlying72) rfl ?_
        refine T_valG rfl rfl rfl (Ev_sub_w64 rfl rfl) rfl ?_
        obtain ⟨x29, h30, hx31⟩ := bnd_some hx28
        have hw39 := Has.low (E := []) hs26 hK
        obtain ⟨b32, o33, j34, hA35, hj36, hl37, hp38⟩ := Has.at_idx hw39 h30
        refine T_valG rfl rfl rfl (Ev_index rfl rfl hA35 (j := j34) hj36 hl37 slc72) rfl ?_
        refine T_valG rfl rfl rfl (Ev_loadP0 rfl hp38 (SubE.cons2 (i := 0) rfl (SubE.nil)) rfl one27) rfl ?_
        refine T_valG rfl rfl rfl (Ev_eql rfl rfl) rfl ?_
        refine T_val (Ev_pickT rfl rfl) rfl ?_
        refine T_nil ?_
        exact T_metP (decide (x29 = 0)) () hx31 trivial (by exact .cons rfl (.cons rfl (.nil))) (by exact .refl)
      · have hx40 := ite_f h27 hx25
        refine T_skipG rfl rfl rfl rfl rfl ?_
        refine T_skipG rfl rfl rfl rfl rfl ?_
        refine T_skipG rfl rfl rfl rfl rfl ?_
        refine T_skipG rfl rfl rfl rfl rfl ?_
        refine T_skipG rfl rfl rfl rfl rfl ?_
        refine T_skipG rfl rfl rfl rfl rfl ?_
        refine T_skipG rfl rfl rfl rfl rfl ?_
        refine T_val (Ev_pickF rfl rfl) rfl ?_
        refine T_nil ?_
        exact T_metP false () hx40 trivial (by exact .cons rfl (.cons rfl (.nil))) (by exact .refl)
set_option maxRecDepth 100000 in
theorem ratio_Large_ok (p0 : S_api_Rat) {K : List Ent} {A0_0 : Option Addr} {c0_0 : Nat} {A0_1 : Option Addr} {c0_1 : Nat} (ha0 : Has K A0_0 (p0.Num).length c0_0 1 e_u32 (p0.Num)) (ha1 : Has K A0_1 (p0.Den).length c0_1 1 e_u32 (p0.Den)) {r : Bool} (hx : ratio_Large p0 = some r) (w : World) (hK : ∀ e ∈ K, Ent.ok w e) : CtL Try.prog 37 [.agg #[.bool (p0.Neg), .slice (A0_0) ((p0.Num).length) (c0_0), .slice (A0_1) ((p0.Den).length) (c0_1)]] w fun v Ln => v = .bool (r) ∧ Ln = [] ∧ True := by
  have ha0' := Has.up0 ha0
  have ha1' := Has.up0 ha1
  refine CtL.mk 15 Try.func37 rfl Try.ntmps37 (by kernel_rfl) rfl ?_
  show T 15 _ [(0, .agg #[.bool (p0.Neg), .slice (A0_0) ((p0.Num).length) (c0_0), .slice (A0_1) ((p0.Den).length) (c0_1)])] _
  unfold ratio_Large at hx
  refine T_seq ?_
  refine T_reg ?_
  refine T_x (Wx_box rfl rfl rfl (fun g1 => ?_))
  refine T_val (Ev_assign rfl) rfl ?_
  refine T_nil ?_
  refine T_next ?_
  obtain ⟨j2, hj2, hx⟩ := jn_some hx
  refine T_cutP (τ := Bool) (γ := Unit) (J := j2) (out := r) (fun s2 y2 => [(2, .bool (s2))]) (fun s2 y2 => [] ++ [.old w]) (fun s2 y2 => True) ?_ ?_
  · intro s2 y2 hx19 hG20
    subst hj2
    refine T_retc ?_
    obtain rfl := Option.some.inj hx19
    exact T_retP (rs := [.tmp 2]) Try.results37 (.tmp rfl (.nil)) (Ln := []) ⟨rfl, rfl, trivial⟩ (loNil) (by exact .refl)
  · skip
    refine T_reg ?_
    refine T_val (Ev_field rfl fld51_1 rfl) rfl ?_
    refine T_val (Ev_load1 rfl (i := 0) rfl rfl one49) rfl ?_
    obtain ⟨r2, h3, hx4⟩ := bnd_some hx
    refine T_x (Wx_callL rfl (fun w1 hw1 => ratio_nat_norm_ok p0.Num (Has.len' ha0') h3 w1 (okApp (K := K) (K2 := []) hK (by exact (SubE.cons2 (i := 1) rfl (SubE.nil))) (by exact (SubE.nil)) hw1)) rfl ?_)
    rintro _ _ hlo ⟨A5, c6, rfl, rfl, hs7, -⟩
    refine T_app0 ?_
    have hs8 : Has (K ++ []) _ _ _ _ _ _ := Has.assoc hs7
    refine T_val (Ev_len rfl 27 Try.underlying72) rfl ?_
    refine T_val (Ev_gtr rfl rfl) rfl ?_
    refine T_val (Ev_move rfl) rfl ?_
    refine T_caseP (s := 8) rfl (fun h9 => ?_) (fun h9 => ?_)
    · have hx10 := ite_t h9 hx4
      refine T_skipG rfl rfl rfl rfl rfl ?_
      refine T_skipG rfl rfl rfl rfl rfl ?_
      refine T_skipG rfl rfl rfl rfl rfl ?_
      refine T_skipG rfl rfl rfl rfl rfl ?_
      refine T_skipG rfl rfl rfl rfl rfl ?_
      refine T_val (Ev_pickT rfl rfl) rfl ?_
      refine T_val (Ev_assign rfl) rfl ?_
      refine T_nil ?_
      exact T_metP true () hx10 trivial (by exact .cons rfl (.nil)) (by exact .drop 0 rfl (.refl))
    · have hx11 := ite_f h9 hx4
      refine T_valG rfl rfl rfl (Ev_field rfl fld51_2 rfl) rfl ?_
      refine T_valG rfl rfl rfl (Ev_load1 rfl (i := 0) rfl rfl one49) rfl ?_
      obtain ⟨r12, h13, hx14⟩ := bnd_some hx11
      refine T_xG rfl rfl rfl (Wx_callL rfl (fun w1 hw1 => ratio_nat_norm_ok p0.Den (Has.len' ha1') h13 w1 (okApp (K := K) (K2 := []) hK (by exact (SubE.cons2 (i := 1) rfl (SubE.nil))) (by exact (SubE.nil)) hw1)) rfl ?_)
      rintro _ _ hlo ⟨A15, c16, rfl, rfl, hs17, -⟩
      refine T_app0 ?_
      have hs18 : Has (K ++ []) _ _ _ _ _ _ := Has.assoc hs17
      refine T_valG rfl rfl rfl (Ev_len rfl 27 Try.underlying72) rfl ?_
      refine T_valG rfl rfl rfl (Ev_gtr rfl rfl) rfl ?_
      refine T_val (Ev_pickF rfl rfl) rfl ?_
      refine T_val (Ev_assign rfl) rfl ?_
      refine T_nil ?_
      exact T_metP (decide (256 < ((((r12).length : Nat) : Int)))) () hx14 trivial (by exact .cons rfl (.nil)) (by exact .drop 0 rfl (.refl))
set_option maxRecDepth 100000 in
theorem exact_anyLarge_ok (p0 : List S_api_Rat) {K : List Ent} {A0_0 : Option Addr} {c0_0 : Nat} (ha0 : HasN K A0_0 (p0).length c0_0 3 n_api_Rat (p0)) {r : Bool} (hx : exact_anyLarge p0 = some r) (w : World) (hK : ∀ e ∈ K, Ent.ok w e) : CtL Try.prog 22 [.slice (A0_0) ((p0).length) (c0_0)] w fun v Ln => v = .bool (r) ∧ Ln = [] ∧ True := by
  have ha0' := HasN.up0 ha0
  refine CtL.mk 14 Try.func22 rfl Try.ntmps22 (by kernel_rfl) rfl ?_
  show T 14 _ [(0, .slice (A0_0) ((p0).length) (c0_0))] _
  unfold exact_anyLarge at hx
  refine T_seq ?_
  refine T_reg ?_
  refine T_val (Ev_assign rfl) rfl ?_
  refine T_nil ?_
  refine T_next ?_
  obtain ⟨j2, hj2, hx⟩ := jn_some hx
  refine T_cutP (τ := Unit) (γ := Unit) (J := j2) (out := r) (fun s2 y2 => []) (fun s2 y2 => [] ++ [.old w]) (fun s2 y2 => True) ?_ ?_
  · intro s2 y2 hx61 hG62
    subst hj2
    refine T_seq ?_
    refine T_reg ?_
    refine T_val (Ev_assign rfl) rfl ?_
    refine T_nil ?_
    refine T_next ?_
    refine T_retc ?_
    obtain rfl := Option.some.inj hx61
    exact T_retP (rs := [.tmp 2]) Try.results22 (.tmp rfl (.nil)) (Ln := []) ⟨rfl, rfl, trivial⟩ (loNil) (by exact .refl)
  · skip
    refine T_seq ?_
    refine T_reg ?_
    refine T_val (Ev_move rfl) rfl ?_
    refine T_val (Ev_len rfl 51 Try.underlying90) rfl ?_
    refine T_val (Ev_move rfl) rfl ?_
    refine T_nil ?_
    refine T_next ?_
    refine T_block ?_
    obtain ⟨t31, hl31, ho31⟩ := bnd_some hx
    refine T_loopP (σ := Int) (γ := Unit) hl31 (fun s31 y31 => [(5, .slice (A0_0) ((p0).length) (c0_0)), (6, .int .i64 ((((p0).length : Nat) : Int))), (7, .int .i64 (s31))]) (fun s31 y31 => [] ++ [.old w]) (fun s31 y31 => True) () trivial (by exact .cons rfl (.cons rfl (.cons rfl (.nil)))) (by exact .refl) ?_
    intro s31 y31 hG31 x31 hx31 ht31
    unfold exact_anyLarge_l2 at hx31
    refine T_seq ?_
    refine T_reg ?_
    refine T_val (Ev_lss rfl rfl) rfl ?_
    refine T_nil ?_
    refine T_next ?_
    refine T_seq ?_
    refine T_caseP (s := 8) rfl (fun h32 => ?_) (fun h32 => ?_)
    · have hx33 := ite_t h32 hx31
      refine T_condT rfl ?_
      refine T_skip ?_
      refine T_next ?_
      refine T_seq ?_
      refine T_block ?_
      refine T_seq ?_
      refine T_reg ?_
      obtain ⟨x35, h36, hx37⟩ := bnd_some hx33
      obtain ⟨b38, o39, j40, ys51, hA41, hj42, hl43, hp44, hr52⟩ := HasN.at_idx ha0' h36
      obtain ⟨A45, c46, A48, c49, rfl, hs47, hs50⟩ := hr52
      have hp53 := Pt.low (E := []) hp44 hK
      refine T_val (Ev_index rfl rfl hA41 (j := j40) hj42 hl43 slc90) rfl ?_
      refine T_val (Ev_loadPK0 rfl hp53 (SubE.cons2 (i := 0) rfl (SubE.nil)) rfl agg51) rfl ?_
      refine T_x (Wx_alloc zer51 rfl (fun g54 => ?_))
      refine T_h (Wh_store rfl rfl rfl (.here) (.put (.put (.put (.done)))) rfl (List.cons_ne_nil _ _) agg51.2 ?_)
      refine T_nil ?_
      refine T_next ?_
      refine T_seq ?_
      refine T_reg ?_
      refine T_val (Ev_loadK rfl (i := 0) rfl rfl agg51) rfl ?_
      obtain ⟨r55, h56, hx57⟩ := bnd_some hx37
      refine T_x (Wx_callL rfl (fun w1 hw1 => ratio_Large_ok x35 (Has.len' hs47) (Has.len' hs50) h56 w1 (okApp (K := K) (K2 := []) hK (by exact (SubE.cons2 (i := 1) rfl (SubE.nil))) (by exact (SubE.nil)) hw1)) rfl ?_)
      rintro _ _ hlo ⟨rfl, rfl, -⟩
      refine T_app0 ?_
      refine T_nil ?_
      refine T_next ?_
      refine T_caseB (s := 12) rfl (fun h58 => ?_) (fun h58 => ?_)
      · have hx59 := ite_t h58 hx57
        refine T_condT rfl ?_
        refine T_seq ?_
        refine T_reg ?_
        refine T_val (Ev_assign rfl) rfl ?_
        refine T_nil ?_
        refine T_next ?_
        refine T_retc ?_
        refine T_inR ?_
        refine T_outR ?_
        obtain rfl := exit_eq ht31 hx59
        refine T_outR ?_
        refine T_inR ?_
        refine T_outR ?_
        obtain rfl := Option.some.inj ho31
        exact T_retP (rs := [.tmp 2]) Try.results22 (.tmp rfl (.nil)) (Ln := []) ⟨rfl, rfl, trivial⟩ (loNil) (by exact .drop 0 rfl (.refl))
      · have hx60 := ite_bf h58 hx57
        refine T_condF rfl ?_
        refine T_skip ?_
        refine T_inN ?_
        refine T_next ?_
        refine T_reg ?_
        refine T_val (Ev_add_w64 rfl rfl) rfl ?_
        refine T_val (Ev_move rfl) rfl ?_
        refine T_nil ?_
        exact T_roundP (w64 (s31 + 1)) () hx60 trivial (by exact .cons rfl (.cons rfl (.cons rfl (.nil)))) (by exact .drop 0 rfl (.refl))
    · have hx34 := ite_f h32 hx31
      refine T_condF rfl ?_
      refine T_exit ?_
      refine T_outX ?_
      obtain rfl := exit_eq ht31 hx34
      refine T_outX ?_
      refine T_here ?_
      exact T_metP () () ho31 trivial (by exact .nil) (by exact .refl)
set_option maxRecDepth 100000 in
theorem ratio_natOf_ok (p0 : Int)  {r : List Int} (hx : ratio_natOf p0 = some r) (w : World) : CtL Try.prog 41 [.int .u64 (p0)] w fun v Ln => ∃ (A0 : Option Addr) (c0 : Nat) (e0 : Ent), v = .slice (A0) ((r).length) (c0) ∧ Ln = [e0] ∧ Has ([e0] : List Ent) A0 (r).length c0 1 e_u32 (r) ∧ True := by
  refine CtL.mk 10 Try.func41 rfl Try.ntmps41 (by kernel_rfl) rfl ?_
  show T 10 _ [(0, .int .u64 (p0))] _
  unfold ratio_natOf at hx
  refine T_seq ?_
  refine T_reg ?_
  refine T_val (Ev_assign rfl) rfl ?_
  refine T_nil ?_
  refine T_next ?_
  refine T_seq ?_
  refine T_reg ?_
  refine T_val (Ev_move rfl) rfl ?_
  refine T_val (Ev_conv_wu32 rfl (by kernel_rfl) Try.underlying27) rfl ?_
  refine T_val (Ev_move rfl) rfl ?_
  refine T_val (Ev_shrW rfl rfl (by decide)) rfl ?_
  refine T_val (Ev_conv_wu32 rfl (by kernel_rfl) Try.underlying27) rfl ?_
  refine T_x (Wx_buildSlice rfl (bls72_2_0u321u32 _ _) rfl (fun g1 => ?_))
  have hs2 : Has [.m g1 27 [.int .u32 (wu32 (p0)), .int .u32 (wu32 (shr_ .u64 p0 32))]] (some ⟨g1, 0, none⟩) 2 2 1 e_u32 [wu32 (p0), wu32 (shr_ .u64 p0 32)] := Has.ofM (fun _ _ => rfl) rfl (by decide) rfl
  obtain ⟨r3, h4, hx5⟩ := bnd_some hx
  refine T_x (Wx_callL rfl (fun w1 hw1 => ratio_nat_norm_ok ([wu32 (p0), wu32 (shr_ .u64 p0 32)]) (Has.len' hs2) h4 w1 (okAll (K := ([.m g1 27 [.int .u32 (wu32 (p0)), .int .u32 (wu32 (shr_ .u64 p0 32))]] : List Ent)) (by exact (SubE.cons2 (i := 0) rfl (SubE.nil))) hw1)) rfl ?_)
  rintro _ _ hlo ⟨A6, c7, rfl, rfl, hs8, -⟩
  refine T_app0 ?_
  refine T_val (Ev_assign rfl) rfl ?_
  refine T_nil ?_
  refine T_next ?_
  refine T_retc ?_
  obtain rfl := Option.some.inj hx5
  exact T_retP (rs := [.tmp 2]) Try.results41 (.tmp rfl (.nil)) (Ln := [.m g1 27 [.int .u32 (wu32 (p0)), .int .u32 (wu32 (shr_ .u64 p0 32))]]) ⟨A6, c7, (.m g1 27 [.int .u32 (wu32 (p0)), .int .u32 (wu32 (shr_ .u64 p0 32))]), rfl, rfl, Has.len' hs8, trivial⟩ (loCons rfl (loNil)) (by exact .pick 0 rfl (.refl))
set_option maxRecDepth 100000 in
theorem math_bits_Add32_ok (p0 : Int) (p1 : Int) (p2 : Int)  {r : Int × Int} (hx : math_bits_Add32 p0 p1 p2 = some r) (w : World) : CtL Try.prog 83 [.int .u32 (p0), .int .u32 (p1), .int .u32 (p2)] w fun v Ln => v = .tuple #[.int .u32 (r.1), .int .u32 (r.2)] ∧ Ln = [] ∧ True := by
  refine CtL.mk 22 Try.func83 rfl Try.ntmps83 (by kernel_rfl) rfl ?_
  show T 22 _ [(0, .int .u32 (p0)), (1, .int .u32 (p1)), (2, .int .u32 (p2))] _
  unfold math_bits_Add32 at hx
  refine T_seq ?_
  refine T_reg ?_
  refine T_val (Ev_assign rfl) rfl ?_
  refine T_val (Ev_assign rfl) rfl ?_
  refine T_nil ?_
  refine T_next ?_
  refine T_seq ?_
  refine T_reg ?_
  refine T_val (Ev_move rfl) rfl ?_
  refine T_val (Ev_conv_wu64 rfl (by kernel_rfl) Try.underlying96) rfl ?_
  refine T_val (Ev_move rfl) rfl ?_
  refine T_val (Ev_conv_wu64 rfl (by kernel_rfl) Try.underlying96) rfl ?_
  refine T_val (Ev_add_wu64 rfl rfl) rfl ?_
  refine T_val (Ev_move rfl) rfl ?_
  refine T_val (Ev_conv_wu64 rfl (by kernel_rfl) Try.underlying96) rfl ?_
  refine T_val (Ev_add_wu64 rfl rfl) rfl ?_
  refine T_val (Ev_assign rfl) rfl ?_
  refine T_nil ?_
  refine T_next ?_
  refine T_seq ?_
  refine T_reg ?_
  refine T_val (Ev_move rfl) rfl ?_
  refine T_val (Ev_conv_wu32 rfl (by kernel_rfl) Try.underlying27) rfl ?_
  refine T_val (Ev_assign rfl) rfl ?_
  refine T_nil ?_
  refine T_next ?_
  refine T_seq ?_
  refine T_reg ?_
  refine T_val (Ev_move rfl) rfl ?_
  refine T_val (Ev_shrW rfl rfl (by decide)) rfl ?_
  refine T_val (Ev_conv_wu32 rfl (by kernel_rfl) Try.underlying27) rfl ?_
  refine T_val (Ev_assign rfl) rfl ?_
  refine T_nil ?_
  refine T_next ?_
  refine T_retc ?_
  obtain rfl := Option.some.inj hx
  exact T_retP (rs := [.tmp 6, .tmp 7]) Try.results83 (.tmp rfl (.tmp rfl (.nil))) (Ln := []) ⟨rfl, rfl, trivial⟩ (loNil) (by exact .refl)
set_option maxRecDepth 100000 in
theorem math_bits_Sub32_ok (p0 : Int) (p1 : Int) (p2 : Int)  {r : Int × Int} (hx : math_bits_Sub32 p0 p1 p2 = some r) (w : World) : CtL Try.prog 84 [.int .u32 (p0), .int .u32 (p1), .int .u32 (p2)] w fun v Ln => v = .tuple #[.int .u32 (r.1), .int .u32 (r.2)] ∧ Ln = [] ∧ True := by
  refine CtL.mk 25 Try.func84 rfl Try.ntmps84 (by kernel_rfl) rfl ?_
  show T 25 _ [(0, .int .u32 (p0)), (1, .int .u32 (p1)), (2, .int .u32 (p2))] _
  unfold math_bits_Sub32 at hx
  refine T_seq ?_
  refine T_reg ?_
  refine T_val (Ev_assign rfl) rfl ?_
  refine T_val (Ev_assign rfl) rfl ?_
  refine T_nil ?_
  refine T_next ?_
  refine T_seq ?_
  refine T_reg ?_
  refine T_val (Ev_move rfl) rfl ?_
  refine T_val (Ev_move rfl) rfl ?_
  refine T_val (Ev_sub_wu32 rfl rfl) rfl ?_
  refine T_val (Ev_move rfl) rfl ?_
  refine T_val (Ev_sub_wu32 rfl rfl) rfl ?_
  refine T_val (Ev_assign rfl) rfl ?_
  refine T_nil ?_
  refine T_next ?_
  refine T_seq ?_
  refine T_reg ?_
  refine T_val (Ev_move rfl) rfl ?_
  refine T_val (Ev_xorW rfl) rfl ?_
  refine T_val (Ev_move rfl) rfl ?_
  refine T_val (Ev_bitW_and rfl rfl) rfl ?_
  refine T_val (Ev_move rfl) rfl ?_
  refine T_val (Ev_move rfl) rfl ?_
  refine T_val (Ev_bitW_xor rfl rfl) rfl ?_
  refine T_val (Ev_xorW rfl) rfl ?_
  refine T_val (Ev_move rfl) rfl ?_
  refine T_val (Ev_bitW_and rfl rfl) rfl ?_
  refine T_val (Ev_bitW_or rfl rfl) rfl ?_
  refine T_val (Ev_shrW rfl rfl (by decide)) rfl ?_
  refine T_val (Ev_assign rfl) rfl ?_
  refine T_nil ?_
  refine T_next ?_
  refine T_retc ?_
  obtain rfl := Option.some.inj hx
  exact T_retP (rs := [.tmp 6, .tmp 7]) Try.results84 (.tmp rfl (.tmp rfl (.nil))) (Ln := []) ⟨rfl, rfl, trivial⟩ (loNil) (by exact .refl)
set_option maxRecDepth 100000 in
theorem ratio_nat_mul_ok (p0 : List Int) (p1 : List Int) {K : List Ent} {A0_0 : Option Addr} {c0_0 : Nat} {A0_1 : Option Addr} {c0_1 : Nat} (ha0 : Has K A0_0 (p0).length c0_0 1 e_u32 (p0)) (ha1 : Has K A0_1 (p1).length c0_1 1 e_u32 (p1)) {r : List Int} (hx : ratio_nat_mul p0 p1 = some r) (w : World) (hK : ∀ e ∈ K, Ent.ok w e) : CtL Try.prog 40 [.slice (A0_0) ((p0).length) (c0_0), .slice (A0_1) ((p1).length) (c0_1)] w fun v Ln => ∃ (A0 : Option Addr) (c0 : Nat) (e0 : Ent), v = .slice (A0) ((r).length) (c0) ∧ Ln = [e0] ∧ Has (K ++ [e0]) A0 (r).length c0 1 e_u32 (r) ∧ True := by
  have ha0' := Has.up0 ha0
  have ha1' := Has.up0 ha1
  refine CtL.mk 68 Try.func40 rfl Try.ntmps40 (by kernel_rfl) rfl ?_
  show T 68 _ [(0, .slice (A0_0) ((p0).length) (c0_0)), (1, .slice (A0_1) ((p1).length) (c0_1))] _
  unfold ratio_nat_mul at hx
  refine T_seq ?_
  refine T_reg ?_
  refine T_val (Ev_assign rfl) rfl ?_
  refine T_nil ?_
  refine T_next ?_
  refine T_seq ?_
  refine T_reg ?_
  refine T_val (Ev_move rfl) rfl ?_
  refine T_val (Ev_len rfl 27 Try.underlying72) rfl ?_
  refine T_val (Ev_move rfl) rfl ?_
  refine T_val (Ev_len rfl 27 Try.underlying72) rfl ?_
  refine T_val (Ev_add_w64 rfl rfl) rfl ?_
  obtain ⟨h2, hx3⟩ := gd_some hx
  refine T_x (Wx_makeP e_u32 (0) (z := .int .u32 (0)) rfl rfl rfl h2.1 Try.underlying72 (show Try.prog.info? 27 = some Try.t27 from by kernel_rfl) (by kernel_rfl) rfl rfl (by kernel_rfl) (show 4 * _ ≤ _ from h2.2) (by decide) rfl (fun A1 => ?_))
  refine T_val (Ev_assign rfl) rfl ?_
  refine T_nil ?_
  refine T_next ?_
  obtain ⟨j3, hj3, hx3⟩ := jn_some hx3
  refine T_cutP (τ := List Int) (γ := (Option Addr) × Nat) (J := j3) (out := r) (fun s3 y3 => [(5, .slice (y3.1) ((s3).length) (y3.2))]) (fun s3 y3 => [.r (y3.1) ((s3).length) (y3.2) 27 1 ((s3).flatMap e_u32)] ++ [.old w]) (fun s3 y3 => True) ?_ ?_
  · intro s3 y3 hx214 hG215
    subst hj3
    refine T_seq ?_
    refine T_reg ?_
    refine T_val (Ev_move rfl) rfl ?_
    refine T_rowP (k := 0) rfl (by decide) (fun _ => rfl) (fun hn216 hs217 => ?_)
    obtain ⟨r218, h219, hx220⟩ := bnd_some hx214
    refine T_x (Wx_callL rfl (fun w1 hw1 => ratio_nat_norm_ok s3 (Has.len' hs217) h219 w1 (okAll (K := ([.r (y3.1) ((s3).length) (y3.2) 27 1 ((s3).flatMap e_u32)] : List Ent)) (by exact (SubE.cons2 (i := 0) rfl (SubE.nil))) hw1)) rfl ?_)
    rintro _ _ hlo ⟨A221, c222, rfl, rfl, hs223, -⟩
    refine T_app0 ?_
    refine T_val (Ev_assign rfl) rfl ?_
    refine T_nil ?_
    refine T_next ?_
    refine T_retc ?_
    obtain rfl := Option.some.inj hx220
    exact T_retP (rs := [.tmp 4]) Try.results40 (.tmp rfl (.nil)) (Ln := [.r (y3.1) ((s3).length) (y3.2) 27 1 ((s3).flatMap e_u32)]) ⟨A221, c222, (.r (y3.1) ((s3).length) (y3.2) 27 1 ((s3).flatMap e_u32)), rfl, rfl, Has.len' (Has.up (L := (K ++ [.r (y3.1) ((s3).length) (y3.2) 27 1 ((s3).flatMap e_u32)])) hs223 (SubE.appR2 (SubE.cons2 (i := 0) rfl (SubE.nil)))), trivial⟩ (loCons rfl (loNil)) (by exact .pick 0 rfl (.refl))
  · skip
    refine T_seq ?_
    refine T_reg ?_
    refine T_val (Ev_move rfl) rfl ?_
    refine T_val (Ev_len rfl 27 Try.underlying72) rfl ?_
    refine T_val (Ev_move rfl) rfl ?_
    refine T_nil ?_
    refine T_next ?_
    refine T_block ?_
    obtain ⟨t108, hl108, ho108⟩ := bnd_some hx3
    refine T_loopP (σ := (List Int) × Int) (γ := (Option Addr) × Nat) hl108 (fun s108 y108 => [(1, .slice (A0_1) ((p1).length) (c0_1)), (5, .slice (y108.1) ((s108.1).length) (y108.2)), (18, .slice (A0_0) ((p0).length) (c0_0)), (19, .int .i64 ((((p0).length : Nat) : Int))), (20, .int .i64 (s108.2))]) (fun s108 y108 => [.r (y108.1) ((s108.1).length) (y108.2) 27 1 ((s108.1).flatMap e_u32)] ++ [.old w]) (fun s108 y108 => True) (A1, (List.replicate (Int.toNat (w64 (((((p0).length : Nat) : Int)) + ((((p1).length : Nat) : Int))))) (0 : Int)).length) trivial (by exact .cons rfl (.cons rfl (.cons rfl (.cons rfl (.cons rfl (.nil)))))) (by exact .pick 0 rfl (.refl)) ?_
    intro s108 y108 hG108 x108 hx108 ht108
    unfold ratio_nat_mul_l3 at hx108
    refine T_seq ?_
    refine T_reg ?_
    refine T_val (Ev_lss rfl rfl) rfl ?_
    refine T_nil ?_
    refine T_next ?_
    refine T_seq ?_
    refine T_caseP (s := 21) rfl (fun h109 => ?_) (fun h109 => ?_)
    · have hx110 := ite_t h109 hx108
      refine T_condT rfl ?_
      refine T_skip ?_
      refine T_next ?_
      refine T_seq ?_
      refine T_block ?_
      refine T_seq ?_
      refine T_reg ?_
      refine T_val (Ev_move rfl) rfl ?_
      obtain ⟨x112, h113, hx114⟩ := bnd_some hx110
      have hw122 := Has.low (E := []) ha0' hK
      obtain ⟨b115, o116, j117, hA118, hj119, hl120, hp121⟩ := Has.at_idx hw122 h113
      refine T_val (Ev_index rfl rfl hA118 (j := j117) hj119 hl120 slc72) rfl ?_
      refine T_val (Ev_loadP0 rfl hp121 (SubE.cons2 (i := 1) rfl (SubE.nil)) rfl one27) rfl ?_
      refine T_val (Ev_assign rfl) rfl ?_
      refine T_val (Ev_assign rfl) rfl ?_
      refine T_nil ?_
      refine T_next ?_
      refine T_seq ?_
      refine T_reg ?_
      refine T_val (Ev_assign rfl) rfl ?_
      refine T_nil ?_
      refine T_next ?_
      obtain ⟨j29, hj29, hx114⟩ := jn_some hx114
      refine T_cutP (τ := (List Int) × Int) (γ := (Option Addr) × Nat) (J := j29) (out := x108) (fun s29 y29 => [(1, .slice (A0_1) ((p1).length) (c0_1)), (5, .slice (y29.1) ((s29.1).length) (y29.2)), (6, .int .i64 (s108.2)), (8, .int .u64 (s29.2)), (18, .slice (A0_0) ((p0).length) (c0_0)), (19, .int .i64 ((((p0).length : Nat) : Int))), (20, .int .i64 (s108.2))]) (fun s29 y29 => [.r (y29.1) ((s29.1).length) (y29.2) 27 1 ((s29.1).flatMap e_u32)] ++ [.old w]) (fun s29 y29 => True) ?_ ?_
      · intro s29 y29 hx199 hG200
        subst hj29
        refine T_reg ?_
        refine T_val (Ev_move rfl) rfl ?_
        refine T_val (Ev_move rfl) rfl ?_
        refine T_val (Ev_move rfl) rfl ?_
        refine T_val (Ev_len rfl 27 Try.underlying72) rfl ?_
        refine T_val (Ev_add_w64 rfl rfl) rfl ?_
        refine T_val (Ev_move rfl) rfl ?_
        refine T_val (Ev_conv_wu32 rfl (by kernel_rfl) Try.underlying27) rfl ?_
        obtain ⟨x201, h202, hx203⟩ := bnd_some hx199
        refine T_idxR (k := 0) rfl (by decide) (fun _ => rfl) h202 (fun b204 j206 hA207 hj208 hl209 hm211 hp210 => ?_)
        refine T_val (Ev_index rfl rfl hA207 (j := j206) hj208 hl209 slc72) rfl ?_
        refine T_h (Wh_storeP e_u32 (s29.1) (w64 (s108.2 + ((((p1).length : Nat) : Int)))) (wu32 (s29.2)) rfl rfl rfl (.here) hA207 rfl hj208 hl209 (fun _ => rfl) (by decide) rfl one27.2 ?_)
        refine T_nil ?_
        refine T_inN ?_
        refine T_next ?_
        refine T_reg ?_
        refine T_val (Ev_add_w64 rfl rfl) rfl ?_
        refine T_val (Ev_move rfl) rfl ?_
        refine T_nil ?_
        have hn212 : (s29.1).length = (setI s29.1 (w64 (s108.2 + ((((p1).length : Nat) : Int)))) (wu32 (s29.2))).length := by simp [setI_len, cpy_len, List.length_append] <;> omega
        refine T_ent (.here) (e' := .r (y29.1) ((setI s29.1 (w64 (s108.2 + ((((p1).length : Nat) : Int)))) (wu32 (s29.2))).length) (y29.2) 27 1 ((setI s29.1 (w64 (s108.2 + ((((p1).length : Nat) : Int)))) (wu32 (s29.2))).flatMap e_u32)) (by first | (rw [← hn212]; done) | rfl) ?_
        refine T_slot (s := 5) (v' := .slice (y29.1) ((setI s29.1 (w64 (s108.2 + ((((p1).length : Nat) : Int)))) (wu32 (s29.2))).length) (y29.2)) rfl (by have hn213 : ((s29.1).length) = (setI s29.1 (w64 (s108.2 + ((((p1).length : Nat) : Int)))) (wu32 (s29.2))).length := (by simp [setI_len, cpy_len, List.length_append] <;> omega); first | (rw [← hn213]; done) | rfl) ?_
        exact T_roundP (setI s29.1 (w64 (s108.2 + ((((p1).length : Nat) : Int)))) (wu32 (s29.2)), w64 (s108.2 + 1)) (y29.1, y29.2) hx203 trivial (by exact .cons rfl (.cons rfl (.cons rfl (.cons rfl (.cons rfl (.nil)))))) (by exact .pick 0 rfl (.refl))
      · skip
        refine T_seq ?_
        refine T_reg ?_
        refine T_val (Ev_move rfl) rfl ?_
        refine T_val (Ev_len rfl 27 Try.underlying72) rfl ?_
        refine T_val (Ev_move rfl) rfl ?_
        refine T_nil ?_
        refine T_next ?_
        refine T_block ?_
        obtain ⟨t160, hl160, ho160⟩ := bnd_some hx114
        refine T_loopP (σ := (List Int) × Int × Int) (γ := (Option Addr) × Nat) hl160 (fun s160 y160 => [(1, .slice (A0_1) ((p1).length) (c0_1)), (5, .slice (y160.1) ((s160.1).length) (y160.2)), (6, .int .i64 (s108.2)), (7, .int .u32 (x112)), (8, .int .u64 (s160.2.1)), (18, .slice (A0_0) ((p0).length) (c0_0)), (19, .int .i64 ((((p0).length : Nat) : Int))), (20, .int .i64 (s108.2)), (25, .slice (A0_1) ((p1).length) (c0_1)), (26, .int .i64 ((((p1).length : Nat) : Int))), (27, .int .i64 (s160.2.2))]) (fun s160 y160 => [.r (y160.1) ((s160.1).length) (y160.2) 27 1 ((s160.1).flatMap e_u32)] ++ [.old w]) (fun s160 y160 => True) (y108.1, y108.2) trivial (by exact .cons rfl (.cons rfl (.cons rfl (.cons rfl (.cons rfl (.cons rfl (.cons rfl (.cons rfl (.cons rfl (.cons rfl (.cons rfl (.nil)))))))))))) (by exact .pick 0 rfl (.refl)) ?_
        intro s160 y160 hG160 x160 hx160 ht160
        unfold ratio_nat_mul_l7 at hx160
        refine T_seq ?_
        refine T_reg ?_
        refine T_val (Ev_lss rfl rfl) rfl ?_
        refine T_nil ?_
        refine T_next ?_
        refine T_seq ?_
        refine T_caseP (s := 28) rfl (fun h161 => ?_) (fun h161 => ?_)
        · have hx162 := ite_t h161 hx160
          refine T_condT rfl ?_
          refine T_skip ?_
          refine T_next ?_
          refine T_seq ?_
          refine T_block ?_
          refine T_seq ?_
          refine T_reg ?_
          refine T_val (Ev_move rfl) rfl ?_
          obtain ⟨x164, h165, hx166⟩ := bnd_some hx162
          have hw174 := Has.low (E := []) ha1' hK
          obtain ⟨b167, o168, j169, hA170, hj171, hl172, hp173⟩ := Has.at_idx hw174 h165
          refine T_val (Ev_index rfl rfl hA170 (j := j169) hj171 hl172 slc72) rfl ?_
          refine T_val (Ev_loadP0 rfl hp173 (SubE.cons2 (i := 1) rfl (SubE.nil)) rfl one27) rfl ?_
          refine T_val (Ev_assign rfl) rfl ?_
          refine T_val (Ev_assign rfl) rfl ?_
          refine T_nil ?_
          refine T_next ?_
          refine T_seq ?_
          refine T_reg ?_
          refine T_val (Ev_move rfl) rfl ?_
          refine T_val (Ev_conv_wu64 rfl (by kernel_rfl) Try.underlying96) rfl ?_
          refine T_val (Ev_move rfl) rfl ?_
          refine T_val (Ev_conv_wu64 rfl (by kernel_rfl) Try.underlying96) rfl ?_
          refine T_val (Ev_mul_wu64 rfl rfl) rfl ?_
          refine T_val (Ev_move rfl) rfl ?_
          refine T_val (Ev_move rfl) rfl ?_
          refine T_val (Ev_move rfl) rfl ?_
          refine T_val (Ev_add_w64 rfl rfl) rfl ?_
          obtain ⟨x175, h176, hx177⟩ := bnd_some hx166
          refine T_idxR (k := 0) rfl (by decide) (fun _ => rfl) h176 (fun b178 j180 hA181 hj182 hl183 hm185 hp184 => ?_)
          refine T_val (Ev_index rfl rfl hA181 (j := j180) hj182 hl183 slc72) rfl ?_
          refine T_val (Ev_loadP0 rfl hp184 (SubE.cons2 (i := 0) rfl (SubE.nil)) rfl one27) rfl ?_
          refine T_val (Ev_conv_wu64 rfl (by kernel_rfl) Try.underlying96) rfl ?_
          refine T_val (Ev_add_wu64 rfl rfl) rfl ?_
          refine T_val (Ev_move rfl) rfl ?_
          refine T_val (Ev_add_wu64 rfl rfl) rfl ?_
          refine T_val (Ev_assign rfl) rfl ?_
          refine T_nil ?_
          refine T_next ?_
          refine T_seq ?_
          refine T_reg ?_
          refine T_val (Ev_move rfl) rfl ?_
          refine T_val (Ev_move rfl) rfl ?_
          refine T_val (Ev_move rfl) rfl ?_
          refine T_val (Ev_add_w64 rfl rfl) rfl ?_
          refine T_val (Ev_move rfl) rfl ?_
          refine T_val (Ev_conv_wu32 rfl (by kernel_rfl) Try.underlying27) rfl ?_
          obtain ⟨x186, h187, hx188⟩ := bnd_some hx177
          refine T_idxR (k := 0) rfl (by decide) (fun _ => rfl) h187 (fun b189 j191 hA192 hj193 hl194 hm196 hp195 => ?_)
          refine T_val (Ev_index rfl rfl hA192 (j := j191) hj193 hl194 slc72) rfl ?_
          refine T_h (Wh_storeP e_u32 (s160.1) (w64 (s108.2 + s160.2.2)) (wu32 (wu64 ((wu64 ((wu64 ((wu64 (x112)) * (wu64 (x164)))) + (wu64 (x175)))) + s160.2.1))) rfl rfl rfl (.here) hA192 rfl hj193 hl194 (fun _ => rfl) (by decide) rfl one27.2 ?_)
          refine T_nil ?_
          refine T_next ?_
          refine T_reg ?_
          refine T_val (Ev_move rfl) rfl ?_
          refine T_val (Ev_shrW rfl rfl (by decide)) rfl ?_
          refine T_val (Ev_assign rfl) rfl ?_
          refine T_nil ?_
          refine T_inN ?_
          refine T_next ?_
          refine T_reg ?_
          refine T_val (Ev_add_w64 rfl rfl) rfl ?_
          refine T_val (Ev_move rfl) rfl ?_
          refine T_nil ?_
          have hn197 : (s160.1).length = (setI s160.1 (w64 (s108.2 + s160.2.2)) (wu32 (wu64 ((wu64 ((wu64 ((wu64 (x112)) * (wu64 (x164)))) + (wu64 (x175)))) + s160.2.1)))).length := by simp [setI_len, cpy_len, List.length_append] <;> omega
          refine T_ent (.here) (e' := .r (y160.1) ((setI s160.1 (w64 (s108.2 + s160.2.2)) (wu32 (wu64 ((wu64 ((wu64 ((wu64 (x112)) * (wu64 (x164)))) + (wu64 (x175)))) + s160.2.1)))).length) (y160.2) 27 1 ((setI s160.1 (w64 (s108.2 + s160.2.2)) (wu32 (wu64 ((wu64 ((wu64 ((wu64 (x112)) * (wu64 (x164)))) + (wu64 (x175)))) + s160.2.1)))).flatMap e_u32)) (by first | (rw [← hn197]; done) | rfl) ?_
          refine T_slot (s := 5) (v' := .slice (y160.1) ((setI s160.1 (w64 (s108.2 + s160.2.2)) (wu32 (wu64 ((wu64 ((wu64 ((wu64 (x112)) * (wu64 (x164)))) + (wu64 (x175)))) + s160.2.1)))).length) (y160.2)) rfl (by have hn198 : ((s160.1).length) = (setI s160.1 (w64 (s108.2 + s160.2.2)) (wu32 (wu64 ((wu64 ((wu64 ((wu64 (x112)) * (wu64 (x164)))) + (wu64 (x175)))) + s160.2.1)))).length := (by simp [setI_len, cpy_len, List.length_append] <;> omega); first | (rw [← hn198]; done) | rfl) ?_
          exact T_roundP (setI s160.1 (w64 (s108.2 + s160.2.2)) (wu32 (wu64 ((wu64 ((wu64 ((wu64 (x112)) * (wu64 (x164)))) + (wu64 (x175)))) + s160.2.1))), shr_ .u64 (wu64 ((wu64 ((wu64 ((wu64 (x112)) * (wu64 (x164)))) + (wu64 (x175)))) + s160.2.1)) 32, w64 (s160.2.2 + 1)) (y160.1, y160.2) hx188 trivial (by exact .cons rfl (.cons rfl (.cons rfl (.cons rfl (.cons rfl (.cons rfl (.cons rfl (.cons rfl (.cons rfl (.cons rfl (.cons rfl (.nil)))))))))))) (by exact .pick 0 rfl (.refl))
        · have hx163 := ite_f h161 hx160
          refine T_condF rfl ?_
          refine T_exit ?_
          refine T_outX ?_
          obtain rfl := exit_eq ht160 hx163
          refine T_outX ?_
          refine T_here ?_
          exact T_metP (s160.1, s160.2.1) (y160.1, y160.2) ho160 trivial (by exact .cons rfl (.cons rfl (.cons rfl (.cons rfl (.cons rfl (.cons rfl (.cons rfl (.nil)))))))) (by exact .pick 0 rfl (.refl))
    · have hx111 := ite_f h109 hx108
      refine T_condF rfl ?_
      refine T_exit ?_
      refine T_outX ?_
      obtain rfl := exit_eq ht108 hx111
      refine T_outX ?_
      refine T_here ?_
      exact T_metP s108.1 (y108.1, y108.2) ho108 trivial (by exact .cons rfl (.nil)) (by exact .pick 0 rfl (.refl))
set_option maxRecDepth 100000 in
theorem ratio_nat_cmp_ok (p0 : List Int) (p1 : List Int) {K : List Ent} {A0_0 : Option Addr} {c0_0 : Nat} {A0_1 : Option Addr} {c0_1 : Nat} (ha0 : Has K A0_0 (p0).length c0_0 1 e_u32 (p0)) (ha1 : Has K A0_1 (p1).length c0_1 1 e_u32 (p1)) {r : Int} (hx : ratio_nat_cmp p0 p1 = some r) (w : World) (hK : ∀ e ∈ K, Ent.ok w e) : CtL Try.prog 69 [.slice (A0_0) ((p0).length) (c0_0), .slice (A0_1) ((p1).length) (c0_1)] w fun v Ln => v = .int .i64 (r) ∧ Ln = [] ∧ True := by
  have ha0' := Has.up0 ha0
  have ha1' := Has.up0 ha1
  refine CtL.mk 41 Try.func69 rfl Try.ntmps69 (by kernel_rfl) rfl ?_
  show T 41 _ [(0, .slice (A0_0) ((p0).length) (c0_0)), (1, .slice (A0_1) ((p1).length) (c0_1))] _
  unfold ratio_nat_cmp at hx
  refine T_seq ?_
  refine T_reg ?_
  refine T_val (Ev_assign rfl) rfl ?_
  refine T_nil ?_
  refine T_next ?_
  refine T_seq ?_
  refine T_seq ?_
  refine T_reg ?_
  refine T_val (Ev_move rfl) rfl ?_
  refine T_val (Ev_len rfl 27 Try.underlying72) rfl ?_
  refine T_val (Ev_move rfl) rfl ?_
  refine T_val (Ev_len rfl 27 Try.underlying72) rfl ?_
  refine T_val (Ev_neq rfl rfl) rfl ?_
  refine T_nil ?_
  refine T_next ?_
  refine T_caseNP (s := 10) rfl (fun h1 => ?_) (fun h1 => ?_)
  · have hx2 := ite_f h1 hx
    refine T_condT rfl ?_
    refine T_seq ?_
    refine T_seq ?_
    refine T_reg ?_
    refine T_val (Ev_move rfl) rfl ?_
    refine T_val (Ev_len rfl 27 Try.underlying72) rfl ?_
    refine T_val (Ev_move rfl) rfl ?_
    refine T_val (Ev_len rfl 27 Try.underlying72) rfl ?_
    refine T_val (Ev_lss rfl rfl) rfl ?_
    refine T_nil ?_
    refine T_next ?_
    refine T_caseP (s := 15) rfl (fun h3 => ?_) (fun h3 => ?_)
    · have hx4 := ite_t h3 hx2
      refine T_condT rfl ?_
      refine T_seq ?_
      refine T_reg ?_
      refine T_val (Ev_assign rfl) rfl ?_
      refine T_nil ?_
      refine T_next ?_
      refine T_retc ?_
      refine T_outR ?_
      refine T_outR ?_
      obtain rfl := Option.some.inj hx4
      exact T_retP (rs := [.tmp 4]) Try.results69 (.tmp rfl (.nil)) (Ln := []) ⟨rfl, rfl, trivial⟩ (loNil) (by exact .refl)
    · have hx5 := ite_f h3 hx2
      refine T_condF rfl ?_
      refine T_skip ?_
      refine T_next ?_
      refine T_seq ?_
      refine T_reg ?_
      refine T_val (Ev_assign rfl) rfl ?_
      refine T_nil ?_
      refine T_next ?_
      refine T_retc ?_
      refine T_outR ?_
      obtain rfl := Option.some.inj hx5
      exact T_retP (rs := [.tmp 4]) Try.results69 (.tmp rfl (.nil)) (Ln := []) ⟨rfl, rfl, trivial⟩ (loNil) (by exact .refl)
  · have hx6 := ite_t h1 hx
    refine T_condF rfl ?_
    refine T_skip ?_
    refine T_next ?_
    obtain ⟨j8, hj8, hx6⟩ := jn_some hx6
    refine T_cutP (τ := Unit) (γ := Unit) (J := j8) (out := r) (fun s8 y8 => []) (fun s8 y8 => [] ++ [.old w]) (fun s8 y8 => True) ?_ ?_
    · intro s8 y8 hx115 hG116
      subst hj8
      refine T_seq ?_
      refine T_reg ?_
      refine T_val (Ev_assign rfl) rfl ?_
      refine T_nil ?_
      refine T_next ?_
      refine T_retc ?_
      obtain rfl := Option.some.inj hx115
      exact T_retP (rs := [.tmp 4]) Try.results69 (.tmp rfl (.nil)) (Ln := []) ⟨rfl, rfl, trivial⟩ (loNil) (by exact .refl)
    · skip
      refine T_seq ?_
      refine T_reg ?_
      refine T_val (Ev_move rfl) rfl ?_
      refine T_val (Ev_len rfl 27 Try.underlying72) rfl ?_
      refine T_val (Ev_sub_w64 rfl rfl) rfl ?_
      refine T_val (Ev_assign rfl) rfl ?_
      refine T_nil ?_
      refine T_next ?_
      refine T_block ?_
      obtain ⟨t61, hl61, ho61⟩ := bnd_some hx6
      refine T_loopP (σ := Int) (γ := Unit) hl61 (fun s61 y61 => [(0, .slice (A0_0) ((p0).length) (c0_0)), (1, .slice (A0_1) ((p1).length) (c0_1)), (5, .int .i64 (s61))]) (fun s61 y61 => [] ++ [.old w]) (fun s61 y61 => True) () trivial (by exact .cons rfl (.cons rfl (.cons rfl (.nil)))) (by exact .refl) ?_
      intro s61 y61 hG61 x61 hx61 ht61
      unfold ratio_nat_cmp_l6 at hx61
      refine T_seq ?_
      refine T_seq ?_
      refine T_reg ?_
      refine T_val (Ev_move rfl) rfl ?_
      refine T_val (Ev_geq rfl rfl) rfl ?_
      refine T_nil ?_
      refine T_next ?_
      refine T_caseP (s := 20) rfl (fun h62 => ?_) (fun h62 => ?_)
      · have hx63 := ite_t h62 hx61
        refine T_condT rfl ?_
        refine T_skip ?_
        refine T_next ?_
        refine T_seq ?_
        refine T_block ?_
        refine T_seq ?_
        refine T_draw [0, 0, 0, 1, 0, 0, 0, 1, 0] [[], [], [0, 1], [0, 1, 2], [], [], [4, 5], [4, 5, 6], [0, 1, 2, 3, 4, 5, 6, 7]] (.q 0 (.q 1 (.q 2 (.q 3 (.q 4 (.q 5 (.q 6 (.q 7 (.q 8 (.done)))))))))) mixed (by kernel_rfl) (by kernel_rfl) ?_
        refine P_p rfl rfl (Ev_move rfl) rfl ?_
        refine P_p rfl rfl (Ev_move rfl) rfl ?_
        obtain ⟨x65, h66, hx67⟩ := bnd_some hx63
        have hw75 := Has.low (E := []) ha0' hK
        obtain ⟨b68, o69, j70, hA71, hj72, hl73, hp74⟩ := Has.at_idx hw75 h66
        refine P_p rfl rfl (Ev_index rfl rfl hA71 (j := j70) hj72 hl73 slc72) rfl ?_
        refine P_q rfl rfl (Ev_loadP0 rfl hp74 (SubE.cons2 (i := 0) rfl (SubE.nil)) rfl one27) rfl ?_
        refine P_p rfl rfl (Ev_move rfl) rfl ?_
        refine P_p rfl rfl (Ev_move rfl) rfl ?_
        obtain ⟨x76, h77, hx78⟩ := bnd_some hx67
        have hw86 := Has.low (E := []) ha1' hK
        obtain ⟨b79, o80, j81, hA82, hj83, hl84, hp85⟩ := Has.at_idx hw86 h77
        refine P_p rfl rfl (Ev_index rfl rfl hA82 (j := j81) hj83 hl84 slc72) rfl ?_
        refine P_q rfl rfl (Ev_loadP0 rfl hp85 (SubE.cons2 (i := 0) rfl (SubE.nil)) rfl one27) rfl ?_
        refine P_p rfl rfl (Ev_neq rfl rfl) rfl ?_
        refine P_done ?_
        refine T_next ?_
        refine T_caseNP (s := 31) rfl (fun h87 => ?_) (fun h87 => ?_)
        · have hx88 := ite_f h87 hx78
          refine T_condT rfl ?_
          refine T_seq ?_
          refine T_seq ?_
          refine T_draw [0, 0, 0, 1, 0, 0, 0, 1, 0] [[], [], [0, 1], [0, 1, 2], [], [], [4, 5], [4, 5, 6], [0, 1, 2, 3, 4, 5, 6, 7]] (.q 0 (.q 1 (.q 2 (.q 3 (.q 4 (.q 5 (.q 6 (.q 7 (.q 8 (.done)))))))))) mixed (by kernel_rfl) (by kernel_rfl) ?_
          refine P_p rfl rfl (Ev_move rfl) rfl ?_
          refine P_p rfl rfl (Ev_move rfl) rfl ?_
          obtain ⟨x89, h90, hx91⟩ := bnd_some hx88
          have hw99 := Has.low (E := []) ha0' hK
          obtain ⟨b92, o93, j94, hA95, hj96, hl97, hp98⟩ := Has.at_idx hw99 h90
          refine P_p rfl rfl (Ev_index rfl rfl hA95 (j := j94) hj96 hl97 slc72) rfl ?_
          refine P_q rfl rfl (Ev_loadP0 rfl hp98 (SubE.cons2 (i := 0) rfl (SubE.nil)) rfl one27) rfl ?_
          refine P_p rfl rfl (Ev_move rfl) rfl ?_
          refine P_p rfl rfl (Ev_move rfl) rfl ?_
          obtain ⟨x100, h101, hx102⟩ := bnd_some hx91
          have hw110 := Has.low (E := []) ha1' hK
          obtain ⟨b103, o104, j105, hA106, hj107, hl108, hp109⟩ := Has.at_idx hw110 h101
          refine P_p rfl rfl (Ev_index rfl rfl hA106 (j := j105) hj107 hl108 slc72) rfl ?_
          refine P_q rfl rfl (Ev_loadP0 rfl hp109 (SubE.cons2 (i := 0) rfl (SubE.nil)) rfl one27) rfl ?_
          refine P_p rfl rfl (Ev_lss rfl rfl) rfl ?_
          refine P_done ?_
          refine T_next ?_
          refine T_caseP (s := 40) rfl (fun h111 => ?_) (fun h111 => ?_)
          · have hx112 := ite_t h111 hx102
            refine T_condT rfl ?_
            refine T_seq ?_
            refine T_reg ?_
            refine T_val (Ev_assign rfl) rfl ?_
            refine T_nil ?_
            refine T_next ?_
            refine T_retc ?_
            refine T_outR ?_
            refine T_inR ?_
            refine T_outR ?_
            obtain rfl := exit_eq ht61 hx112
            refine T_outR ?_
            refine T_inR ?_
            refine T_outR ?_
            obtain rfl := Option.some.inj ho61
            exact T_retP (rs := [.tmp 4]) Try.results69 (.tmp rfl (.nil)) (Ln := []) ⟨rfl, rfl, trivial⟩ (loNil) (by exact .refl)
          · have hx113 := ite_f h111 hx102
            refine T_condF rfl ?_
            refine T_skip ?_
            refine T_next ?_
            refine T_seq ?_
            refine T_reg ?_
            refine T_val (Ev_assign rfl) rfl ?_
            refine T_nil ?_
            refine T_next ?_
            refine T_retc ?_
            refine T_inR ?_
            refine T_outR ?_
            obtain rfl := exit_eq ht61 hx113
            refine T_outR ?_
            refine T_inR ?_
            refine T_outR ?_
            obtain rfl := Option.some.inj ho61
            exact T_retP (rs := [.tmp 4]) Try.results69 (.tmp rfl (.nil)) (Ln := []) ⟨rfl, rfl, trivial⟩ (loNil) (by exact .refl)
        · have hx114 := ite_t h87 hx78
          refine T_condF rfl ?_
          refine T_skip ?_
          refine T_inN ?_
          refine T_next ?_
          refine T_reg ?_
          refine T_val (Ev_move rfl) rfl ?_
          refine T_val (Ev_sub_w64 rfl rfl) rfl ?_
          refine T_val (Ev_assign rfl) rfl ?_
          refine T_nil ?_
          exact T_roundP (w64 (s61 - 1)) () hx114 trivial (by exact .cons rfl (.cons rfl (.cons rfl (.nil)))) (by exact .refl)
      · have hx64 := ite_f h62 hx61
        refine T_condF rfl ?_
        refine T_exit ?_
        refine T_outX ?_
        obtain rfl := exit_eq ht61 hx64
        refine T_outX ?_
        refine T_here ?_
        exact T_metP () () ho61 trivial (by exact .nil) (by exact .refl)
set_option maxRecDepth 100000 in
theorem ratio_nat_add_ok (p0 : List Int) (p1 : List Int) {K : List Ent} {A0_0 : Option Addr} {c0_0 : Nat} {A0_1 : Option Addr} {c0_1 : Nat} (ha0 : Has K A0_0 (p0).length c0_0 1 e_u32 (p0)) (ha1 : Has K A0_1 (p1).length c0_1 1 e_u32 (p1)) {r : List Int} (hx : ratio_nat_add p0 p1 = some r) (w : World) (hK : ∀ e ∈ K, Ent.ok w e) : CtL Try.prog 75 [.slice (A0_0) ((p0).length) (c0_0), .slice (A0_1) ((p1).length) (c0_1)] w fun v Ln => ∃ (A0 : Option Addr) (c0 : Nat) (e0 : Ent), v = .slice (A0) ((r).length) (c0) ∧ Ln = [e0] ∧ Has (K ++ [e0]) A0 (r).length c0 1 e_u32 (r) ∧ True := by
  have ha0' := Has.up0 ha0
  have ha1' := Has.up0 ha1
  refine CtL.mk 54 Try.func75 rfl Try.ntmps75 (by kernel_rfl) rfl ?_
  show T 54 _ [(0, .slice (A0_0) ((p0).length) (c0_0)), (1, .slice (A0_1) ((p1).length) (c0_1))] _
  unfold ratio_nat_add at hx
  refine T_seq ?_
  refine T_reg ?_
  refine T_val (Ev_assign rfl) rfl ?_
  refine T_nil ?_
  refine T_next ?_
  obtain ⟨j2, hj2, hx⟩ := jn_some hx
  refine T_cutP (τ := (List Int) × (List Int)) (γ := (Option Addr) × Nat × (Option Addr) × Nat) (J := j2) (out := r) (fun s2 y2 => [(0, .slice (y2.1) ((s2.1).length) (y2.2.1)), (1, .slice (y2.2.2.1) ((s2.2).length) (y2.2.2.2))]) (fun s2 y2 => [] ++ [.old w]) (fun s2 y2 => Has (K ++ []) (y2.1) ((s2.1).length) (y2.2.1) 1 e_u32 (s2.1) ∧ Has (K ++ []) (y2.2.2.1) ((s2.2).length) (y2.2.2.2) 1 e_u32 (s2.2) ∧ True) ?_ ?_
  · intro s2 y2 hx4 hG5
    obtain ⟨hs6, hs7, -⟩ := hG5
    subst hj2
    refine T_seq ?_
    refine T_reg ?_
    refine T_val (Ev_move rfl) rfl ?_
    refine T_val (Ev_len rfl 27 Try.underlying72) rfl ?_
    refine T_val (Ev_add_w64 rfl rfl) rfl ?_
    obtain ⟨h9, hx10⟩ := gd_some hx4
    refine T_x (Wx_makeP e_u32 (0) (z := .int .u32 (0)) rfl rfl rfl h9.1 Try.underlying72 (show Try.prog.info? 27 = some Try.t27 from by kernel_rfl) (by kernel_rfl) rfl rfl (by kernel_rfl) (show 4 * _ ≤ _ from h9.2) (by decide) rfl (fun A8 => ?_))
    refine T_val (Ev_assign rfl) rfl ?_
    refine T_nil ?_
    refine T_next ?_
    refine T_seq ?_
    refine T_reg ?_
    refine T_val (Ev_assign rfl) rfl ?_
    refine T_nil ?_
    refine T_next ?_
    obtain ⟨j6, hj6, hx10⟩ := jn_some hx10
    refine T_cutP (τ := (List Int) × Int) (γ := (Option Addr) × Nat) (J := j6) (out := r) (fun s6 y6 => [(0, .slice (y2.1) ((s2.1).length) (y2.2.1)), (5, .slice (y6.1) ((s6.1).length) (y6.2)), (6, .int .u32 (s6.2))]) (fun s6 y6 => [.r (y6.1) ((s6.1).length) (y6.2) 27 1 ((s6.1).flatMap e_u32)] ++ [.old w]) (fun s6 y6 => True) ?_ ?_
    · intro s6 y6 hx103 hG104
      subst hj6
      refine T_seq ?_
      refine T_reg ?_
      refine T_val (Ev_move rfl) rfl ?_
      refine T_val (Ev_move rfl) rfl ?_
      refine T_val (Ev_len rfl 27 Try.underlying72) rfl ?_
      refine T_val (Ev_move rfl) rfl ?_
      obtain ⟨x105, h106, hx107⟩ := bnd_some hx103
      refine T_idxR (k := 0) rfl (by decide) (fun _ => rfl) h106 (fun b108 j110 hA111 hj112 hl113 hm115 hp114 => ?_)
      refine T_val (Ev_index rfl rfl hA111 (j := j110) hj112 hl113 slc72) rfl ?_
      refine T_h (Wh_storeP e_u32 (s6.1) ((((s2.1).length : Nat) : Int)) (s6.2) rfl rfl rfl (.here) hA111 rfl hj112 hl113 (fun _ => rfl) (by decide) rfl one27.2 ?_)
      refine T_nil ?_
      refine T_next ?_
      refine T_seq ?_
      refine T_reg ?_
      refine T_val (Ev_move rfl) rfl ?_
      have hn116 : (s6.1).length = (setI s6.1 ((((s2.1).length : Nat) : Int)) s6.2).length := by simp [setI_len, cpy_len, List.length_append] <;> omega
      refine T_ent (.here) (e' := .r (y6.1) ((setI s6.1 ((((s2.1).length : Nat) : Int)) s6.2).length) (y6.2) 27 1 ((setI s6.1 ((((s2.1).length : Nat) : Int)) s6.2).flatMap e_u32)) (by first | (rw [← hn116]; done) | rfl) ?_
      refine T_slot (s := 5) (v' := .slice (y6.1) ((setI s6.1 ((((s2.1).length : Nat) : Int)) s6.2).length) (y6.2)) rfl (by have hn117 : ((s6.1).length) = (setI s6.1 ((((s2.1).length : Nat) : Int)) s6.2).length := (by simp [setI_len, cpy_len, List.length_append] <;> omega); first | (rw [← hn117]; done) | rfl) ?_
      refine T_slot (s := 47) (v' := .slice (y6.1) ((setI s6.1 ((((s2.1).length : Nat) : Int)) s6.2).length) (y6.2)) rfl (by have hn118 : ((s6.1).length) = (setI s6.1 ((((s2.1).length : Nat) : Int)) s6.2).length := (by simp [setI_len, cpy_len, List.length_append] <;> omega); first | (rw [← hn118]; done) | rfl) ?_
      refine T_slot (s := 52) (v' := .slice (y6.1) ((setI s6.1 ((((s2.1).length : Nat) : Int)) s6.2).length) (y6.2)) rfl (by have hn119 : ((s6.1).length) = (setI s6.1 ((((s2.1).length : Nat) : Int)) s6.2).length := (by simp [setI_len, cpy_len, List.length_append] <;> omega); first | (rw [← hn119]; done) | rfl) ?_
      refine T_rowP (k := 0) rfl (by decide) (fun _ => rfl) (fun hn120 hs121 => ?_)
      obtain ⟨r122, h123, hx124⟩ := bnd_some hx107
      refine T_x (Wx_callL rfl (fun w1 hw1 => ratio_nat_norm_ok (setI s6.1 ((((s2.1).length : Nat) : Int)) s6.2) (Has.len' hs121) h123 w1 (okAll (K := ([.r (y6.1) ((setI s6.1 ((((s2.1).length : Nat) : Int)) s6.2).length) (y6.2) 27 1 ((setI s6.1 ((((s2.1).length : Nat) : Int)) s6.2).flatMap e_u32)] : List Ent)) (by exact (SubE.cons2 (i := 0) rfl (SubE.nil))) hw1)) rfl ?_)
      rintro _ _ hlo ⟨A125, c126, rfl, rfl, hs127, -⟩
      refine T_app0 ?_
      refine T_val (Ev_assign rfl) rfl ?_
      refine T_nil ?_
      refine T_next ?_
      refine T_retc ?_
      obtain rfl := Option.some.inj hx124
      exact T_retP (rs := [.tmp 4]) Try.results75 (.tmp rfl (.nil)) (Ln := [.r (y6.1) ((setI s6.1 ((((s2.1).length : Nat) : Int)) s6.2).length) (y6.2) 27 1 ((setI s6.1 ((((s2.1).length : Nat) : Int)) s6.2).flatMap e_u32)]) ⟨A125, c126, (.r (y6.1) ((setI s6.1 ((((s2.1).length : Nat) : Int)) s6.2).length) (y6.2) 27 1 ((setI s6.1 ((((s2.1).length : Nat) : Int)) s6.2).flatMap e_u32)), rfl, rfl, Has.len' (Has.up (L := (K ++ [.r (y6.1) ((setI s6.1 ((((s2.1).length : Nat) : Int)) s6.2).length) (y6.2) 27 1 ((setI s6.1 ((((s2.1).length : Nat) : Int)) s6.2).flatMap e_u32)])) hs127 (SubE.appR2 (SubE.cons2 (i := 0) rfl (SubE.nil)))), trivial⟩ (loCons rfl (loNil)) (by exact .pick 0 rfl (.refl))
    · skip
      refine T_seq ?_
      refine T_reg ?_
      refine T_val (Ev_move rfl) rfl ?_
      refine T_val (Ev_len rfl 27 Try.underlying72) rfl ?_
      refine T_val (Ev_move rfl) rfl ?_
      refine T_nil ?_
      refine T_next ?_
      refine T_block ?_
      obtain ⟨t56, hl56, ho56⟩ := bnd_some hx10
      refine T_loopP (σ := (List Int) × Int × Int) (γ := (Option Addr) × Nat) hl56 (fun s56 y56 => [(0, .slice (y2.1) ((s2.1).length) (y2.2.1)), (1, .slice (y2.2.2.1) ((s2.2).length) (y2.2.2.2)), (5, .slice (y56.1) ((s56.1).length) (y56.2)), (6, .int .u32 (s56.2.1)), (21, .int .i64 ((((s2.1).length : Nat) : Int))), (22, .int .i64 (s56.2.2))]) (fun s56 y56 => [.r (y56.1) ((s56.1).length) (y56.2) 27 1 ((s56.1).flatMap e_u32)] ++ [.old w]) (fun s56 y56 => True) (A8, (List.replicate (Int.toNat (w64 (((((s2.1).length : Nat) : Int)) + 1))) (0 : Int)).length) trivial (by exact .cons rfl (.cons rfl (.cons rfl (.cons rfl (.cons rfl (.cons rfl (.nil))))))) (by exact .pick 0 rfl (.refl)) ?_
      intro s56 y56 hG56 x56 hx56 ht56
      unfold ratio_nat_add_l6 at hx56
      refine T_seq ?_
      refine T_reg ?_
      refine T_val (Ev_lss rfl rfl) rfl ?_
      refine T_nil ?_
      refine T_next ?_
      refine T_seq ?_
      refine T_caseP (s := 23) rfl (fun h57 => ?_) (fun h57 => ?_)
      · have hx58 := ite_t h57 hx56
        refine T_condT rfl ?_
        refine T_skip ?_
        refine T_next ?_
        refine T_seq ?_
        refine T_block ?_
        refine T_seq ?_
        refine T_reg ?_
        refine T_val (Ev_move rfl) rfl ?_
        refine T_val (Ev_assign rfl) rfl ?_
        refine T_nil ?_
        refine T_next ?_
        refine T_seq ?_
        refine T_reg ?_
        refine T_val (Ev_assign rfl) rfl ?_
        refine T_nil ?_
        refine T_next ?_
        obtain ⟨j20, hj20, hx58⟩ := jn_some hx58
        refine T_cutP (τ := Int) (γ := Unit) (J := j20) (out := x56) (fun s20 y20 => [(0, .slice (y2.1) ((s2.1).length) (y2.2.1)), (1, .slice (y2.2.2.1) ((s2.2).length) (y2.2.2.2)), (5, .slice (y56.1) ((s56.1).length) (y56.2)), (6, .int .u32 (s56.2.1)), (7, .int .i64 (s56.2.2)), (8, .int .u32 (s20)), (21, .int .i64 ((((s2.1).length : Nat) : Int))), (22, .int .i64 (s56.2.2))]) (fun s20 y20 => [.r (y56.1) ((s56.1).length) (y56.2) 27 1 ((s56.1).flatMap e_u32)] ++ [.old w]) (fun s20 y20 => True) ?_ ?_
        · intro s20 y20 hx74 hG75
          subst hj20
          refine T_reg ?_
          refine T_val (Ev_move rfl) rfl ?_
          refine T_val (Ev_move rfl) rfl ?_
          refine T_val (Ev_move rfl) rfl ?_
          refine T_val (Ev_move rfl) rfl ?_
          obtain ⟨x76, h77, hx78⟩ := bnd_some hx74
          have hw86 := Has.low (E := []) hs6 hK
          obtain ⟨b79, o80, j81, hA82, hj83, hl84, hp85⟩ := Has.at_idx hw86 h77
          refine T_val (Ev_index rfl rfl hA82 (j := j81) hj83 hl84 slc72) rfl ?_
          refine T_val (Ev_loadP0 rfl hp85 (SubE.cons2 (i := 1) rfl (SubE.nil)) rfl one27) rfl ?_
          refine T_val (Ev_move rfl) rfl ?_
          refine T_val (Ev_move rfl) rfl ?_
          obtain ⟨r87, h88, hx89⟩ := bnd_some hx78
          refine T_x (Wx_callL rfl (fun w1 hw1 => math_bits_Add32_ok x76 s20 s56.2.1  h88 w1) rfl ?_)
          rintro _ _ hlo ⟨rfl, rfl, -⟩
          refine T_app0 ?_
          refine T_val (Ev_move rfl) rfl ?_
          refine T_val (Ev_extract rfl rfl) rfl ?_
          refine T_val (Ev_extract rfl rfl) rfl ?_
          obtain ⟨x90, h91, hx92⟩ := bnd_some hx89
          refine T_idxR (k := 0) rfl (by decide) (fun _ => rfl) h91 (fun b93 j95 hA96 hj97 hl98 hm100 hp99 => ?_)
          refine T_val (Ev_index rfl rfl hA96 (j := j95) hj97 hl98 slc72) rfl ?_
          refine T_h (Wh_storeP e_u32 (s56.1) (s56.2.2) (r87.1) rfl rfl rfl (.here) hA96 rfl hj97 hl98 (fun _ => rfl) (by decide) rfl one27.2 ?_)
          refine T_val (Ev_assign rfl) rfl ?_
          refine T_nil ?_
          refine T_inN ?_
          refine T_next ?_
          refine T_reg ?_
          refine T_val (Ev_add_w64 rfl rfl) rfl ?_
          refine T_val (Ev_move rfl) rfl ?_
          refine T_nil ?_
          have hn101 : (s56.1).length = (setI s56.1 s56.2.2 r87.1).length := by simp [setI_len, cpy_len, List.length_append] <;> omega
          refine T_ent (.here) (e' := .r (y56.1) ((setI s56.1 s56.2.2 r87.1).length) (y56.2) 27 1 ((setI s56.1 s56.2.2 r87.1).flatMap e_u32)) (by first | (rw [← hn101]; done) | rfl) ?_
          refine T_slot (s := 5) (v' := .slice (y56.1) ((setI s56.1 s56.2.2 r87.1).length) (y56.2)) rfl (by have hn102 : ((s56.1).length) = (setI s56.1 s56.2.2 r87.1).length := (by simp [setI_len, cpy_len, List.length_append] <;> omega); first | (rw [← hn102]; done) | rfl) ?_
          exact T_roundP (setI s56.1 s56.2.2 r87.1, r87.2, w64 (s56.2.2 + 1)) (y56.1, y56.2) hx92 trivial (by exact .cons rfl (.cons rfl (.cons rfl (.cons rfl (.cons rfl (.cons rfl (.nil))))))) (by exact .pick 0 rfl (.refl))
        · skip
          refine T_seq ?_
          refine T_reg ?_
          refine T_val (Ev_move rfl) rfl ?_
          refine T_val (Ev_move rfl) rfl ?_
          refine T_val (Ev_len rfl 27 Try.underlying72) rfl ?_
          refine T_val (Ev_lss rfl rfl) rfl ?_
          refine T_nil ?_
          refine T_next ?_
          refine T_caseP (s := 28) rfl (fun h60 => ?_) (fun h60 => ?_)
          · have hx61 := ite_t h60 hx58
            refine T_condT rfl ?_
            refine T_reg ?_
            refine T_val (Ev_move rfl) rfl ?_
            refine T_val (Ev_move rfl) rfl ?_
            obtain ⟨x62, h63, hx64⟩ := bnd_some hx61
            have hw72 := Has.low (E := []) hs7 hK
            obtain ⟨b65, o66, j67, hA68, hj69, hl70, hp71⟩ := Has.at_idx hw72 h63
            refine T_val (Ev_index rfl rfl hA68 (j := j67) hj69 hl70 slc72) rfl ?_
            refine T_val (Ev_loadP0 rfl hp71 (SubE.cons2 (i := 1) rfl (SubE.nil)) rfl one27) rfl ?_
            refine T_val (Ev_assign rfl) rfl ?_
            refine T_nil ?_
            exact T_metP x62 () hx64 trivial (by exact .cons rfl (.cons rfl (.cons rfl (.cons rfl (.cons rfl (.cons rfl (.cons rfl (.cons rfl (.nil))))))))) (by exact .pick 0 rfl (.refl))
          · have hx73 := ite_f h60 hx58
            refine T_condF rfl ?_
            refine T_skip ?_
            exact T_metP 0 () hx73 trivial (by exact .cons rfl (.cons rfl (.cons rfl (.cons rfl (.cons rfl (.cons rfl (.cons rfl (.cons rfl (.nil))))))))) (by exact .pick 0 rfl (.refl))
      · have hx59 := ite_f h57 hx56
        refine T_condF rfl ?_
        refine T_exit ?_
        refine T_outX ?_
        obtain rfl := exit_eq ht56 hx59
        refine T_outX ?_
        refine T_here ?_
        exact T_metP (s56.1, s56.2.1) (y56.1, y56.2) ho56 trivial (by exact .cons rfl (.cons rfl (.cons rfl (.nil)))) (by exact .pick 0 rfl (.refl))
  · skip
    refine T_seq ?_
    refine T_reg ?_
    refine T_val (Ev_move rfl) rfl ?_
    refine T_val (Ev_len rfl 27 Try.underlying72) rfl ?_
    refine T_val (Ev_move rfl) rfl ?_
    refine T_val (Ev_len rfl 27 Try.underlying72) rfl ?_
    refine T_val (Ev_lss rfl rfl) rfl ?_
    refine T_nil ?_
    refine T_next ?_
    refine T_caseP (s := 13) rfl (fun h1 => ?_) (fun h1 => ?_)
    · have hx2 := ite_t h1 hx
      refine T_condT rfl ?_
      refine T_reg ?_
      refine T_val (Ev_move rfl) rfl ?_
      refine T_val (Ev_move rfl) rfl ?_
      refine T_val (Ev_assign rfl) rfl ?_
      refine T_val (Ev_assign rfl) rfl ?_
      refine T_nil ?_
      exact T_metP (p1, p0) (A0_1, c0_1, A0_0, c0_0) hx2 ((by exact ⟨Has.len' ha1', Has.len' ha0', trivial⟩)) (by exact .cons rfl (.cons rfl (.nil))) (by exact .refl)
    · have hx3 := ite_f h1 hx
      refine T_condF rfl ?_
      refine T_skip ?_
      exact T_metP (p0, p1) (A0_0, c0_0, A0_1, c0_1) hx3 ((by exact ⟨Has.len' ha0', Has.len' ha1', trivial⟩)) (by exact .cons rfl (.cons rfl (.nil))) (by exact .refl)
set_option maxRecDepth 100000 in
theorem ratio_nat_sub_ok (p0 : List Int) (p1 : List Int) {K : List Ent} {A0_0 : Option Addr} {c0_0 : Nat} {A0_1 : Option Addr} {c0_1 : Nat} (ha0 : Has K A0_0 (p0).length c0_0 1 e_u32 (p0)) (ha1 : Has K A0_1 (p1).length c0_1 1 e_u32 (p1)) {r : List Int} (hx : ratio_nat_sub p0 p1 = some r) (w : World) (hK : ∀ e ∈ K, Ent.ok w e) : CtL Try.prog 76 [.slice (A0_0) ((p0).length) (c0_0), .slice (A0_1) ((p1).length) (c0_1)] w fun v Ln => ∃ (A0 : Option Addr) (c0 : Nat) (e0 : Ent), v = .slice (A0) ((r).length) (c0) ∧ Ln = [e0] ∧ Has (K ++ [e0]) A0 (r).length c0 1 e_u32 (r) ∧ True := by
  have ha0' := Has.up0 ha0
  have ha1' := Has.up0 ha1
  refine CtL.mk 41 Try.func76 rfl Try.ntmps76 (by kernel_rfl) rfl ?_
  show T 41 _ [(0, .slice (A0_0) ((p0).length) (c0_0)), (1, .slice (A0_1) ((p1).length) (c0_1))] _
  unfold ratio_nat_sub at hx
  refine T_seq ?_
  refine T_reg ?_
  refine T_val (Ev_assign rfl) rfl ?_
  refine T_nil ?_
  refine T_next ?_
  refine T_seq ?_
  refine T_reg ?_
  refine T_val (Ev_move rfl) rfl ?_
  refine T_val (Ev_len rfl 27 Try.underlying72) rfl ?_
  obtain ⟨h2, hx3⟩ := gd_some hx
  refine T_x (Wx_makeP e_u32 (0) (z := .int .u32 (0)) rfl rfl rfl h2.1 Try.underlying72 (show Try.prog.info? 27 = some Try.t27 from by kernel_rfl) (by kernel_rfl) rfl rfl (by kernel_rfl) (show 4 * _ ≤ _ from h2.2) (by decide) rfl (fun A1 => ?_))
  refine T_val (Ev_assign rfl) rfl ?_
  refine T_nil ?_
  refine T_next ?_
  refine T_seq ?_
  refine T_reg ?_
  refine T_val (Ev_assign rfl) rfl ?_
  refine T_nil ?_
  refine T_next ?_
  obtain ⟨j4, hj4, hx3⟩ := jn_some hx3
  refine T_cutP (τ := List Int) (γ := (Option Addr) × Nat) (J := j4) (out := r) (fun s4 y4 => [(5, .slice (y4.1) ((s4).length) (y4.2))]) (fun s4 y4 => [.r (y4.1) ((s4).length) (y4.2) 27 1 ((s4).flatMap e_u32)] ++ [.old w]) (fun s4 y4 => True) ?_ ?_
  · intro s4 y4 hx96 hG97
    subst hj4
    refine T_seq ?_
    refine T_reg ?_
    refine T_val (Ev_move rfl) rfl ?_
    refine T_rowP (k := 0) rfl (by decide) (fun _ => rfl) (fun hn98 hs99 => ?_)
    obtain ⟨r100, h101, hx102⟩ := bnd_some hx96
    refine T_x (Wx_callL rfl (fun w1 hw1 => ratio_nat_norm_ok s4 (Has.len' hs99) h101 w1 (okAll (K := ([.r (y4.1) ((s4).length) (y4.2) 27 1 ((s4).flatMap e_u32)] : List Ent)) (by exact (SubE.cons2 (i := 0) rfl (SubE.nil))) hw1)) rfl ?_)
    rintro _ _ hlo ⟨A103, c104, rfl, rfl, hs105, -⟩
    refine T_app0 ?_
    refine T_val (Ev_assign rfl) rfl ?_
    refine T_nil ?_
    refine T_next ?_
    refine T_retc ?_
    obtain rfl := Option.some.inj hx102
    exact T_retP (rs := [.tmp 4]) Try.results76 (.tmp rfl (.nil)) (Ln := [.r (y4.1) ((s4).length) (y4.2) 27 1 ((s4).flatMap e_u32)]) ⟨A103, c104, (.r (y4.1) ((s4).length) (y4.2) 27 1 ((s4).flatMap e_u32)), rfl, rfl, Has.len' (Has.up (L := (K ++ [.r (y4.1) ((s4).length) (y4.2) 27 1 ((s4).flatMap e_u32)])) hs105 (SubE.appR2 (SubE.cons2 (i := 0) rfl (SubE.nil)))), trivial⟩ (loCons rfl (loNil)) (by exact .pick 0 rfl (.refl))
  · skip
    refine T_seq ?_
    refine T_reg ?_
    refine T_val (Ev_move rfl) rfl ?_
    refine T_val (Ev_len rfl 27 Try.underlying72) rfl ?_
    refine T_val (Ev_move rfl) rfl ?_
    refine T_nil ?_
    refine T_next ?_
    refine T_block ?_
    obtain ⟨t49, hl49, ho49⟩ := bnd_some hx3
    refine T_loopP (σ := (List Int) × Int × Int) (γ := (Option Addr) × Nat) hl49 (fun s49 y49 => [(0, .slice (A0_0) ((p0).length) (c0_0)), (1, .slice (A0_1) ((p1).length) (c0_1)), (5, .slice (y49.1) ((s49.1).length) (y49.2)), (6, .int .u32 (s49.2.1)), (13, .int .i64 ((((p0).length : Nat) : Int))), (14, .int .i64 (s49.2.2))]) (fun s49 y49 => [.r (y49.1) ((s49.1).length) (y49.2) 27 1 ((s49.1).flatMap e_u32)] ++ [.old w]) (fun s49 y49 => True) (A1, (List.replicate (Int.toNat ((((p0).length : Nat) : Int))) (0 : Int)).length) trivial (by exact .cons rfl (.cons rfl (.cons rfl (.cons rfl (.cons rfl (.cons rfl (.nil))))))) (by exact .pick 0 rfl (.refl)) ?_
    intro s49 y49 hG49 x49 hx49 ht49
    unfold ratio_nat_sub_l4 at hx49
    refine T_seq ?_
    refine T_reg ?_
    refine T_val (Ev_lss rfl rfl) rfl ?_
    refine T_nil ?_
    refine T_next ?_
    refine T_seq ?_
    refine T_caseP (s := 15) rfl (fun h50 => ?_) (fun h50 => ?_)
    · have hx51 := ite_t h50 hx49
      refine T_condT rfl ?_
      refine T_skip ?_
      refine T_next ?_
      refine T_seq ?_
      refine T_block ?_
      refine T_seq ?_
      refine T_reg ?_
      refine T_val (Ev_move rfl) rfl ?_
      refine T_val (Ev_assign rfl) rfl ?_
      refine T_nil ?_
      refine T_next ?_
      refine T_seq ?_
      refine T_reg ?_
      refine T_val (Ev_assign rfl) rfl ?_
      refine T_nil ?_
      refine T_next ?_
      obtain ⟨j18, hj18, hx51⟩ := jn_some hx51
      refine T_cutP (τ := Int) (γ := Unit) (J := j18) (out := x49) (fun s18 y18 => [(0, .slice (A0_0) ((p0).length) (c0_0)), (1, .slice (A0_1) ((p1).length) (c0_1)), (5, .slice (y49.1) ((s49.1).length) (y49.2)), (6, .int .u32 (s49.2.1)), (7, .int .i64 (s49.2.2)), (8, .int .u32 (s18)), (13, .int .i64 ((((p0).length : Nat) : Int))), (14, .int .i64 (s49.2.2))]) (fun s18 y18 => [.r (y49.1) ((s49.1).length) (y49.2) 27 1 ((s49.1).flatMap e_u32)] ++ [.old w]) (fun s18 y18 => True) ?_ ?_
      · intro s18 y18 hx67 hG68
        subst hj18
        refine T_reg ?_
        refine T_val (Ev_move rfl) rfl ?_
        refine T_val (Ev_move rfl) rfl ?_
        refine T_val (Ev_move rfl) rfl ?_
        refine T_val (Ev_move rfl) rfl ?_
        obtain ⟨x69, h70, hx71⟩ := bnd_some hx67
        have hw79 := Has.low (E := []) ha0' hK
        obtain ⟨b72, o73, j74, hA75, hj76, hl77, hp78⟩ := Has.at_idx hw79 h70
        refine T_val (Ev_index rfl rfl hA75 (j := j74) hj76 hl77 slc72) rfl ?_
        refine T_val (Ev_loadP0 rfl hp78 (SubE.cons2 (i := 1) rfl (SubE.nil)) rfl one27) rfl ?_
        refine T_val (Ev_move rfl) rfl ?_
        refine T_val (Ev_move rfl) rfl ?_
        obtain ⟨r80, h81, hx82⟩ := bnd_some hx71
        refine T_x (Wx_callL rfl (fun w1 hw1 => math_bits_Sub32_ok x69 s18 s49.2.1  h81 w1) rfl ?_)
        rintro _ _ hlo ⟨rfl, rfl, -⟩
        refine T_app0 ?_
        refine T_val (Ev_move rfl) rfl ?_
        refine T_val (Ev_extract rfl rfl) rfl ?_
        refine T_val (Ev_extract rfl rfl) rfl ?_
        obtain ⟨x83, h84, hx85⟩ := bnd_some hx82
        refine T_idxR (k := 0) rfl (by decide) (fun _ => rfl) h84 (fun b86 j88 hA89 hj90 hl91 hm93 hp92 => ?_)
        refine T_val (Ev_index rfl rfl hA89 (j := j88) hj90 hl91 slc72) rfl ?_
        refine T_h (Wh_storeP e_u32 (s49.1) (s49.2.2) (r80.1) rfl rfl rfl (.here) hA89 rfl hj90 hl91 (fun _ => rfl) (by decide) rfl one27.2 ?_)
        refine T_val (Ev_assign rfl) rfl ?_
        refine T_nil ?_
        refine T_inN ?_
        refine T_next ?_
        refine T_reg ?_
        refine T_val (Ev_add_w64 rfl rfl) rfl ?_
        refine T_val (Ev_move rfl) rfl ?_
        refine T_nil ?_
        have hn94 : (s49.1).length = (setI s49.1 s49.2.2 r80.1).length := by simp [setI_len, cpy_len, List.length_append] <;> omega
        refine T_ent (.here) (e' := .r (y49.1) ((setI s49.1 s49.2.2 r80.1).length) (y49.2) 27 1 ((setI s49.1 s49.2.2 r80.1).flatMap e_u32)) (by first | (rw [← hn94]; done) | rfl) ?_
        refine T_slot (s := 5) (v' := .slice (y49.1) ((setI s49.1 s49.2.2 r80.1).length) (y49.2)) rfl (by have hn95 : ((s49.1).length) = (setI s49.1 s49.2.2 r80.1).length := (by simp [setI_len, cpy_len, List.length_append] <;> omega); first | (rw [← hn95]; done) | rfl) ?_
        exact T_roundP (setI s49.1 s49.2.2 r80.1, r80.2, w64 (s49.2.2 + 1)) (y49.1, y49.2) hx85 trivial (by exact .cons rfl (.cons rfl (.cons rfl (.cons rfl (.cons rfl (.cons rfl (.nil))))))) (by exact .pick 0 rfl (.refl))
      · skip
        refine T_seq ?_
        refine T_reg ?_
        refine T_val (Ev_move rfl) rfl ?_
        refine T_val (Ev_move rfl) rfl ?_
        refine T_val (Ev_len rfl 27 Try.underlying72) rfl ?_
        refine T_val (Ev_lss rfl rfl) rfl ?_
        refine T_nil ?_
        refine T_next ?_
        refine T_caseP (s := 20) rfl (fun h53 => ?_) (fun h53 => ?_)
        · have hx54 := ite_t h53 hx51
          refine T_condT rfl ?_
          refine T_reg ?_
          refine T_val (Ev_move rfl) rfl ?_
          refine T_val (Ev_move rfl) rfl ?_
          obtain ⟨x55, h56, hx57⟩ := bnd_some hx54
          have hw65 := Has.low (E := []) ha1' hK
          obtain ⟨b58, o59, j60, hA61, hj62, hl63, hp64⟩ := Has.at_idx hw65 h56
          refine T_val (Ev_index rfl rfl hA61 (j := j60) hj62 hl63 slc72) rfl ?_
          refine T_val (Ev_loadP0 rfl hp64 (SubE.cons2 (i := 1) rfl (SubE.nil)) rfl one27) rfl ?_
          refine T_val (Ev_assign rfl) rfl ?_
          refine T_nil ?_
          exact T_metP x55 () hx57 trivial (by exact .cons rfl (.cons rfl (.cons rfl (.cons rfl (.cons rfl (.cons rfl (.cons rfl (.cons rfl (.nil))))))))) (by exact .pick 0 rfl (.refl))
        · have hx66 := ite_f h53 hx51
          refine T_condF rfl ?_
          refine T_skip ?_
          exact T_metP 0 () hx66 trivial (by exact .cons rfl (.cons rfl (.cons rfl (.cons rfl (.cons rfl (.cons rfl (.cons rfl (.cons rfl (.nil))))))))) (by exact .pick 0 rfl (.refl))
    · have hx52 := ite_f h50 hx49
      refine T_condF rfl ?_
      refine T_exit ?_
      refine T_outX ?_
      obtain rfl := exit_eq ht49 hx52
      refine T_outX ?_
      refine T_here ?_
      exact T_metP s49.1 (y49.1, y49.2) ho49 trivial (by exact .cons rfl (.nil)) (by exact .pick 0 rfl (.refl))
set_option maxRecDepth 100000 in
theorem ratio_nat_word_ok (p0 : List Int) (p1 : Int) {K : List Ent} {A0_0 : Option Addr} {c0_0 : Nat} (ha0 : Has K A0_0 (p0).length c0_0 1 e_u32 (p0)) {r : (List Int) × Int} (hx : ratio_nat_word p0 p1 = some r) (w : World) (hK : ∀ e ∈ K, Ent.ok w e) : CtL Try.prog 70 [.slice (A0_0) ((p0).length) (c0_0), .int .u32 (p1)] w fun v Ln => ∃ (A0 : Option Addr) (c0 : Nat) (e0 : Ent), v = .tuple #[.slice (A0) ((r.1).length) (c0), .int .u32 (r.2)] ∧ Ln = [e0] ∧ Has (K ++ [e0]) A0 (r.1).length c0 1 e_u32 (r.1) ∧ True := by
  have ha0' := Has.up0 ha0
  refine CtL.mk 44 Try.func70 rfl Try.ntmps70 (by kernel_rfl) rfl ?_
  show T 44 _ [(0, .slice (A0_0) ((p0).length) (c0_0)), (1, .int .u32 (p1))] _
  unfold ratio_nat_word at hx
  refine T_seq ?_
  refine T_reg ?_
  refine T_val (Ev_assign rfl) rfl ?_
  refine T_val (Ev_assign rfl) rfl ?_
  refine T_nil ?_
  refine T_next ?_
  refine T_seq ?_
  refine T_reg ?_
  refine T_val (Ev_move rfl) rfl ?_
  refine T_val (Ev_len rfl 27 Try.underlying72) rfl ?_
  obtain ⟨h2, hx3⟩ := gd_some hx
  refine T_x (Wx_makeP e_u32 (0) (z := .int .u32 (0)) rfl rfl rfl h2.1 Try.underlying72 (show Try.prog.info? 27 = some Try.t27 from by kernel_rfl) (by kernel_rfl) rfl rfl (by kernel_rfl) (show 4 * _ ≤ _ from h2.2) (by decide) rfl (fun A1 => ?_))
  refine T_val (Ev_assign rfl) rfl ?_
  refine T_nil ?_
  refine T_next ?_
  refine T_seq ?_
  refine T_reg ?_
  refine T_val (Ev_assign rfl) rfl ?_
  refine T_nil ?_
  refine T_next ?_
  obtain ⟨j4, hj4, hx3⟩ := jn_some hx3
  refine T_cutP (τ := (List Int) × Int) (γ := (Option Addr) × Nat) (J := j4) (out := r) (fun s4 y4 => [(6, .slice (y4.1) ((s4.1).length) (y4.2)), (7, .int .u64 (s4.2))]) (fun s4 y4 => [.r (y4.1) ((s4.1).length) (y4.2) 27 1 ((s4.1).flatMap e_u32)] ++ [.old w]) (fun s4 y4 => True) ?_ ?_
  · intro s4 y4 hx66 hG67
    subst hj4
    refine T_seq ?_
    refine T_reg ?_
    refine T_val (Ev_move rfl) rfl ?_
    refine T_rowP (k := 0) rfl (by decide) (fun _ => rfl) (fun hn68 hs69 => ?_)
    obtain ⟨r70, h71, hx72⟩ := bnd_some hx66
    refine T_x (Wx_callL rfl (fun w1 hw1 => ratio_nat_norm_ok s4.1 (Has.len' hs69) h71 w1 (okAll (K := ([.r (y4.1) ((s4.1).length) (y4.2) 27 1 ((s4.1).flatMap e_u32)] : List Ent)) (by exact (SubE.cons2 (i := 0) rfl (SubE.nil))) hw1)) rfl ?_)
    rintro _ _ hlo ⟨A73, c74, rfl, rfl, hs75, -⟩
    refine T_app0 ?_
    refine T_val (Ev_move rfl) rfl ?_
    refine T_val (Ev_conv_wu32 rfl (by kernel_rfl) Try.underlying27) rfl ?_
    refine T_val (Ev_assign rfl) rfl ?_
    refine T_val (Ev_assign rfl) rfl ?_
    refine T_nil ?_
    refine T_next ?_
    refine T_retc ?_
    obtain rfl := Option.some.inj hx72
    exact T_retP (rs := [.tmp 4, .tmp 5]) Try.results70 (.tmp rfl (.tmp rfl (.nil))) (Ln := [.r (y4.1) ((s4.1).length) (y4.2) 27 1 ((s4.1).flatMap e_u32)]) ⟨A73, c74, (.r (y4.1) ((s4.1).length) (y4.2) 27 1 ((s4.1).flatMap e_u32)), rfl, rfl, Has.len' (Has.up (L := (K ++ [.r (y4.1) ((s4.1).length) (y4.2) 27 1 ((s4.1).flatMap e_u32)])) hs75 (SubE.appR2 (SubE.cons2 (i := 0) rfl (SubE.nil)))), trivial⟩ (loCons rfl (loNil)) (by exact .pick 0 rfl (.refl))
  · skip
    refine T_seq ?_
    refine T_reg ?_
    refine T_val (Ev_move rfl) rfl ?_
    refine T_val (Ev_len rfl 27 Try.underlying72) rfl ?_
    refine T_val (Ev_sub_w64 rfl rfl) rfl ?_
    refine T_val (Ev_assign rfl) rfl ?_
    refine T_nil ?_
    refine T_next ?_
    refine T_block ?_
    obtain ⟨t34, hl34, ho34⟩ := bnd_some hx3
    refine T_loopP (σ := (List Int) × Int × Int) (γ := (Option Addr) × Nat) hl34 (fun s34 y34 => [(0, .slice (A0_0) ((p0).length) (c0_0)), (1, .int .u32 (p1)), (6, .slice (y34.1) ((s34.1).length) (y34.2)), (7, .int .u64 (s34.2.1)), (8, .int .i64 (s34.2.2))]) (fun s34 y34 => [.r (y34.1) ((s34.1).length) (y34.2) 27 1 ((s34.1).flatMap e_u32)] ++ [.old w]) (fun s34 y34 => True) (A1, (List.replicate (Int.toNat ((((p0).length : Nat) : Int))) (0 : Int)).length) trivial (by exact .cons rfl (.cons rfl (.cons rfl (.cons rfl (.cons rfl (.nil)))))) (by exact .pick 0 rfl (.refl)) ?_
    intro s34 y34 hG34 x34 hx34 ht34
    unfold ratio_nat_word_l4 at hx34
    refine T_seq ?_
    refine T_seq ?_
    refine T_reg ?_
    refine T_val (Ev_move rfl) rfl ?_
    refine T_val (Ev_geq rfl rfl) rfl ?_
    refine T_nil ?_
    refine T_next ?_
    refine T_caseP (s := 17) rfl (fun h35 => ?_) (fun h35 => ?_)
    · have hx36 := ite_t h35 hx34
      refine T_condT rfl ?_
      refine T_skip ?_
      refine T_next ?_
      refine T_seq ?_
      refine T_block ?_
      refine T_seq ?_
      refine T_reg ?_
      refine T_val (Ev_move rfl) rfl ?_
      refine T_val (Ev_shlW rfl rfl (by decide)) rfl ?_
      refine T_val (Ev_move rfl) rfl ?_
      refine T_val (Ev_move rfl) rfl ?_
      obtain ⟨x38, h39, hx40⟩ := bnd_some hx36
      have hw48 := Has.low (E := []) ha0' hK
      obtain ⟨b41, o42, j43, hA44, hj45, hl46, hp47⟩ := Has.at_idx hw48 h39
      refine T_val (Ev_index rfl rfl hA44 (j := j43) hj45 hl46 slc72) rfl ?_
      refine T_val (Ev_loadP0 rfl hp47 (SubE.cons2 (i := 1) rfl (SubE.nil)) rfl one27) rfl ?_
      refine T_val (Ev_conv_wu64 rfl (by kernel_rfl) Try.underlying96) rfl ?_
      refine T_val (Ev_bitW_or rfl rfl) rfl ?_
      refine T_val (Ev_assign rfl) rfl ?_
      refine T_nil ?_
      refine T_next ?_
      refine T_seq ?_
      refine T_reg ?_
      refine T_val (Ev_move rfl) rfl ?_
      refine T_val (Ev_move rfl) rfl ?_
      refine T_val (Ev_move rfl) rfl ?_
      refine T_val (Ev_move rfl) rfl ?_
      refine T_val (Ev_conv_wu64 rfl (by kernel_rfl) Try.underlying96) rfl ?_
      obtain ⟨h49, hx50⟩ := gd_some hx40
      refine T_val (Ev_quo_wu64 rfl rfl h49) rfl ?_
      refine T_val (Ev_conv_wu32 rfl (by kernel_rfl) Try.underlying27) rfl ?_
      obtain ⟨x51, h52, hx53⟩ := bnd_some hx50
      refine T_idxR (k := 0) rfl (by decide) (fun _ => rfl) h52 (fun b54 j56 hA57 hj58 hl59 hm61 hp60 => ?_)
      refine T_val (Ev_index rfl rfl hA57 (j := j56) hj58 hl59 slc72) rfl ?_
      refine T_h (Wh_storeP e_u32 (s34.1) (s34.2.2) (wu32 (wu64 (Int.tdiv (bit_or .u64 (shl_ .u64 s34.2.1 32) (wu64 (x38))) (wu64 (p1))))) rfl rfl rfl (.here) hA57 rfl hj58 hl59 (fun _ => rfl) (by decide) rfl one27.2 ?_)
      refine T_nil ?_
      refine T_next ?_
      refine T_reg ?_
      refine T_val (Ev_move rfl) rfl ?_
      refine T_val (Ev_move rfl) rfl ?_
      refine T_val (Ev_conv_wu64 rfl (by kernel_rfl) Try.underlying96) rfl ?_
      obtain ⟨h62, hx63⟩ := gd_some hx53
      refine T_val (Ev_rem rfl rfl h62) rfl ?_
      refine T_val (Ev_assign rfl) rfl ?_
      refine T_nil ?_
      refine T_inN ?_
      refine T_next ?_
      refine T_reg ?_
      refine T_val (Ev_move rfl) rfl ?_
      refine T_val (Ev_sub_w64 rfl rfl) rfl ?_
      refine T_val (Ev_assign rfl) rfl ?_
      refine T_nil ?_
      have hn64 : (s34.1).length = (setI s34.1 s34.2.2 (wu32 (wu64 (Int.tdiv (bit_or .u64 (shl_ .u64 s34.2.1 32) (wu64 (x38))) (wu64 (p1)))))).length := by simp [setI_len, cpy_len, List.length_append] <;> omega
      refine T_ent (.here) (e' := .r (y34.1) ((setI s34.1 s34.2.2 (wu32 (wu64 (Int.tdiv (bit_or .u64 (shl_ .u64 s34.2.1 32) (wu64 (x38))) (wu64 (p1)))))).length) (y34.2) 27 1 ((setI s34.1 s34.2.2 (wu32 (wu64 (Int.tdiv (bit_or .u64 (shl_ .u64 s34.2.1 32) (wu64 (x38))) (wu64 (p1)))))).flatMap e_u32)) (by first | (rw [← hn64]; done) | rfl) ?_
      refine T_slot (s := 6) (v' := .slice (y34.1) ((setI s34.1 s34.2.2 (wu32 (wu64 (Int.tdiv (bit_or .u64 (shl_ .u64 s34.2.1 32) (wu64 (x38))) (wu64 (p1)))))).length) (y34.2)) rfl (by have hn65 : ((s34.1).length) = (setI s34.1 s34.2.2 (wu32 (wu64 (Int.tdiv (bit_or .u64 (shl_ .u64 s34.2.1 32) (wu64 (x38))) (wu64 (p1)))))).length := (by simp [setI_len, cpy_len, List.length_append] <;> omega); first | (rw [← hn65]; done) | rfl) ?_
      exact T_roundP (setI s34.1 s34.2.2 (wu32 (wu64 (Int.tdiv (bit_or .u64 (shl_ .u64 s34.2.1 32) (wu64 (x38))) (wu64 (p1))))), Int.tmod (bit_or .u64 (shl_ .u64 s34.2.1 32) (wu64 (x38))) (wu64 (p1)), w64 (s34.2.2 - 1)) (y34.1, y34.2) hx63 trivial (by exact .cons rfl (.cons rfl (.cons rfl (.cons rfl (.cons rfl (.nil)))))) (by exact .pick 0 rfl (.refl))
    · have hx37 := ite_f h35 hx34
      refine T_condF rfl ?_
      refine T_exit ?_
      refine T_outX ?_
      obtain rfl := exit_eq ht34 hx37
      refine T_outX ?_
      refine T_here ?_
      exact T_metP (s34.1, s34.2.1) (y34.1, y34.2) ho34 trivial (by exact .cons rfl (.cons rfl (.nil))) (by exact .pick 0 rfl (.refl))
set_option maxRecDepth 100000 in
theorem ratio_nat_div_ok (p0 : List Int) (p1 : List Int) {K : List Ent} {A0_0 : Option Addr} {c0_0 : Nat} {A0_1 : Option Addr} {c0_1 : Nat} (ha0 : Has K A0_0 (p0).length c0_0 1 e_u32 (p0)) (ha1 : Has K A0_1 (p1).length c0_1 1 e_u32 (p1)) {r : (List Int) × (List Int)} (hx : ratio_nat_div p0 p1 = some r) (w : World) (hK : ∀ e ∈ K, Ent.ok w e) : CtL Try.prog 51 [.slice (A0_0) ((p0).length) (c0_0), .slice (A0_1) ((p1).length) (c0_1)] w fun v Ln => ∃ (A0 : Option Addr) (c0 : Nat) (A2 : Option Addr) (c2 : Nat) (e0 : Ent) (e1 : Ent), v = .tuple #[.slice (A0) ((r.1).length) (c0), .slice (A2) ((r.2).length) (c2)] ∧ Ln = [e0, e1] ∧ Has (K ++ [e0, e1]) A0 (r.1).length c0 1 e_u32 (r.1) ∧ Has (K ++ [e0, e1]) A2 (r.2).length c2 1 e_u32 (r.2) ∧ True := by
  have ha0' := Has.up0 ha0
  have ha1' := Has.up0 ha1
  refine CtL.mk 88 Try.func51 rfl Try.ntmps51 (by kernel_rfl) rfl ?_
  show T 88 _ [(0, .slice (A0_0) ((p0).length) (c0_0)), (1, .slice (A0_1) ((p1).length) (c0_1))] _
  unfold ratio_nat_div at hx
  refine T_seq ?_
  refine T_reg ?_
  refine T_val (Ev_assign rfl) rfl ?_
  refine T_val (Ev_assign rfl) rfl ?_
  refine T_nil ?_
  refine T_next ?_
  refine T_seq ?_
  refine T_seq ?_
  refine T_reg ?_
  refine T_val (Ev_move rfl) rfl ?_
  refine T_val (Ev_move rfl) rfl ?_
  obtain ⟨r1, h2, hx3⟩ := bnd_some hx
  refine T_x (Wx_callL rfl (fun w1 hw1 => ratio_nat_cmp_ok p0 p1 (Has.len' ha0') (Has.len' ha1') h2 w1 (okApp (K := K) (K2 := []) hK (by exact (SubE.cons2 (i := 0) rfl (SubE.nil))) (by exact (SubE.nil)) hw1)) rfl ?_)
  rintro _ _ hlo ⟨rfl, rfl, -⟩
  refine T_app0 ?_
  refine T_val (Ev_lss rfl rfl) rfl ?_
  refine T_nil ?_
  refine T_next ?_
  refine T_caseP (s := 16) rfl (fun h4 => ?_) (fun h4 => ?_)
  · have hx5 := ite_t h4 hx3
    refine T_condT rfl ?_
    refine T_seq ?_
    refine T_reg ?_
    refine T_val (Ev_move rfl) rfl ?_
    refine T_val (Ev_assign rfl) rfl ?_
    refine T_val (Ev_assign rfl) rfl ?_
    refine T_nil ?_
    refine T_next ?_
    refine T_retc ?_
    refine T_outR ?_
    refine T_none 0 1 ?_
    refine T_none 0 1 ?_
    obtain rfl := Option.some.inj hx5
    exact T_retP (rs := [.tmp 4, .tmp 5]) Try.results51 (.tmp rfl (.tmp rfl (.nil))) (Ln := [.r none 0 0 0 1 [], .r none 0 0 0 1 []]) ⟨none, 0, A0_0, c0_0, (.r none 0 0 0 1 []), (.r none 0 0 0 1 []), rfl, rfl, Has.nil, Has.len' (Has.up (L := (K ++ [.r none 0 0 0 1 [], .r none 0 0 0 1 []])) ha0' (SubE.app2 SubE.nil)), trivial⟩ (loCons rfl (loCons rfl (loNil))) (by exact .pick 1 rfl (.pick 0 rfl (.refl)))
  · have hx6 := ite_f h4 hx3
    refine T_condF rfl ?_
    refine T_skip ?_
    refine T_next ?_
    refine T_seq ?_
    refine T_seq ?_
    refine T_reg ?_
    refine T_val (Ev_move rfl) rfl ?_
    refine T_val (Ev_len rfl 27 Try.underlying72) rfl ?_
    refine T_val (Ev_eql rfl rfl) rfl ?_
    refine T_nil ?_
    refine T_next ?_
    refine T_caseP (s := 20) rfl (fun h7 => ?_) (fun h7 => ?_)
    · have hx8 := ite_t h7 hx6
      refine T_condT rfl ?_
      refine T_seq ?_
      refine T_reg ?_
      refine T_val (Ev_move rfl) rfl ?_
      refine T_val (Ev_move rfl) rfl ?_
      obtain ⟨x9, h10, hx11⟩ := bnd_some hx8
      have hw19 := Has.low (E := []) ha1' hK
      obtain ⟨b12, o13, j14, hA15, hj16, hl17, hp18⟩ := Has.at_idx hw19 h10
      refine T_val (Ev_index rfl rfl hA15 (j := j14) hj16 hl17 slc72) rfl ?_
      refine T_val (Ev_loadP0 rfl hp18 (SubE.cons2 (i := 0) rfl (SubE.nil)) rfl one27) rfl ?_
      obtain ⟨r20, h21, hx22⟩ := bnd_some hx11
      refine T_x (Wx_callL rfl (fun w1 hw1 => ratio_nat_word_ok p0 x9 (Has.len' ha0') h21 w1 (okApp (K := K) (K2 := []) hK (by exact (SubE.cons2 (i := 0) rfl (SubE.nil))) (by exact (SubE.nil)) hw1)) rfl ?_)
      rintro _ _ hlo ⟨A23, c24, e25, rfl, rfl, hs26, -⟩
      have lo27 := hlo e25 (by simp)
      refine T_app1 ?_
      have hs28 : Has (K ++ [e25]) _ _ _ _ _ _ := Has.assoc hs26
      refine T_val (Ev_move rfl) rfl ?_
      refine T_val (Ev_extract rfl rfl) rfl ?_
      refine T_val (Ev_extract rfl rfl) rfl ?_
      refine T_val (Ev_assign rfl) rfl ?_
      refine T_val (Ev_assign rfl) rfl ?_
      refine T_nil ?_
      refine T_next ?_
      refine T_seq ?_
      refine T_reg ?_
      refine T_val (Ev_move rfl) rfl ?_
      refine T_val (Ev_move rfl) rfl ?_
      refine T_val (Ev_conv_wu64 rfl (by kernel_rfl) Try.underlying96) rfl ?_
      obtain ⟨r29, h30, hx31⟩ := bnd_some hx22
      refine T_x (Wx_callL rfl (fun w1 hw1 => ratio_natOf_ok (wu64 (r20.2))  h30 w1) rfl ?_)
      rintro _ _ hlo ⟨A32, c33, e34, rfl, rfl, hs35, -⟩
      have lo36 := hlo e34 (by simp)
      refine T_app1 ?_
      refine T_val (Ev_assign rfl) rfl ?_
      refine T_val (Ev_assign rfl) rfl ?_
      refine T_nil ?_
      refine T_next ?_
      refine T_retc ?_
      refine T_outR ?_
      obtain rfl := Option.some.inj hx31
      exact T_retP (rs := [.tmp 4, .tmp 5]) Try.results51 (.tmp rfl (.tmp rfl (.nil))) (Ln := [e25, e34]) ⟨A23, c24, A32, c33, e25, e34, rfl, rfl, Has.len' (Has.up (L := (K ++ [e25, e34])) hs28 (SubE.app2 (SubE.cons2 (i := 0) rfl (SubE.nil)))), Has.len' (Has.up (L := (K ++ [e25, e34])) hs35 (SubE.appR2 (SubE.cons2 (i := 1) rfl (SubE.nil)))), trivial⟩ (loCons lo27 (loCons lo36 (loNil))) (by exact .pick 1 rfl (.pick 0 rfl (.refl)))
    · have hx37 := ite_f h7 hx6
      refine T_condF rfl ?_
      refine T_skip ?_
      refine T_next ?_
      refine T_seq ?_
      refine T_reg ?_
      refine T_val (Ev_move rfl) rfl ?_
      refine T_val (Ev_move rfl) rfl ?_
      refine T_val (Ev_len rfl 27 Try.underlying72) rfl ?_
      refine T_val (Ev_sub_w64 rfl rfl) rfl ?_
      obtain ⟨x38, h39, hx40⟩ := bnd_some hx37
      have hw48 := Has.low (E := []) ha1' hK
      obtain ⟨b41, o42, j43, hA44, hj45, hl46, hp47⟩ := Has.at_idx hw48 h39
      refine T_val (Ev_index rfl rfl hA44 (j := j43) hj45 hl46 slc72) rfl ?_
      refine T_val (Ev_loadP0 rfl hp47 (SubE.cons2 (i := 0) rfl (SubE.nil)) rfl one27) rfl ?_
      exact none_no hx40
set_option maxRecDepth 100000 in
theorem ratio_nat_gcd_ok (p0 : List Int) (p1 : List Int) {K : List Ent} {A0_0 : Option Addr} {c0_0 : Nat} {A0_1 : Option Addr} {c0_1 : Nat} (ha0 : Has K A0_0 (p0).length c0_0 1 e_u32 (p0)) (ha1 : Has K A0_1 (p1).length c0_1 1 e_u32 (p1)) {r : List Int} (hx : ratio_nat_gcd p0 p1 = some r) (w : World) (hK : ∀ e ∈ K, Ent.ok w e) : CtL Try.prog 50 [.slice (A0_0) ((p0).length) (c0_0), .slice (A0_1) ((p1).length) (c0_1)] w fun v Ln => ∃ (A0 : Option Addr) (c0 : Nat) (e0 : Ent), v = .slice (A0) ((r).length) (c0) ∧ Ln = [e0] ∧ Has (K ++ [e0]) A0 (r).length c0 1 e_u32 (r) ∧ True := by
  have ha0' := Has.up0 ha0
  have ha1' := Has.up0 ha1
  refine CtL.mk 19 Try.func50 rfl Try.ntmps50 (by kernel_rfl) rfl ?_
  show T 19 _ [(0, .slice (A0_0) ((p0).length) (c0_0)), (1, .slice (A0_1) ((p1).length) (c0_1))] _
  unfold ratio_nat_gcd at hx
  refine T_seq ?_
  refine T_reg ?_
  refine T_val (Ev_assign rfl) rfl ?_
  refine T_nil ?_
  refine T_next ?_
  obtain ⟨j2, hj2, hx⟩ := jn_some hx
  refine T_cutP (τ := List Int) (γ := (Option Addr) × Nat × Ent) (J := j2) (out := r) (fun s2 y2 => [(0, .slice (y2.1) ((s2).length) (y2.2.1))]) (fun s2 y2 => [y2.2.2] ++ [.old w]) (fun s2 y2 => y2.2.2.low = 0 ∧ Has (K ++ [y2.2.2]) (y2.1) ((s2).length) (y2.2.1) 1 e_u32 (s2) ∧ True) ?_ ?_
  · intro s2 y2 hx67 hG68
    obtain ⟨lo69, hs70, -⟩ := hG68
    subst hj2
    refine T_seq ?_
    refine T_reg ?_
    refine T_val (Ev_move rfl) rfl ?_
    refine T_val (Ev_assign rfl) rfl ?_
    refine T_nil ?_
    refine T_next ?_
    refine T_retc ?_
    obtain rfl := Option.some.inj hx67
    exact T_retP (rs := [.tmp 4]) Try.results50 (.tmp rfl (.nil)) (Ln := [y2.2.2]) ⟨y2.1, y2.2.1, y2.2.2, rfl, rfl, Has.len' hs70, trivial⟩ (loCons lo69 (loNil)) (by exact .pick 0 rfl (.refl))
  · skip
    refine T_block ?_
    obtain ⟨t45, hl45, ho45⟩ := bnd_some hx
    refine T_none 0 1 ?_
    refine T_loopP (σ := (List Int) × (List Int)) (γ := (Option Addr) × Nat × Ent × (Option Addr) × Nat) hl45 (fun s45 y45 => [(0, .slice (y45.1) ((s45.1).length) (y45.2.1)), (1, .slice (y45.2.2.2.1) ((s45.2).length) (y45.2.2.2.2))]) (fun s45 y45 => [y45.2.2.1] ++ [.old w]) (fun s45 y45 => y45.2.2.1.low = 0 ∧ Has (K ++ [y45.2.2.1]) (y45.1) ((s45.1).length) (y45.2.1) 1 e_u32 (s45.1) ∧ Has (K ++ [y45.2.2.1]) (y45.2.2.2.1) ((s45.2).length) (y45.2.2.2.2) 1 e_u32 (s45.2) ∧ True) (A0_0, c0_0, .r none 0 0 0 1 [], A0_1, c0_1) ((by exact ⟨rfl, Has.len' ((Has.up (L := (K ++ [.r none 0 0 0 1 []])) ha0' (SubE.app2 SubE.nil))), Has.len' ((Has.up (L := (K ++ [.r none 0 0 0 1 []])) ha1' (SubE.app2 SubE.nil))), trivial⟩)) (by exact .cons rfl (.cons rfl (.nil))) (by exact .pick 0 rfl (.refl)) ?_
    intro s45 y45 hG45 x45 hx45 ht45
    unfold ratio_nat_gcd_l1 at hx45
    obtain ⟨lo46, hs47, hs48, -⟩ := hG45
    refine T_seq ?_
    refine T_seq ?_
    refine T_reg ?_
    refine T_val (Ev_move rfl) rfl ?_
    refine T_val (Ev_len rfl 27 Try.underlying72) rfl ?_
    refine T_val (Ev_gtr rfl rfl) rfl ?_
    refine T_nil ?_
    refine T_next ?_
    refine T_caseP (s := 9) rfl (fun h49 => ?_) (fun h49 => ?_)
    · have hx50 := ite_t h49 hx45
      refine T_condT rfl ?_
      refine T_skip ?_
      refine T_next ?_
      refine T_block ?_
      refine T_seq ?_
      refine T_reg ?_
      refine T_val (Ev_move rfl) rfl ?_
      refine T_val (Ev_move rfl) rfl ?_
      obtain ⟨r52, h53, hx54⟩ := bnd_some hx50
      refine T_x (Wx_callL rfl (fun w1 hw1 => ratio_nat_div_ok s45.1 s45.2 (Has.len' hs47) (Has.len' hs48) h53 w1 (okApp (K := K) (K2 := [y45.2.2.1]) hK (by exact (SubE.cons2 (i := 1) rfl (SubE.nil))) (by exact (SubE.cons2 (i := 0) rfl (SubE.nil))) hw1)) rfl ?_)
      rintro _ _ hlo ⟨A55, c56, A57, c58, e59, e60, rfl, rfl, hs61, hs62, -⟩
      have lo63 := hlo e59 (by simp)
      have lo64 := hlo e60 (by simp)
      refine T_app2 ?_
      have hs65 : Has (K ++ [y45.2.2.1, e59, e60]) _ _ _ _ _ _ := Has.assoc hs61
      have hs66 : Has (K ++ [y45.2.2.1, e59, e60]) _ _ _ _ _ _ := Has.assoc hs62
      refine T_val (Ev_move rfl) rfl ?_
      refine T_val (Ev_extract rfl rfl) rfl ?_
      refine T_val (Ev_extract rfl rfl) rfl ?_
      refine T_val (Ev_assign rfl) rfl ?_
      refine T_val (Ev_assign rfl) rfl ?_
      refine T_nil ?_
      refine T_next ?_
      refine T_reg ?_
      refine T_val (Ev_move rfl) rfl ?_
      refine T_val (Ev_move rfl) rfl ?_
      refine T_val (Ev_assign rfl) rfl ?_
      refine T_val (Ev_assign rfl) rfl ?_
      refine T_nil ?_
      refine T_inN ?_
      refine T_bundle (es := [y45.2.2.1, e59, e60]) (by exact .pick 2 rfl (.pick 0 rfl (.pick 0 rfl (.refl)))) (loCons lo46 (loCons lo63 (loCons lo64 (loNil)))) ?_
      exact T_roundP (s45.2, r52.2) (y45.2.2.2.1, y45.2.2.2.2, bun [y45.2.2.1, e59, e60], A57, c58) hx54 ((by exact ⟨rfl, Has.len' ((Has.up (L := (K ++ [(bun [y45.2.2.1, e59, e60])])) hs48 (SubE.app2 (SubE.consB (i := 0) (j := 0) rfl rfl (SubE.nil))))), Has.len' ((Has.up (L := (K ++ [(bun [y45.2.2.1, e59, e60])])) hs66 (SubE.app2 (SubE.consB (i := 0) (j := 0) rfl rfl (SubE.consB (i := 0) (j := 1) rfl rfl (SubE.consB (i := 0) (j := 2) rfl rfl (SubE.nil))))))), trivial⟩)) (by exact .cons rfl (.cons rfl (.nil))) (by exact .pick 0 rfl (.refl))
    · have hx51 := ite_f h49 hx45
      refine T_condF rfl ?_
      refine T_exit ?_
      refine T_outX ?_
      obtain rfl := exit_eq ht45 hx51
      refine T_outX ?_
      refine T_here ?_
      exact T_metP s45.1 (y45.1, y45.2.1, y45.2.2.1) ho45 ((by exact ⟨lo46, Has.len' hs47, trivial⟩)) (by exact .cons rfl (.nil)) (by exact .pick 0 rfl (.refl))
set_option maxRecDepth 100000 in
theorem ratio_Num_Reduced_ok (p0 : S_ratio_Num) {K : List Ent} {A0_0 : Option Addr} {c0_0 : Nat} {A0_1 : Option Addr} {c0_1 : Nat} (ha0 : Has K A0_0 (p0.n).length c0_0 1 e_u32 (p0.n)) (ha1 : Has K A0_1 (p0.d).length c0_1 1 e_u32 (p0.d)) {r : S_ratio_Num} (hx : ratio_Num_Reduced p0 = some r) (w : World) (hK : ∀ e ∈ K, Ent.ok w e) : CtL Try.prog 39 [.agg #[.bool (p0.neg), .slice (A0_0) ((p0.n).length) (c0_0), .slice (A0_1) ((p0.d).length) (c0_1)]] w fun v Ln => ∃ (A0 : Option Addr) (c0 : Nat) (A2 : Option Addr) (c2 : Nat) (e0 : Ent) (e1 : Ent) (e2 : Ent) (e3 : Ent) (e4 : Ent), v = .agg #[.bool (r.neg), .slice (A0) ((r.n).length) (c0), .slice (A2) ((r.d).length) (c2)] ∧ Ln = [e0, e1, e2, e3, e4] ∧ Has (K ++ [e0, e1, e2, e3, e4]) A0 (r.n).length c0 1 e_u32 (r.n) ∧ Has (K ++ [e0, e1, e2, e3, e4]) A2 (r.d).length c2 1 e_u32 (r.d) ∧ True := by
  have ha0' := Has.up0 ha0
  have ha1' := Has.up0 ha1
  refine CtL.mk 48 Try.func39 rfl Try.ntmps39 (by kernel_rfl) rfl ?_
  show T 48 _ [(0, .agg #[.bool (p0.neg), .slice (A0_0) ((p0.n).length) (c0_0), .slice (A0_1) ((p0.d).length) (c0_1)])] _
  unfold ratio_Num_Reduced at hx
  refine T_seq ?_
  refine T_reg ?_
  refine T_x (Wx_box rfl rfl rfl (fun g1 => ?_))
  refine T_x (Wx_alloc zer74 rfl (fun g2 => ?_))
  refine T_nil ?_
  refine T_next ?_
  refine T_seq ?_
  refine T_seq ?_
  refine T_reg ?_
  refine T_val (Ev_field rfl fld74_1 rfl) rfl ?_
  refine T_val (Ev_load1 rfl (i := 1) rfl rfl one72) rfl ?_
  refine T_val (Ev_len rfl 27 Try.underlying72) rfl ?_
  refine T_val (Ev_eql rfl rfl) rfl ?_
  refine T_nil ?_
  refine T_next ?_
  refine T_caseP (s := 11) rfl (fun h3 => ?_) (fun h3 => ?_)
  · have hx4 := ite_t h3 hx
    refine T_condT rfl ?_
    refine T_seq ?_
    refine T_reg ?_
    refine T_x (Wx_buildSlice rfl (bls72_1_0u32 _) rfl (fun g5 => ?_))
    refine T_val (Ev_build rfl (bld74_0b1s2s _ _ _ _ _ _ _)) rfl ?_
    refine T_h (Wh_store rfl rfl rfl (.there (.here)) (.put (.put (.put (.done)))) rfl (List.cons_ne_nil _ _) agg74.2 ?_)
    refine T_nil ?_
    refine T_next ?_
    refine T_retc ?_
    refine T_outR ?_
    refine T_mr (enc := e_u32) (sz := 1) ([1]) (.here) rfl rfl (fun _ => rfl) (by show 1 ≤ maxLen; decide) ?_
    refine T_rowP (k := 0) rfl (by decide) (fun _ => rfl) (fun hn6 hs7 => ?_)
    refine T_none 0 1 ?_
    refine T_none 0 1 ?_
    refine T_none 0 1 ?_
    refine T_none 0 1 ?_
    refine T_ent (.there (.there (.there (.there (.there (.here)))))) (e' := .m g2 74 [.bool (false), .slice (none) (0) (0), .slice (some ⟨g5, 0, none⟩) (([1]).length) (1)]) (by first | (rw [show (1) = ([1]).length from (Has.len hs7).symm]; done) | rfl) ?_
    obtain rfl := Option.some.inj hx4
    exact T_retP (rs := [.cell 2 74]) Try.results39 (.cell rfl (i := 5) rfl rfl agg74 (.nil)) (Ln := [.r (some ⟨g5, 0, none⟩) (1) (1) 27 1 (([1]).flatMap e_u32), .r none 0 0 0 1 [], .r none 0 0 0 1 [], .r none 0 0 0 1 [], .r none 0 0 0 1 []]) ⟨none, 0, (some ⟨g5, 0, none⟩), 1, (.r (some ⟨g5, 0, none⟩) (1) (1) 27 1 (([1]).flatMap e_u32)), (.r none 0 0 0 1 []), (.r none 0 0 0 1 []), (.r none 0 0 0 1 []), (.r none 0 0 0 1 []), rfl, rfl, (by first | exact Has.nil | exact HasN.nil), Has.len' (Has.up (L := (K ++ [.r (some ⟨g5, 0, none⟩) (1) (1) 27 1 (([1]).flatMap e_u32), .r none 0 0 0 1 [], .r none 0 0 0 1 [], .r none 0 0 0 1 [], .r none 0 0 0 1 []])) hs7 (SubE.appR2 (SubE.cons2 (i := 0) rfl (SubE.nil)))), trivial⟩ (loCons rfl (loCons rfl (loCons rfl (loCons rfl (loCons rfl (loNil)))))) (by exact .pick 4 rfl (.pick 3 rfl (.pick 2 rfl (.pick 1 rfl (.pick 0 rfl (.drop 0 rfl (.drop 0 rfl (.refl))))))))
  · have hx8 := ite_f h3 hx
    refine T_condF rfl ?_
    refine T_skip ?_
    refine T_next ?_
    refine T_seq ?_
    refine T_reg ?_
    refine T_val (Ev_field rfl fld74_1 rfl) rfl ?_
    refine T_val (Ev_load1 rfl (i := 1) rfl rfl one72) rfl ?_
    refine T_val (Ev_field rfl fld74_2 rfl) rfl ?_
    refine T_val (Ev_load1 rfl (i := 1) rfl rfl one72) rfl ?_
    obtain ⟨r9, h10, hx11⟩ := bnd_some hx8
    refine T_x (Wx_callL rfl (fun w1 hw1 => ratio_nat_gcd_ok p0.n p0.d (Has.len' ha0') (Has.len' ha1') h10 w1 (okApp (K := K) (K2 := []) hK (by exact (SubE.cons2 (i := 2) rfl (SubE.nil))) (by exact (SubE.nil)) hw1)) rfl ?_)
    rintro _ _ hlo ⟨A12, c13, e14, rfl, rfl, hs15, -⟩
    have lo16 := hlo e14 (by simp)
    refine T_app1 ?_
    have hs17 : Has (K ++ [e14]) _ _ _ _ _ _ := Has.assoc hs15
    refine T_val (Ev_assign rfl) rfl ?_
    refine T_nil ?_
    refine T_next ?_
    refine T_seq ?_
    obtain ⟨j7, hj7, hx11⟩ := jn_some hx11
    refine T_cutP (τ := Bool) (γ := Unit) (J := j7) (out := r) (fun s7 y7 => [(1, .pointer (some ⟨g1, 0, none⟩)), (2, .pointer (some ⟨g2, 0, none⟩)), (3, .slice (A12) ((r9).length) (c13)), (27, .bool (s7))]) (fun s7 y7 => [e14, .m g2 74 [.bool (false), .slice (none) (0) (0), .slice (none) (0) (0)], .m g1 74 [.bool (p0.neg), .slice (A0_0) ((p0.n).length) (c0_0), .slice (A0_1) ((p0.d).length) (c0_1)]] ++ [.old w]) (fun s7 y7 => True) ?_ ?_
    · intro s7 y7 hx32 hG33
      subst hj7
      refine T_caseB (s := 27) rfl (fun h34 => ?_) (fun h34 => ?_)
      · have hx35 := ite_t h34 hx32
        refine T_condT rfl ?_
        refine T_seq ?_
        refine T_reg ?_
        refine T_val (Ev_loadK rfl (i := 2) rfl rfl agg74) rfl ?_
        refine T_h (Wh_store rfl rfl rfl (.there (.here)) (.put (.put (.put (.done)))) rfl (List.cons_ne_nil _ _) agg74.2 ?_)
        refine T_nil ?_
        refine T_next ?_
        refine T_retc ?_
        refine T_outR ?_
        refine T_none 0 1 ?_
        refine T_none 0 1 ?_
        refine T_none 0 1 ?_
        refine T_none 0 1 ?_
        refine T_none 0 1 ?_
        obtain rfl := Option.some.inj hx35
        exact T_retP (rs := [.cell 2 74]) Try.results39 (.cell rfl (i := 6) rfl rfl agg74 (.nil)) (Ln := [.r none 0 0 0 1 [], .r none 0 0 0 1 [], .r none 0 0 0 1 [], .r none 0 0 0 1 [], .r none 0 0 0 1 []]) ⟨A0_0, c0_0, A0_1, c0_1, (.r none 0 0 0 1 []), (.r none 0 0 0 1 []), (.r none 0 0 0 1 []), (.r none 0 0 0 1 []), (.r none 0 0 0 1 []), rfl, rfl, Has.len' (Has.up (L := (K ++ [.r none 0 0 0 1 [], .r none 0 0 0 1 [], .r none 0 0 0 1 [], .r none 0 0 0 1 [], .r none 0 0 0 1 []])) ha0' (SubE.app2 SubE.nil)), Has.len' (Has.up (L := (K ++ [.r none 0 0 0 1 [], .r none 0 0 0 1 [], .r none 0 0 0 1 [], .r none 0 0 0 1 [], .r none 0 0 0 1 []])) ha1' (SubE.app2 SubE.nil)), trivial⟩ (loCons rfl (loCons rfl (loCons rfl (loCons rfl (loCons rfl (loNil)))))) (by exact .pick 4 rfl (.pick 3 rfl (.pick 2 rfl (.pick 1 rfl (.pick 0 rfl (.drop 0 rfl (.drop 0 rfl (.drop 0 rfl (.refl)))))))))
      · have hx36 := ite_bf h34 hx32
        refine T_condF rfl ?_
        refine T_skip ?_
        refine T_next ?_
        refine T_seq ?_
        refine T_reg ?_
        refine T_val (Ev_field rfl fld74_1 rfl) rfl ?_
        refine T_val (Ev_load1 rfl (i := 2) rfl rfl one72) rfl ?_
        refine T_val (Ev_move rfl) rfl ?_
        obtain ⟨r37, h38, hx39⟩ := bnd_some hx36
        refine T_x (Wx_callL rfl (fun w1 hw1 => ratio_nat_div_ok p0.n r9 (Has.len' (Has.up (L := (K ++ [e14])) ha0' (SubE.app2 SubE.nil))) (Has.len' hs17) h38 w1 (okApp (K := K) (K2 := [e14]) hK (by exact (SubE.cons2 (i := 3) rfl (SubE.nil))) (by exact (SubE.cons2 (i := 0) rfl (SubE.nil))) hw1)) rfl ?_)
        rintro _ _ hlo ⟨A40, c41, A42, c43, e44, e45, rfl, rfl, hs46, hs47, -⟩
        have lo48 := hlo e44 (by simp)
        have lo49 := hlo e45 (by simp)
        refine T_app2 ?_
        have hs50 : Has (K ++ [e14, e44, e45]) _ _ _ _ _ _ := Has.assoc hs46
        have hs51 : Has (K ++ [e14, e44, e45]) _ _ _ _ _ _ := Has.assoc hs47
        refine T_val (Ev_move rfl) rfl ?_
        refine T_val (Ev_extract rfl rfl) rfl ?_
        refine T_val (Ev_extract rfl rfl) rfl ?_
        refine T_val (Ev_assign rfl) rfl ?_
        refine T_val (Ev_assign rfl) rfl ?_
        refine T_nil ?_
        refine T_next ?_
        refine T_seq ?_
        refine T_reg ?_
        refine T_val (Ev_field rfl fld74_2 rfl) rfl ?_
        refine T_val (Ev_load1 rfl (i := 4) rfl rfl one72) rfl ?_
        refine T_val (Ev_move rfl) rfl ?_
        obtain ⟨r52, h53, hx54⟩ := bnd_some hx39
        refine T_x (Wx_callL rfl (fun w1 hw1 => ratio_nat_div_ok p0.d r9 (Has.len' (Has.up (L := (K ++ [e14])) ha1' (SubE.app2 SubE.nil))) (Has.len' hs17) h53 w1 (okApp (K := K) (K2 := [e14]) hK (by exact (SubE.cons2 (i := 5) rfl (SubE.nil))) (by exact (SubE.cons2 (i := 2) rfl (SubE.nil))) hw1)) rfl ?_)
        rintro _ _ hlo ⟨A55, c56, A57, c58, e59, e60, rfl, rfl, hs61, hs62, -⟩
        have lo63 := hlo e59 (by simp)
        have lo64 := hlo e60 (by simp)
        refine T_app2 ?_
        have hs65 : Has (K ++ [e14, e59, e60]) _ _ _ _ _ _ := Has.assoc hs61
        have hs66 : Has (K ++ [e14, e59, e60]) _ _ _ _ _ _ := Has.assoc hs62
        refine T_val (Ev_move rfl) rfl ?_
        refine T_val (Ev_extract rfl rfl) rfl ?_
        refine T_val (Ev_extract rfl rfl) rfl ?_
        refine T_val (Ev_assign rfl) rfl ?_
        refine T_val (Ev_assign rfl) rfl ?_
        refine T_nil ?_
        refine T_next ?_
        refine T_seq ?_
        refine T_reg ?_
        refine T_val (Ev_field rfl fld74_0 rfl) rfl ?_
        refine T_val (Ev_load1 rfl (i := 6) rfl rfl one4) rfl ?_
        refine T_val (Ev_move rfl) rfl ?_
        refine T_val (Ev_move rfl) rfl ?_
        refine T_val (Ev_build rfl (bld74_0b1s2s _ _ _ _ _ _ _)) rfl ?_
        refine T_h (Wh_store rfl rfl rfl (.there (.there (.there (.there (.there (.here)))))) (.put (.put (.put (.done)))) rfl (List.cons_ne_nil _ _) agg74.2 ?_)
        refine T_nil ?_
        refine T_next ?_
        refine T_retc ?_
        obtain rfl := Option.some.inj hx54
        exact T_retP (rs := [.cell 2 74]) Try.results39 (.cell rfl (i := 5) rfl rfl agg74 (.nil)) (Ln := [e14, e44, e45, e59, e60]) ⟨A40, c41, A55, c56, e14, e44, e45, e59, e60, rfl, rfl, Has.len' (Has.up (L := (K ++ [e14, e44, e45, e59, e60])) hs50 (SubE.app2 (SubE.cons2 (i := 0) rfl (SubE.cons2 (i := 1) rfl (SubE.cons2 (i := 2) rfl (SubE.nil)))))), Has.len' (Has.up (L := (K ++ [e14, e44, e45, e59, e60])) hs65 (SubE.app2 (SubE.cons2 (i := 0) rfl (SubE.cons2 (i := 3) rfl (SubE.cons2 (i := 4) rfl (SubE.nil)))))), trivial⟩ (loCons lo16 (loCons lo48 (loCons lo49 (loCons lo63 (loCons lo64 (loNil)))))) (by exact .pick 4 rfl (.pick 2 rfl (.pick 2 rfl (.pick 0 rfl (.pick 0 rfl (.drop 0 rfl (.drop 0 rfl (.refl))))))))
    · skip
      refine T_reg ?_
      refine T_val (Ev_move rfl) rfl ?_
      refine T_val (Ev_len rfl 27 Try.underlying72) rfl ?_
      refine T_val (Ev_eql rfl rfl) rfl ?_
      refine T_val (Ev_move rfl) rfl ?_
      refine T_caseP (s := 22) rfl (fun h18 => ?_) (fun h18 => ?_)
      · have hx19 := ite_t h18 hx11
        refine T_valG rfl rfl rfl (Ev_move rfl) rfl ?_
        obtain ⟨x20, h21, hx22⟩ := bnd_some hx19
        have hw30 := Has.low (E := [e14]) hs17 hK
        obtain ⟨b23, o24, j25, hA26, hj27, hl28, hp29⟩ := Has.at_idx hw30 h21
        refine T_valG rfl rfl rfl (Ev_index rfl rfl hA26 (j := j25) hj27 hl28 slc72) rfl ?_
        refine T_valG rfl rfl rfl (Ev_loadP0 rfl hp29 (SubE.cons2 (i := 3) rfl (SubE.cons2 (i := 0) rfl (SubE.nil))) rfl one27) rfl ?_
        refine T_valG rfl rfl rfl (Ev_eql rfl rfl) rfl ?_
        refine T_val (Ev_pickT rfl rfl) rfl ?_
        refine T_nil ?_
        exact T_metP (decide (x20 = 1)) () hx22 trivial (by exact .cons rfl (.cons rfl (.cons rfl (.cons rfl (.nil))))) (by exact .pick 0 rfl (.pick 0 rfl (.pick 0 rfl (.refl))))
      · have hx31 := ite_f h18 hx11
        refine T_skipG rfl rfl rfl rfl rfl ?_
        refine T_skipG rfl rfl rfl rfl rfl ?_
        refine T_skipG rfl rfl rfl rfl rfl ?_
        refine T_skipG rfl rfl rfl rfl rfl ?_
        refine T_val (Ev_pickF rfl rfl) rfl ?_
        refine T_nil ?_
        exact T_metP false () hx31 trivial (by exact .cons rfl (.cons rfl (.cons rfl (.cons rfl (.nil))))) (by exact .pick 0 rfl (.pick 0 rfl (.pick 0 rfl (.refl))))
end Go.Proofs.Ytdcdabkoajhllaa
