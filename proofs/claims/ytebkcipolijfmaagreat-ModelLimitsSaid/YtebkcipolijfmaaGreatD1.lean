/- Walks of the program, with their plain functions: numbers, turns, circles. -/
import Derived.Test.YtebkcipolijfmaaGreatFlow19
import Derived.Test.YtebkcipolijfmaaGreatProg
namespace Go.Proofs.YtebkcipolijfmaaGreat
open Go Go.RowKit
theorem mixed:Tryz.prog.follows .mixedOrders=true:=by kernel_rfl
instance:MixI Tryz.prog:=⟨mixed⟩
theorem Me:Hg Tryz.prog 204 102 1:=.mk Tryz.underlying204 (show Tryz.prog.info? 102=some Tryz.t102 from by kernel_rfl) (by kernel_rfl)
instance:Lb Tryz.prog 204 102 1:=⟨Me⟩
theorem Lg:Mn Tryz.prog 102:=.mk Tryz.underlying102 rfl (show Tryz.prog.info? 102=some Tryz.t102 from by kernel_rfl) (by kernel_rfl)
instance:OneI Tryz.prog 102:=⟨Lg⟩
theorem Ta (x0:Int) (x1:Int):Dm Tryz.prog 204 2 [(0,.int .u32 x0),(1,.int .u32 x1)] 102 [.int .u32 x0,.int .u32 x1]:=fun w=>by kernel_rfl
instance (x0:Int) (x1:Int):Mm Tryz.prog 204 2 [(0,.int .u32 x0),(1,.int .u32 x1)] 102 [.int .u32 x0,.int .u32 x1]:=⟨Ta _ _⟩
theorem Adw:Iw Tryz.prog 206 [.bool (false),.slice (none) (0) (0),.slice (none) (0) (0)]:=⟨_,Tryz.zeroValue206,rfl⟩
instance:Qb Tryz.prog 206 [.bool (false),.slice (none) (0) (0),.slice (none) (0) (0)]:=⟨Adw⟩
theorem Wj:Ck Tryz.prog 206 0 0:=.mk Tryz.underlying206 rfl rfl (show Tryz.prog.info? 4=some Tryz.t4 from by kernel_rfl) (show Tryz.t4.size=1 from by kernel_rfl) rfl
instance:Dq Tryz.prog 206 0 0:=⟨Wj⟩
theorem one4:Mn Tryz.prog 4:=.mk Tryz.underlying4 rfl (show Tryz.prog.info? 4=some Tryz.t4 from by kernel_rfl) (by kernel_rfl)
instance:OneI Tryz.prog 4:=⟨one4⟩
theorem Pd:Ck Tryz.prog 206 1 1:=.mk Tryz.underlying206 rfl rfl (show Tryz.prog.info? 204=some Tryz.t204 from by kernel_rfl) (show Tryz.t204.size=1 from by kernel_rfl) rfl
instance:Dq Tryz.prog 206 1 1:=⟨Pd⟩
theorem Mf:Mn Tryz.prog 204:=.mk Tryz.underlying204 rfl (show Tryz.prog.info? 204=some Tryz.t204 from by kernel_rfl) (by kernel_rfl)
instance:OneI Tryz.prog 204:=⟨Mf⟩
theorem Nw:Ck Tryz.prog 206 2 2:=.mk Tryz.underlying206 rfl rfl (show Tryz.prog.info? 204=some Tryz.t204 from by kernel_rfl) (show Tryz.t204.size=1 from by kernel_rfl) rfl
instance:Dq Tryz.prog 206 2 2:=⟨Nw⟩
theorem Kc (x0:Bool) (x1:Option Addr) (x2:Nat) (x3:Nat) (x4:Option Addr) (x5:Nat) (x6:Nat):Fh Tryz.prog 206 [(0,.bool x0),(1,.slice x1 x2 x3),(2,.slice x4 x5 x6)] [.bool x0,.slice x1 x2 x3,.slice x4 x5 x6]:=fun w=>by kernel_rfl
instance (x0:Bool) (x1:Option Addr) (x2:Nat) (x3:Nat) (x4:Option Addr) (x5:Nat) (x6:Nat):Jh Tryz.prog 206 [(0,.bool x0),(1,.slice x1 x2 x3),(2,.slice x4 x5 x6)] [.bool x0,.slice x1 x2 x3,.slice x4 x5 x6]:=⟨Kc _ _ _ _ _ _ _⟩
theorem Mg:Lc Tryz.prog 206 3:=.mk Tryz.underlying206 rfl (show Tryz.prog.info? 206=some Tryz.t206 from by kernel_rfl) (by kernel_rfl)
instance:AggI Tryz.prog 206 3:=⟨Mg⟩
theorem Nx (x0:Int):Dm Tryz.prog 204 1 [(0,.int .u32 x0)] 102 [.int .u32 x0]:=fun w=>by kernel_rfl
instance (x0:Int):Mm Tryz.prog 204 1 [(0,.int .u32 x0)] 102 [.int .u32 x0]:=⟨Nx _⟩
theorem Avb:Hg Tryz.prog 194 38 2:=.mk Tryz.underlying194 (show Tryz.prog.info? 38=some Tryz.t38 from by kernel_rfl) (by kernel_rfl)
instance:Lb Tryz.prog 194 38 2:=⟨Avb⟩
theorem Sb:Lc Tryz.prog 38 2:=.mk Tryz.underlying38 rfl (show Tryz.prog.info? 38=some Tryz.t38 from by kernel_rfl) (by kernel_rfl)
instance:AggI Tryz.prog 38 2:=⟨Sb⟩
theorem Apw:Iw Tryz.prog 38 [.int .i64 (0),.int .i64 (0)]:=⟨_,Tryz.zeroValue38,rfl⟩
instance:Qb Tryz.prog 38 [.int .i64 (0),.int .i64 (0)]:=⟨Apw⟩
theorem As2:Ck Tryz.prog 38 0 0:=.mk Tryz.underlying38 rfl rfl (show Tryz.prog.info? 3=some Tryz.t3 from by kernel_rfl) (show Tryz.t3.size=1 from by kernel_rfl) rfl
instance:Dq Tryz.prog 38 0 0:=⟨As2⟩
theorem one3:Mn Tryz.prog 3:=.mk Tryz.underlying3 rfl (show Tryz.prog.info? 3=some Tryz.t3 from by kernel_rfl) (by kernel_rfl)
instance:OneI Tryz.prog 3:=⟨one3⟩
theorem As3:Ck Tryz.prog 38 1 1:=.mk Tryz.underlying38 rfl rfl (show Tryz.prog.info? 3=some Tryz.t3 from by kernel_rfl) (show Tryz.t3.size=1 from by kernel_rfl) rfl
instance:Dq Tryz.prog 38 1 1:=⟨As3⟩
theorem Oz (x0:Int) (x1:Int) (x2:Int) (x3:Int) (x4:Int) (x5:Int):Dm Tryz.prog 194 3 [(0,.agg #[.int .i64 x0,.int .i64 x1]),(1,.agg #[.int .i64 x2,.int .i64 x3]),(2,.agg #[.int .i64 x4,.int .i64 x5])] 38 [.int .i64 x0,.int .i64 x1,.int .i64 x2,.int .i64 x3,.int .i64 x4,.int .i64 x5]:=fun w=>by kernel_rfl
instance (x0:Int) (x1:Int) (x2:Int) (x3:Int) (x4:Int) (x5:Int):Mm Tryz.prog 194 3 [(0,.agg #[.int .i64 x0,.int .i64 x1]),(1,.agg #[.int .i64 x2,.int .i64 x3]),(2,.agg #[.int .i64 x4,.int .i64 x5])] 38 [.int .i64 x0,.int .i64 x1,.int .i64 x2,.int .i64 x3,.int .i64 x4,.int .i64 x5]:=⟨Oz _ _ _ _ _ _⟩
theorem Lq (x0:Int) (x1:Int) (x2:Int) (x3:Int) (x4:Int) (x5:Int) (x6:Int) (x7:Int):Dm Tryz.prog 194 4 [(0,.agg #[.int .i64 x0,.int .i64 x1]),(1,.agg #[.int .i64 x2,.int .i64 x3]),(2,.agg #[.int .i64 x4,.int .i64 x5]),(3,.agg #[.int .i64 x6,.int .i64 x7])] 38 [.int .i64 x0,.int .i64 x1,.int .i64 x2,.int .i64 x3,.int .i64 x4,.int .i64 x5,.int .i64 x6,.int .i64 x7]:=fun w=>by kernel_rfl
instance (x0:Int) (x1:Int) (x2:Int) (x3:Int) (x4:Int) (x5:Int) (x6:Int) (x7:Int):Mm Tryz.prog 194 4 [(0,.agg #[.int .i64 x0,.int .i64 x1]),(1,.agg #[.int .i64 x2,.int .i64 x3]),(2,.agg #[.int .i64 x4,.int .i64 x5]),(3,.agg #[.int .i64 x6,.int .i64 x7])] 38 [.int .i64 x0,.int .i64 x1,.int .i64 x2,.int .i64 x3,.int .i64 x4,.int .i64 x5,.int .i64 x6,.int .i64 x7]:=⟨Lq _ _ _ _ _ _ _ _⟩
theorem Adh:Ck Tryz.prog 41 0 0:=.mk Tryz.underlying41 rfl rfl (show Tryz.prog.info? 3=some Tryz.t3 from by kernel_rfl) (show Tryz.t3.size=1 from by kernel_rfl) rfl
instance:Dq Tryz.prog 41 0 0:=⟨Adh⟩
theorem Ux:Ck Tryz.prog 41 1 1:=.mk Tryz.underlying41 rfl rfl (show Tryz.prog.info? 3=some Tryz.t3 from by kernel_rfl) (show Tryz.t3.size=1 from by kernel_rfl) rfl
instance:Dq Tryz.prog 41 1 1:=⟨Ux⟩
theorem As4:Ck Tryz.prog 43 0 0:=.mk Tryz.underlying43 rfl rfl (show Tryz.prog.info? 3=some Tryz.t3 from by kernel_rfl) (show Tryz.t3.size=1 from by kernel_rfl) rfl
instance:Dq Tryz.prog 43 0 0:=⟨As4⟩
theorem As5:Ck Tryz.prog 43 1 1:=.mk Tryz.underlying43 rfl rfl (show Tryz.prog.info? 3=some Tryz.t3 from by kernel_rfl) (show Tryz.t3.size=1 from by kernel_rfl) rfl
instance:Dq Tryz.prog 43 1 1:=⟨As5⟩
theorem Adx (x0:Int) (x1:Int):Fh Tryz.prog 38 [(0,.int .i64 x0),(1,.int .i64 x1)] [.int .i64 x0,.int .i64 x1]:=fun w=>by kernel_rfl
instance (x0:Int) (x1:Int):Jh Tryz.prog 38 [(0,.int .i64 x0),(1,.int .i64 x1)] [.int .i64 x0,.int .i64 x1]:=⟨Adx _ _⟩
theorem Wk:Lc Tryz.prog 43 4:=.mk Tryz.underlying43 rfl (show Tryz.prog.info? 43=some Tryz.t43 from by kernel_rfl) (by kernel_rfl)
instance:AggI Tryz.prog 43 4:=⟨Wk⟩
theorem Qn:Ck Tryz.prog 43 2 2:=.mk Tryz.underlying43 rfl rfl (show Tryz.prog.info? 41=some Tryz.t41 from by kernel_rfl) (show Tryz.t41.size=2 from by kernel_rfl) rfl
instance:Dq Tryz.prog 43 2 2:=⟨Qn⟩
theorem Apx:Lc Tryz.prog 41 2:=.mk Tryz.underlying41 rfl (show Tryz.prog.info? 41=some Tryz.t41 from by kernel_rfl) (by kernel_rfl)
instance:AggI Tryz.prog 41 2:=⟨Apx⟩
theorem Tb:Iw Tryz.prog 48 [.int .i64 (0),.int .i64 (0)]:=⟨_,Tryz.zeroValue48,rfl⟩
instance:Qb Tryz.prog 48 [.int .i64 (0),.int .i64 (0)]:=⟨Tb⟩
theorem Cx (x0:Int) (x1:Int):Fh Tryz.prog 48 [(0,.int .i64 x0),(1,.int .i64 x1)] [.int .i64 x0,.int .i64 x1]:=fun w=>by kernel_rfl
instance (x0:Int) (x1:Int):Jh Tryz.prog 48 [(0,.int .i64 x0),(1,.int .i64 x1)] [.int .i64 x0,.int .i64 x1]:=⟨Cx _ _⟩
theorem Gf:Lc Tryz.prog 48 2:=.arr Tryz.underlying48 (show Tryz.prog.info? 48=some Tryz.t48 from by kernel_rfl) (by kernel_rfl)
instance:AggI Tryz.prog 48 2:=⟨Gf⟩
theorem Dw:Acf Tryz.prog 48 2 1:=.mk Tryz.underlying48 (show Tryz.prog.info? 3=some Tryz.t3 from by kernel_rfl) (by kernel_rfl)
instance:ArrI Tryz.prog 48 2 1:=⟨Dw⟩
theorem Px (x0:Int) (x1:Int) (x2:Int) (x3:Int) (x4:Int) (x5:Int):Fh Tryz.prog 241 [(0,.agg #[.int .i64 x0,.int .i64 x1]),(1,.agg #[.int .i64 x2,.int .i64 x3]),(2,.agg #[.int .i64 x4,.int .i64 x5])] [.int .i64 x0,.int .i64 x1,.int .i64 x2,.int .i64 x3,.int .i64 x4,.int .i64 x5]:=fun w=>by kernel_rfl
instance (x0:Int) (x1:Int) (x2:Int) (x3:Int) (x4:Int) (x5:Int):Jh Tryz.prog 241 [(0,.agg #[.int .i64 x0,.int .i64 x1]),(1,.agg #[.int .i64 x2,.int .i64 x3]),(2,.agg #[.int .i64 x4,.int .i64 x5])] [.int .i64 x0,.int .i64 x1,.int .i64 x2,.int .i64 x3,.int .i64 x4,.int .i64 x5]:=⟨Px _ _ _ _ _ _⟩
theorem Awu (a0:Int) (a1:Int) (b0:Int) (b1:Int):∀ w,(Op.equalIn 10000 38 (.agg #[.int .i64 (a0),.int .i64 (a1)]) (.agg #[.int .i64 (b0),.int .i64 (b1)])).run Tryz.prog w = .ok ((((a0) == (b0)) && (((a1) == (b1)) && true))) w :=
 EqF.struct Tryz.underlying38 (by kernel_rfl) (.cons rfl (fun w=>by kernel_rfl) (fun w=>by kernel_rfl) (fun w=>run_equalIn_int w 9998 3 .i64 .i64 _ _ Tryz.underlying3) (.cons rfl (fun w=>by kernel_rfl) (fun w=>by kernel_rfl) (fun w=>run_equalIn_int w 9998 3 .i64 .i64 _ _ Tryz.underlying3) (EqF.nil)))
instance (a0:Int) (a1:Int) (b0:Int) (b1:Int):EqSI Tryz.prog 38 [.int .i64 (a0),.int .i64 (a1)] [.int .i64 (b0),.int .i64 (b1)] ((((a0) == (b0)) && (((a1) == (b1)) && true))):=⟨Awu _ _ _ _,by kernel_rfl⟩
instance:UndI Tryz.prog 204 (.slice 102):=⟨Tryz.underlying204⟩
def Aj (x:Int):List Value:=[.int .u32 (x)]
instance (x0:Int):DecI Aj [.int .u32 (x0)] (x0):=⟨rfl⟩
instance:EncI 102 Aj:=⟨trivial⟩
noncomputable def Mk  : (List Int)→Option (Sum (List Int) (List Int)):=fun s0 =>
 jn (fun (s6:Bool) =>
 if s6=true then (gd (0≤(w64 (((((s0).length:Nat):Int))-1))∧(w64 (((((s0).length:Nat):Int))-1))≤(((s0).length:Nat):Int)) <|
 some (.inl (subl s0 0 (w64 (((((s0).length:Nat):Int))-1)))))
 else (some (.inr s0)))
 (fun j6=>if 0 < ((((s0).length:Nat):Int)) then (bnd (idx s0 (w64 (((((s0).length:Nat):Int))-1))) fun x0 =>
 j6 (decide (x0=0)))
 else (j6 false))
noncomputable def Cj (p0:List Int):Option (List Int) :=
 jn (fun (s2:List Int) =>
 some s2)
 (fun j2=>bnd (lfix (Mk) p0) fun t0 =>
 j2 t0)
instance:UndI Tryz.prog 227 (.int .u64):=⟨Tryz.underlying227⟩
instance:UndI Tryz.prog 102 (.int .u32):=⟨Tryz.underlying102⟩
noncomputable def Jw (p0:Int):Option (List Int) :=
 bnd (Cj ([wu32 (p0),wu32 (shr_ .u64 p0 32)])) fun r3 =>
 some r3
noncomputable def Ho (p0:Int) (p1:Int) (p2:Int):Option (Int × Int) :=
 some (wu32 (wu64 ((wu64 ((wu64 (p0))+(wu64 (p1))))+(wu64 (p2)))),wu32 (shr_ .u64 (wu64 ((wu64 ((wu64 (p0))+(wu64 (p1))))+(wu64 (p2)))) 32))
noncomputable def Jm (p0:Int) (p1:Int) (p2:Int):Option (Int × Int) :=
 some (wu32 ((wu32 (p0-p1))-p2),shr_ .u32 (Fj .u32 (Cw .u32 (Xs .u32 (if IntKind.signed .u32 then -1 else IntKind.max .u32) p0) p1) (Cw .u32 (Xs .u32 (if IntKind.signed .u32 then -1 else IntKind.max .u32) (Xs .u32 p0 p1)) (wu32 ((wu32 (p0-p1))-p2)))) 31)
instance:MkI Tryz.prog 204 102 1 4 Aj 0:=⟨Tryz.t102,.int .u32 (0),Tryz.underlying204,by kernel_rfl,by kernel_rfl,rfl,by kernel_rfl,by kernel_rfl⟩
noncomputable def Gk (p1:List Int) (s0:(List Int) × Int) (x0:Int):((List Int) × Int × Int)→Option (Sum ((List Int) × Int × Int) ((List Int) × Int)):=fun s1 =>
 if s1.2.2 < ((((p1).length:Nat):Int)) then (bnd (idx p1 s1.2.2) fun x1 =>
 bnd (idx s1.1 (w64 (s0.2+s1.2.2))) fun x2 =>
 bnd (idx s1.1 (w64 (s0.2+s1.2.2))) fun x3 =>
 some (.inl (setI s1.1 (w64 (s0.2+s1.2.2)) (wu32 (wu64 ((wu64 ((wu64 ((wu64 (x0))*(wu64 (x1))))+(wu64 (x2))))+s1.2.1))),shr_ .u64 (wu64 ((wu64 ((wu64 ((wu64 (x0))*(wu64 (x1))))+(wu64 (x2))))+s1.2.1)) 32,w64 (s1.2.2+1))))
 else (some (.inr (s1.1,s1.2.1)))
noncomputable def Gl (p0:List Int) (p1:List Int):((List Int) × Int)→Option (Sum ((List Int) × Int) (List Int)):=fun s0 =>
 if s0.2 < ((((p0).length:Nat):Int)) then (bnd (idx p0 s0.2) fun x0 =>
 jn (fun (s1:(List Int) × Int) =>
 bnd (idx s1.1 (w64 (s0.2+((((p1).length:Nat):Int))))) fun x1 =>
 some (.inl (setI s1.1 (w64 (s0.2+((((p1).length:Nat):Int)))) (wu32 (s1.2)),w64 (s0.2+1))))
 (fun j0=>bnd (lfix (Gk p1 s0 x0) (s0.1,0,0)) fun t0 =>
 j0 t0))
 else (some (.inr s0.1))
noncomputable def Dg (p0:List Int) (p1:List Int):Option (List Int) :=
 gd ((0:Int)≤(w64 (((((p0).length:Nat):Int))+((((p1).length:Nat):Int))))∧4*Int.toNat (w64 (((((p0).length:Nat):Int))+((((p1).length:Nat):Int))))≤140737488355328) <|
 jn (fun (s3:List Int) =>
 bnd (Cj s3) fun r0 =>
 some r0)
 (fun j3=>bnd (lfix (Gl p0 p1) (List.replicate (Int.toNat (w64 (((((p0).length:Nat):Int))+((((p1).length:Nat):Int))))) (0:Int),0)) fun t0 =>
 j3 t0)
noncomputable def Nj (p0:List Int) (p1:List Int):Int→Option (Sum Int (Sum Unit Int)):=fun s0 =>
 if 0≤s0 then (bnd (idx p0 s0) fun x0 =>
 bnd (idx p1 s0) fun x1 =>
 if x0=x1 then (some (.inl (w64 (s0-1))))
 else (bnd (idx p0 s0) fun x2 =>
 bnd (idx p1 s0) fun x3 =>
 if x2 < x3 then (some (.inr (.inr (-1))))
 else (some (.inr (.inr (1))))))
 else (some (.inr (.inl ())))
noncomputable def Kd (p0:List Int) (p1:List Int):Option Int :=
 if ((((p0).length:Nat):Int))=((((p1).length:Nat):Int)) then (jn (fun (s8:Unit) =>
 some 0)
 (fun j8=>bnd (lfix (Nj p0 p1) (w64 (((((p0).length:Nat):Int))-1))) fun t0 =>
 (match t0 with
 | (.inl z0)=>j8 z0
 | (.inr (z0))=>some z0
 )))
 else (if ((((p0).length:Nat):Int)) < ((((p1).length:Nat):Int)) then (some (-1))
 else (some 1))
noncomputable def Ip (s2:(List Int) × (List Int)):((List Int) × Int × Int)→Option (Sum ((List Int) × Int × Int) ((List Int) × Int)):=fun s0 =>
 if s0.2.2 < ((((s2.1).length:Nat):Int)) then (jn (fun (s1:Int) =>
 bnd (idx s2.1 s0.2.2) fun x0 =>
 bnd (Ho x0 s1 s0.2.1) fun r0 =>
 bnd (idx s0.1 s0.2.2) fun x1 =>
 some (.inl (setI s0.1 s0.2.2 r0.1,r0.2,w64 (s0.2.2+1))))
 (fun j0=>if s0.2.2 < ((((s2.2).length:Nat):Int)) then (bnd (idx s2.2 s0.2.2) fun x2 =>
 j0 x2)
 else (j0 0)))
 else (some (.inr (s0.1,s0.2.1)))
noncomputable def Ke (p0:List Int) (p1:List Int):Option (List Int) :=
 jn (fun (s2:(List Int) × (List Int)) =>
 gd ((0:Int)≤(w64 (((((s2.1).length:Nat):Int))+1))∧4*Int.toNat (w64 (((((s2.1).length:Nat):Int))+1))≤140737488355328) <|
 jn (fun (s6:(List Int) × Int) =>
 bnd (idx s6.1 ((((s2.1).length:Nat):Int))) fun x0 =>
 bnd (Cj (setI s6.1 ((((s2.1).length:Nat):Int)) s6.2)) fun r0 =>
 some r0)
 (fun j6=>bnd (lfix (Ip s2) (List.replicate (Int.toNat (w64 (((((s2.1).length:Nat):Int))+1))) (0:Int),0,0)) fun t0 =>
 j6 t0))
 (fun j2=>if ((((p0).length:Nat):Int)) < ((((p1).length:Nat):Int)) then (j2 (p1,p0))
 else (j2 (p0,p1)))
noncomputable def Ku (p0:List Int) (p1:List Int):((List Int) × Int × Int)→Option (Sum ((List Int) × Int × Int) (List Int)):=fun s0 =>
 if s0.2.2 < ((((p0).length:Nat):Int)) then (jn (fun (s1:Int) =>
 bnd (idx p0 s0.2.2) fun x0 =>
 bnd (Jm x0 s1 s0.2.1) fun r0 =>
 bnd (idx s0.1 s0.2.2) fun x1 =>
 some (.inl (setI s0.1 s0.2.2 r0.1,r0.2,w64 (s0.2.2+1))))
 (fun j0=>if s0.2.2 < ((((p1).length:Nat):Int)) then (bnd (idx p1 s0.2.2) fun x2 =>
 j0 x2)
 else (j0 0)))
 else (some (.inr s0.1))
noncomputable def Kf (p0:List Int) (p1:List Int):Option (List Int) :=
 gd ((0:Int)≤((((p0).length:Nat):Int))∧4*Int.toNat ((((p0).length:Nat):Int))≤140737488355328) <|
 jn (fun (s4:List Int) =>
 bnd (Cj s4) fun r0 =>
 some r0)
 (fun j4=>bnd (lfix (Ku p0 p1) (List.replicate (Int.toNat ((((p0).length:Nat):Int))) (0:Int),0,0)) fun t0 =>
 j4 t0)
structure Ba where
 neg:Bool
 n:List Int
 d:List Int
instance:UndI Tryz.prog 4 (.bool):=⟨Tryz.underlying4⟩
noncomputable def Dr (p0:Ba) (p1:Ba):Option Ba :=
 bnd (Dg p0.n p1.n) fun r4 =>
 bnd (Dg p0.d p1.d) fun r0 =>
 some (⟨!((p0.neg) == (p1.neg)),r4,r0⟩:Ba)
noncomputable def Lv (p0:Ba) (p1:Ba):Option Ba :=
 bnd (Dg p0.n p1.d) fun r4 =>
 bnd (Dg p1.n p0.d) fun r0 =>
 bnd (Dg p0.d p1.d) fun r1 =>
 if ((p0.neg) == (p1.neg))=true then (bnd (Ke r4 r0) fun r2 =>
 some (⟨p0.neg,r2,r1⟩:Ba))
 else (bnd (Kd r4 r0) fun r3 =>
 if 0≤r3 then (bnd (Kf r4 r0) fun r5 =>
 some (⟨p0.neg,r5,r1⟩:Ba))
 else (bnd (Kf r0 r4) fun r6 =>
 some (⟨p1.neg,r6,r1⟩:Ba)))
noncomputable def Kv (p0:Ba):Option Int :=
 if ((((p0.n).length:Nat):Int))=0 then (some 0)
 else (if p0.neg=true then (some (-1))
 else (some 1))
instance:UndI Tryz.prog 3 (.int .i64):=⟨Tryz.underlying3⟩
noncomputable def Hh (p0:Int):Option Ba :=
 if p0 < 0 then (bnd (Jw (wu64 ((wu64 (w64 (-(w64 (p0+1)))))+1))) fun r4 =>
 some (⟨true,r4,[1]⟩:Ba))
 else (bnd (Jw (wu64 (p0))) fun r0 =>
 some (⟨false,r0,[1]⟩:Ba))
structure Ac where
 X:Int
 Y:Int
instance:UndI Tryz.prog 194 (.slice 38):=⟨Tryz.underlying194⟩
noncomputable def Jn (p0:List Ac):Int→Option (Sum Int (Sum Unit Bool)):=fun s0 =>
 if s0 < ((((p0).length:Nat):Int)) then (bnd (idx p0 s0) fun x0 =>
 jn (fun (s1:Bool) =>
 if s1=true then (some (.inr (.inr (false))))
 else (some (.inl (w64 (s0+1)))))
 (fun j0=>if x0.X < (-268435456) then (j0 true)
 else (if 268435456 < x0.X then (j0 true)
 else (if x0.Y < (-268435456) then (j0 true)
 else (j0 (decide (268435456 < x0.Y)))))))
 else (some (.inr (.inl ())))
noncomputable def Nk (p0:List Ac):Option Bool :=
 jn (fun (s2:Unit) =>
 some true)
 (fun j2=>bnd (lfix (Jn p0) 0) fun t0 =>
 (match t0 with
 | (.inl z0)=>j2 z0
 | (.inr (z0))=>some z0
 ))
def Ady (x:Ac):List Value:=[.int .i64 (x.X),.int .i64 (x.Y)]
instance (x0:Int) (x1:Int):DecI Ady [.int .i64 (x0),.int .i64 (x1)] (⟨x0,x1⟩):=⟨rfl⟩
instance:EncI 38 Ady:=⟨trivial⟩
noncomputable def Jo (p0:Int):Option Int :=
 if p0 < 0 then (some (-1))
 else (if 0 < p0 then (some 1)
 else (some 0))
noncomputable def Jx (p0:Ac) (p1:Ac) (p2:Ac):Option Int :=
 some (w64 ((w64 ((w64 (p1.X-p0.X))*(w64 (p2.Y-p0.Y))))-(w64 ((w64 (p1.Y-p0.Y))*(w64 (p2.X-p0.X))))))
structure Av where
 Lo:Int
 Hi:Int
structure Ab where
 X:Int
 Y:Int
 Z:Av
structure Nl where
 Neg:Bool
 L:List Int
structure Er where
 N:Nl
 D:List Int
structure S_lidarref06_Spot where
 X:Er
 Y:Er
noncomputable def Qe (p0:Ac) (p1:Ac) (p2:Ac):Option (Int × Int) :=
 bnd (Nk ([p0,p1,p2])) fun r6 =>
 if r6=true then (bnd (Jx p0 p1 p2) fun r0 =>
 bnd (Jo r0) fun r1 =>
 some (r1,0))
 else (some (0,11))
noncomputable def Oj (p0:Ac) (p1:Ac):Option Int :=
 some (w64 ((w64 ((w64 (p0.X-p1.X))*(w64 (p0.X-p1.X))))+(w64 ((w64 (p0.Y-p1.Y))*(w64 (p0.Y-p1.Y))))))
noncomputable def Pe (p0:Ac) (p1:Ac) (p2:Ac) (p3:Ac):Option (Int × Int) :=
 bnd (Nk ([p0,p1,p2,p3])) fun r7 =>
 if r7=true then (bnd (Jx p0 p1 p2) fun r0 =>
 bnd (Jo r0) fun r1 =>
 if r1=0 then (some (0,12))
 else (bnd (Oj p0 p3) fun r2 =>
 bnd (Hh r2) fun r3 =>
 bnd (Jx p3 p1 p2) fun r4 =>
 bnd (Hh r4) fun r5 =>
 bnd (Dr r3 r5) fun r6 =>
 bnd (Oj p1 p3) fun r8 =>
 bnd (Hh r8) fun r9 =>
 bnd (Jx p3 p2 p0) fun r81 =>
 bnd (Hh r81) fun r84 =>
 bnd (Dr r9 r84) fun r98 =>
 bnd (Lv r6 r98) fun r10 =>
 bnd (Oj p2 p3) fun r11 =>
 bnd (Hh r11) fun r12 =>
 bnd (Jx p3 p0 p1) fun r14 =>
 bnd (Hh r14) fun r15 =>
 bnd (Dr r12 r15) fun r17 =>
 bnd (Lv r10 r17) fun r18 =>
 bnd (Kv r18) fun r19 =>
 some (w64 (r1*r19),0)))
 else (some (0,11))
noncomputable def Mq (p0:Av):Option Bool :=
 jn (fun (s2:Bool) =>
 some s2)
 (fun j2=>if (-1152921504606846976)≤p0.Lo then (if p0.Lo≤p0.Hi then (j2 (decide (p0.Hi≤1152921504606846976)))
 else (j2 false))
 else (j2 false))
noncomputable def Fb (p0:Ab):Option Ac :=
 some (⟨p0.X,p0.Y⟩:Ac)
noncomputable def El (p0:Ac) (p1:Ac):Option Bool :=
 jn (fun (s2:Bool) =>
 some s2)
 (fun j2=>if p0.X < p1.X then (j2 true)
 else (if p0.X=p1.X then (j2 (decide (p0.Y < p1.Y)))
 else (j2 false)))
noncomputable def Gm (p0:Ac) (p1:Ac) (p2:Ac):Option Int :=
 bnd (Qe p0 p1 p2) fun r4 =>
 some r4.1
structure Bc where
 Neg:Bool
 Num:List Int
 Den:List Int
structure S_api_Stop where
 At:Bc
 In:Bool
 Lo:Bc
 Hi:Bc
noncomputable def Ub (p0:Ab):Option Bool :=
 bnd (Fb (⟨p0.X,p0.Y,(⟨p0.Z.Lo,p0.Z.Hi⟩:Av)⟩:Ab)) fun r2 =>
 bnd (Fb (⟨p0.X,p0.Y,(⟨p0.Z.Lo,p0.Z.Hi⟩:Av)⟩:Ab)) fun r5 =>
 bnd (Fb (⟨p0.X,p0.Y,(⟨p0.Z.Lo,p0.Z.Hi⟩:Av)⟩:Ab)) fun r8 =>
 bnd (Qe r2 r5 r8) fun r0 =>
 jn (fun (s3:Bool) =>
 some s3)
 (fun j3=>if r0.2=0 then (bnd (Mq (⟨p0.Z.Lo,p0.Z.Hi⟩:Av)) fun r1 =>
 if r1=true then (if (-268435456)≤p0.Z.Lo then (j3 (decide (p0.Z.Hi≤268435456)))
 else (j3 false))
 else (j3 false))
 else (j3 false))
structure Aa where
 a0:Int
 a1:Int
noncomputable def Fd (p0:Int) (p1:Int):Option Aa :=
 some (⟨min p0 p1,max p0 p1⟩:Aa)
noncomputable def Sc (p0:Aa) (p1:Aa):Option Int :=
 if p0.a0=p1.a0 then (some (w64 (p0.a1-p1.a1)))
 else (some (w64 (p0.a0-p1.a0)))
theorem Avc (x0:Int) (x1:Int) (x2:Int) (x3:Int) (x4:Int) (x5:Int):Agy Tryz.prog 241 [.int .i64 x0,.int .i64 x1,.int .i64 x2,.int .i64 x3,.int .i64 x4,.int .i64 x5] [.agg #[.int .i64 x0,.int .i64 x1],.agg #[.int .i64 x2,.int .i64 x3],.agg #[.int .i64 x4,.int .i64 x5]]:=by
 intro j h k w
 have h':j < 3:=h
 match j,h,h' with
 | 0,_,_=>exact (show (Instr.index 241 (.agg ([.int .i64 x0,.int .i64 x1,.int .i64 x2,.int .i64 x3,.int .i64 x4,.int .i64 x5]:List Value).toArray) (.int k ((0:Nat):Int))).run Tryz.prog w = .ok (.agg #[.int .i64 x0,.int .i64 x1]) w by kernel_rfl)
 | 1,_,_=>exact (show (Instr.index 241 (.agg ([.int .i64 x0,.int .i64 x1,.int .i64 x2,.int .i64 x3,.int .i64 x4,.int .i64 x5]:List Value).toArray) (.int k ((1:Nat):Int))).run Tryz.prog w = .ok (.agg #[.int .i64 x2,.int .i64 x3]) w by kernel_rfl)
 | 2,_,_=>exact (show (Instr.index 241 (.agg ([.int .i64 x0,.int .i64 x1,.int .i64 x2,.int .i64 x3,.int .i64 x4,.int .i64 x5]:List Value).toArray) (.int k ((2:Nat):Int))).run Tryz.prog w = .ok (.agg #[.int .i64 x4,.int .i64 x5]) w by kernel_rfl)
def Ny (x:Ac):Value:=.agg #[.int .i64 (x.X),.int .i64 (x.Y)]
theorem Aah (x y:Ac) (h:Ny x=Ny y):x=y:=by
 rcases x with ⟨_,_⟩;rcases y with ⟨_,_⟩;simp [Ny] at h;simp [h]
instance (x:Ac):UnfI Ny x (.agg #[.int .i64 (x.X),.int .i64 (x.Y)]):=⟨rfl⟩
instance (x0:Int) (x1:Int):Aa8 Ny (.agg #[.int .i64 (x0),.int .i64 (x1)]) (⟨x0,x1⟩):=⟨rfl⟩
instance:ValI Tryz.prog 38 Ny ((⟨0,0⟩:Ac)):=⟨Aah,fun w=>by kernel_rfl⟩
instance (x0:Int) (x1:Int) (x2:Int) (x3:Int) (x4:Int) (x5:Int):Ar8 Tryz.prog 241 [.int .i64 x0,.int .i64 x1,.int .i64 x2,.int .i64 x3,.int .i64 x4,.int .i64 x5] Ny [(⟨x0,x1⟩:Ac),(⟨x2,x3⟩:Ac),(⟨x4,x5⟩:Ac)]:=⟨Avc _ _ _ _ _ _⟩
noncomputable def Tq (p1:Ac) (p2:Ac) (p3:Ac):(Int × Int × Int)→Option (Sum (Int × Int × Int) (Int × Int)):=fun s0 =>
 if s0.2.2 < 3 then (jn (fun (s1:Int × Int) =>
 some (.inl (s1.1,s1.2,w64 (s0.2.2+1))))
 (fun j0=>bnd (idx [p1,p2,p3] s0.2.2) fun x0 =>
 bnd (El x0 (⟨s0.1,s0.2.1⟩:Ac)) fun r0 =>
 if r0=true then (j0 (x0.X,x0.Y))
 else (j0 (s0.1,s0.2.1))))
 else (some (.inr (s0.1,s0.2.1)))
noncomputable def Ok (p0:Ac) (p1:Ac) (p2:Ac) (p3:Ac):Option Bool :=
 bnd (Pe p0 p1 p2 p3) fun r5 =>
 if r5.1=0 then (jn (fun (s7:Int × Int) =>
 jn (fun (s0:Bool) =>
 some s0)
 (fun j0=>if ((((s7.1) == (p2.X)) && (((s7.2) == (p2.Y)) && true)))=true then (j0 true)
 else (j0 (((s7.1) == (p3.X)) && (((s7.2) == (p3.Y)) && true)))))
 (fun j7=>bnd (lfix (Tq p1 p2 p3) (p0.X,p0.Y,0)) fun t0 =>
 j7 t0))
 else (some (decide (r5.1 < 0)))
set_option maxRecDepth 100000 in
theorem Fm (p0:List Int) {K:List Ent} {A0_0:Option Addr} {c0_0:Nat} (ha0:Has K A0_0 p0.length c0_0 1 Aj (p0)) {r:List Int} (hx:Cj p0=some r) (w:World) (hK:∀ e∈K,Ent.ok w e):CtL Tryz.prog 211 [.slice (A0_0) (p0.length) (c0_0)] w fun v Ln=>∃ (A0:Option Addr) (c0:Nat),v = .slice (A0) (r.length) (c0)∧Ln=[]∧Has (K++[]) A0 r.length c0 1 Aj (r)∧True:=by
 have ha0':=Has.up0 ha0;refine CtL.mk 21 Tryz.func211 rfl Tryz.ntmps211 (by kernel_rfl) rfl ?_;show T 21 _ [(0,.slice (A0_0) (p0.length) (c0_0))] _;unfold Cj at hx;refine Y5 ?_;obtain ⟨j2,hj2,hx⟩:=Oi hx;refine Pb (τ:=List Int) (γ:=(Option Addr) × Nat) (J:=j2) (out:=r) (fun s2 y2=>[(0,.slice (y2.1) (s2.length) (y2.2))]) (fun s2 y2=>[]++[.old w]) (fun s2 y2=>Has (K++[]) (y2.1) (s2.length) (y2.2) 1 Aj (s2)∧True) ?_ ?_
 ·intro s2 y2 hx0 hG0;obtain ⟨hs0,-⟩:=hG0;subst hj2;refine Y7 ?_;obtain rfl:=Option.some.inj hx0;exact Ce (rs:=[.tmp 2]) Tryz.results211 (.tmp rfl (.nil)) (Ln:=[]) ⟨y2.1,y2.2,rfl,rfl,Has.len' hs0,trivial⟩ (Cm) (by exact .refl)
 ·skip;refine Y ?_;obtain ⟨t0,hl0,ho0⟩:=Ad hx;refine Lp (σ:=List Int) (γ:=(Option Addr) × Nat) hl0 (fun s0 y0=>[(0,.slice (y0.1) (s0.length) (y0.2))]) (fun s0 y0=>[]++[.old w]) (fun s0 y0=>Has (K++[]) (y0.1) (s0.length) (y0.2) 1 Aj (s0)∧True) (A0_0,c0_0) ((by exact ⟨Has.len' ha0',trivial⟩)) (by exact .refl) ?_;intro s0 y0 hG1 x0 hx1 ht0;unfold Mk at hx1;obtain ⟨hs1,-⟩:=hG1;refine Y ?_;refine Tj (γ:=Unit) hx1 (fun s6 y6=>[(0,.slice (y0.1) (s0.length) (y0.2)),(14,.bool (s6))]) (fun s6 y6=>[]++[.old w]) (fun s6 y6=>True) (fun s6 y6 hx2 hG2=>?_) (fun j6 hx1=>?_)
  ·refine Dd (s:=14) rfl (fun h0=>?_) (fun h0=>?_)
   ·have hx3:=Cv h0 hx2;refine Y7 ?_;refine Ag (Ca rfl 102 Tryz.underlying204) rfl ?_;refine Y ?_;obtain ⟨h1,hx4⟩:=Bm hx3;have hs2:=Has.subH hs1 h1.1 h1.2;refine Ag (Aad rfl rfl Me h1.1 (by have:=Has.nc hs1;omega)) rfl ?_;refine Y3 ?_;refine Jk (s:=0) (v':=.slice (y0.1) ((subl s0 0 (w64 ((((s0.length:Nat):Int))-1))).length) (y0.2)) rfl (by have hn0:(Int.toNat (w64 ((((s0.length:Nat):Int))-1)))=(subl s0 0 (w64 ((((s0.length:Nat):Int))-1))).length:=(Has.len hs2).symm;first | (rw [← hn0];done) | rfl) ?_;exact Rp (subl s0 0 (w64 ((((s0.length:Nat):Int))-1))) (y0.1,y0.2) hx4 ((by exact ⟨Has.len' hs2,trivial⟩)) (by exact .refl)
   ·have hx5:=Db h0 hx2;refine Y3 ?_;obtain rfl:=Ct ht0 hx5;refine Y2 ?_;exact Mt s0 (y0.1,y0.2) ho0 ((by exact ⟨Has.len' hs1,trivial⟩)) (by exact .refl)
  ·refine Y2 ?_;refine Ag (Ca rfl 102 Tryz.underlying204) rfl ?_;refine Y2 ?_;refine Ti hx1 (s:=6) rfl (fun h2 hx6=>?_) (fun h2 hx7=>?_)
   ·refine Y2 ?_;refine Br rfl rfl rfl (Ca rfl 102 Tryz.underlying204) rfl ?_;refine Y ?_;obtain ⟨x1,h3,hx8⟩:=Ad hx6;have hw0:=Has.low (E:=[]) hs1 hK;obtain ⟨b0,o0,j0,hA0,hj0,hl1,hp0⟩:=Has.at_idx hw0 h3;refine Br rfl rfl rfl (Bf rfl rfl hA0 (j:=j0) hj0 hl1 Me) rfl ?_;refine Br rfl rfl rfl (Cd rfl hp0 (sb 0) rfl Lg) rfl ?_;refine Y3 ?_;exact Mt (decide (x1=0)) () hx8 trivial (by exact .refl)
   ·refine Y9 ?_;exact Mt false () hx7 trivial (by exact .refl)
set_option maxHeartbeats 1000000 in
set_option maxRecDepth 100000 in
instance ratio_nat_norm_c (p0:List Int):ConB (Cj p0) Tryz.prog 211 (fun K vs=>∃ (A0_0:Option Addr) (c0_0:Nat),vs=[.slice (A0_0) ((p0).length) (c0_0)]∧Has K A0_0 (p0).length c0_0 1 Aj (p0)∧True) (fun K r=>fun v Ln=>∃ (A0:Option Addr) (c0:Nat) (e:Ent),v = .slice (A0) ((r).length) (c0)∧Ln=[e]∧Has (K++[e]) A0 (r).length c0 1 Aj (r)∧True):=⟨by
 rintro K _ r ⟨A0_0,c0_0,rfl,ha0,-⟩ hx w hK;exact CtL.bunB (Fm p0 ha0 hx w hK) (by
  rintro _ _ w1 hw ⟨_,_,rfl,rfl,_,-⟩
  exact ⟨_,_,_,rfl,rfl,hZ hw,trivial⟩)⟩
set_option maxRecDepth 100000 in
theorem Sd (p0:Int)  {r:List Int} (hx:Jw p0=some r) (w:World):CtL Tryz.prog 206 [.int .u64 (p0)] w fun v Ln=>∃ (A0:Option Addr) (c0:Nat) (e0:Ent),v = .slice (A0) (r.length) (c0)∧Ln=[e0]∧Has ([e0]:List Ent) A0 r.length c0 1 Aj (r)∧True:=by
 refine CtL.mk 10 Tryz.func206 rfl Tryz.ntmps206 (by kernel_rfl) rfl ?_;show T 10 _ [(0,.int .u64 (p0))] _;unfold Jw at hx;refine Y8 ?_;refine Ag (Li rfl (by kernel_rfl) Tryz.underlying102) rfl ?_;refine Y ?_;refine Ag (Qm rfl rfl (by decide)) rfl ?_;refine Ag (Li rfl (by kernel_rfl) Tryz.underlying102) rfl ?_;refine T_x (Bz rfl (Ta _ _) rfl (fun g1=>?_));have hs2:Has [.m g1 102 [.int .u32 (wu32 (p0)),.int .u32 (wu32 (shr_ .u64 p0 32))]] (some ⟨g1,0,none⟩) 2 2 1 Aj [wu32 (p0),wu32 (shr_ .u64 p0 32)]:=Has.ofM (fun _ _=>rfl) rfl (by decide) rfl;obtain ⟨r3,h4,hx5⟩:=Ad hx;refine T_x (Be rfl (fun w1 hw1=>Fm ([wu32 (p0),wu32 (shr_ .u64 p0 32)]) (Has.len' hs2) h4 w1 (Ik (K:=([.m g1 102 [.int .u32 (wu32 (p0)),.int .u32 (wu32 (shr_ .u64 p0 32))]]:List Ent)) (by exact (sb 0)) hw1)) rfl ?_);rintro _ _ hlo ⟨A6,c7,rfl,rfl,hs8,-⟩;refine Dh ?_;refine Y4 ?_;obtain rfl:=Option.some.inj hx5;exact Ce (rs:=[.tmp 2]) Tryz.results206 (.tmp rfl (.nil)) (Ln:=[.m g1 102 [.int .u32 (wu32 (p0)),.int .u32 (wu32 (shr_ .u64 p0 32))]]) ⟨A6,c7,(.m g1 102 [.int .u32 (wu32 (p0)),.int .u32 (wu32 (shr_ .u64 p0 32))]),rfl,rfl,Has.len' hs8,trivial⟩ (Bd rfl (Cm)) (by exact .pick 0 rfl (.refl))
set_option maxRecDepth 100000 in
instance ratio_natOf_c (p0:Int):ConB (Jw p0) Tryz.prog 206 (fun _ vs=>vs=[.int .u64 (p0)]) (fun K r=>fun v Ln=>∃ (A0:Option Addr) (c0:Nat) (e:Ent),v = .slice (A0) ((r).length) (c0)∧Ln=[e]∧Has (K++[e]) A0 (r).length c0 1 Aj (r)∧True):=⟨by
 rintro K _ r rfl hx w hK;unfold Jw at hx;refine CtS Tryz.ntmps206 Tryz.results206 ?_;exact au⟩

set_option maxRecDepth 100000 in
instance Aai (p0:Int) (p1:Int) (p2:Int):Con (Ho p0 p1 p2) Tryz.prog 307 (fun _ vs=>vs=[.int .u32 (p0),.int .u32 (p1),.int .u32 (p2)]) (fun _ r=>fun v Ln=>v = .tuple #[.int .u32 (r.1),.int .u32 (r.2)]∧Ln=[]∧True):=⟨by
 rintro _ _ r rfl hx w hK;unfold Ho at hx;refine CtS Tryz.ntmps307 Tryz.results307 ?_;exact au⟩
theorem Zf (p0:Int) (p1:Int) (p2:Int)  {r:Int × Int} (hx:Ho p0 p1 p2=some r) (w:World):CtL Tryz.prog 307 [.int .u32 (p0),.int .u32 (p1),.int .u32 (p2)] w fun v Ln=>v = .tuple #[.int .u32 (r.1),.int .u32 (r.2)]∧Ln=[]∧True:=(Aai p0 p1 p2).h [] _ _ rfl hx w (fun _ h=>absurd h List.not_mem_nil)
set_option maxRecDepth 100000 in
instance math_bits_Sub32_c (p0:Int) (p1:Int) (p2:Int):Con (Jm p0 p1 p2) Tryz.prog 311 (fun _ vs=>vs=[.int .u32 (p0),.int .u32 (p1),.int .u32 (p2)]) (fun _ r=>fun v Ln=>v = .tuple #[.int .u32 (r.1),.int .u32 (r.2)]∧Ln=[]∧True):=⟨by
 rintro _ _ r rfl hx w hK;unfold Jm at hx;refine CtS Tryz.ntmps311 Tryz.results311 ?_;exact au⟩
set_option maxRecDepth 100000 in
theorem Uc (p0:List Int) (p1:List Int) {K:List Ent} {A0_0:Option Addr} {c0_0:Nat} {A0_1:Option Addr} {c0_1:Nat} (ha0:Has K A0_0 p0.length c0_0 1 Aj (p0)) (ha1:Has K A0_1 p1.length c0_1 1 Aj (p1)) {r:List Int} (hx:Dg p0 p1=some r) (w:World) (hK:∀ e∈K,Ent.ok w e):CtL Tryz.prog 282 [.slice (A0_0) (p0.length) (c0_0),.slice (A0_1) (p1.length) (c0_1)] w fun v Ln=>∃ (A0:Option Addr) (c0:Nat) (e0:Ent),v = .slice (A0) (r.length) (c0)∧Ln=[e0]∧Has (K++[e0]) A0 r.length c0 1 Aj (r)∧True:=by
 have ha0':=Has.up0 ha0;have ha1':=Has.up0 ha1;refine CtL.mk 68 Tryz.func282 rfl Tryz.ntmps282 (by kernel_rfl) rfl ?_;show T 68 _ [(0,.slice (A0_0) (p0.length) (c0_0)),(1,.slice (A0_1) (p1.length) (c0_1))] _;unfold Dg at hx;refine Y8 ?_;refine Ag (Ca rfl 102 Tryz.underlying204) rfl ?_;refine Y ?_;refine Ag (Ca rfl 102 Tryz.underlying204) rfl ?_;refine Y ?_;obtain ⟨h2,hx3⟩:=Bm hx;refine T_x (Sa Aj (0) (z:=.int .u32 (0)) rfl rfl rfl h2.1 Tryz.underlying204 (show Tryz.prog.info? 102=some Tryz.t102 from by kernel_rfl) (by kernel_rfl) rfl rfl (by kernel_rfl) (show 4*_≤_ from h2.2) (by decide) rfl (fun A1=>?_));refine Y3 ?_;refine Tj (γ:=(Option Addr) × Nat) hx3 (fun s3 y3=>[(5,.slice (y3.1) (s3.length) (y3.2))]) (fun s3 y3=>[.r (y3.1) (s3.length) (y3.2) 102 1 (s3.flatMap Aj)]++[.old w]) (fun s3 y3=>True) (fun s3 y3 hx0 hG0=>?_) (fun j3 hx3=>?_)
 ·refine Y3 ?_;refine Nr (k:=0) rfl (by decide) (fun _=>rfl) (fun hn0 hs0=>?_);obtain ⟨r0,h0,hx1⟩:=Ad hx0;refine T_x (Be rfl (fun w1 hw1=>Fm s3 (Has.len' hs0) h0 w1 (Ik (K:=([.r (y3.1) (s3.length) (y3.2) 102 1 (s3.flatMap Aj)]:List Ent)) (by exact (sb 0)) hw1)) rfl ?_);rintro _ _ hlo ⟨A2,c1,rfl,rfl,hs1,-⟩;refine Dh ?_;refine Y4 ?_;obtain rfl:=Option.some.inj hx1;exact Ce (rs:=[.tmp 4]) Tryz.results282 (.tmp rfl (.nil)) (Ln:=[.r (y3.1) (s3.length) (y3.2) 102 1 (s3.flatMap Aj)]) ⟨A2,c1,(.r (y3.1) (s3.length) (y3.2) 102 1 (s3.flatMap Aj)),rfl,rfl,Has.len' (Has.up (L:=(K++[.r (y3.1) (s3.length) (y3.2) 102 1 (s3.flatMap Aj)])) hs1 (SubE.appR2 (sb 0))),trivial⟩ (Bd rfl (Cm)) (by exact .pick 0 rfl (.refl))
 ·refine Y3 ?_;refine Ag (Ca rfl 102 Tryz.underlying204) rfl ?_;refine Y4 ?_;obtain ⟨t0,hl0,ho0⟩:=Ad hx3;refine Lp (σ:=(List Int) × Int) (γ:=(Option Addr) × Nat) hl0 (fun s0 y0=>[(1,.slice (A0_1) (p1.length) (c0_1)),(5,.slice (y0.1) (s0.1.length) (y0.2)),(18,.slice (A0_0) (p0.length) (c0_0)),(19,.int .i64 (((p0.length:Nat):Int))),(20,.int .i64 (s0.2))]) (fun s0 y0=>[.r (y0.1) (s0.1.length) (y0.2) 102 1 (s0.1.flatMap Aj)]++[.old w]) (fun s0 y0=>True) (A1,(List.replicate (Int.toNat (w64 ((((p0.length:Nat):Int))+(((p1.length:Nat):Int))))) (0:Int)).length) trivial (by exact .pick 0 rfl (.refl)) ?_;intro s0 y0 hG1 x0 hx2 ht0;unfold Gl at hx2;refine Y6 ?_;refine Ti hx2 (s:=21) rfl (fun h1 hx4=>?_) (fun h1 hx5=>?_)
  ·refine Y8 ?_;obtain ⟨x1,h3,hx6⟩:=Ad hx4;have hw0:=Has.low (E:=[]) ha0' hK;obtain ⟨b0,o0,j0,hA0,hj0,hl1,hp0⟩:=Has.at_idx hw0 h3;refine Ag (Bf rfl rfl hA0 (j:=j0) hj0 hl1 Me) rfl ?_;refine Ag (Cd rfl hp0 (sb 1) rfl Lg) rfl ?_;refine Y9 ?_;refine Tj (γ:=(Option Addr) × Nat) hx6 (fun s1 y1=>[(1,.slice (A0_1) (p1.length) (c0_1)),(5,.slice (y1.1) (s1.1.length) (y1.2)),(6,.int .i64 (s0.2)),(8,.int .u64 (s1.2)),(18,.slice (A0_0) (p0.length) (c0_0)),(19,.int .i64 (((p0.length:Nat):Int))),(20,.int .i64 (s0.2))]) (fun s1 y1=>[.r (y1.1) (s1.1.length) (y1.2) 102 1 (s1.1.flatMap Aj)]++[.old w]) (fun s1 y1=>True) (fun s1 y1 hx7 hG2=>?_) (fun j1 hx6=>?_)
   ·refine Y4 ?_;refine Ag (Ca rfl 102 Tryz.underlying204) rfl ?_;refine Y2 ?_;refine Ag (Li rfl (by kernel_rfl) Tryz.underlying102) rfl ?_;obtain ⟨x2,h4,hx8⟩:=Ad hx7;refine Mo (k:=0) rfl (by decide) (fun _=>rfl) h4 (fun b1 j2 hA1 hj1 hl2 hm0 hp1=>?_);refine Ag (Bf rfl rfl hA1 (j:=j2) hj1 hl2 Me) rfl ?_;refine T_h (Qd Aj (s1.1) (w64 (s0.2+(((p1.length:Nat):Int)))) (wu32 (s1.2)) rfl rfl rfl (.here) hA1 rfl hj1 hl2 (fun _=>rfl) (by decide) rfl Lg.2 ?_);refine Y7 ?_
    have hn1:s1.1.length=(setI s1.1 (w64 (s0.2+(((p1.length:Nat):Int)))) (wu32 (s1.2))).length:=by simp [Cb,Co,List.length_append] <;> omega
    refine Hd (.here) (e':=.r (y1.1) ((setI s1.1 (w64 (s0.2+(((p1.length:Nat):Int)))) (wu32 (s1.2))).length) (y1.2) 102 1 ((setI s1.1 (w64 (s0.2+(((p1.length:Nat):Int)))) (wu32 (s1.2))).flatMap Aj)) (by first | (rw [← hn1];done) | rfl) ?_;refine Jk (s:=5) (v':=.slice (y1.1) ((setI s1.1 (w64 (s0.2+(((p1.length:Nat):Int)))) (wu32 (s1.2))).length) (y1.2)) rfl (by have hn2:(s1.1.length)=(setI s1.1 (w64 (s0.2+(((p1.length:Nat):Int)))) (wu32 (s1.2))).length:=(by simp [Cb,Co,List.length_append] <;> omega);first | (rw [← hn2];done) | rfl) ?_;exact Rp (setI s1.1 (w64 (s0.2+(((p1.length:Nat):Int)))) (wu32 (s1.2)),w64 (s0.2+1)) (y1.1,y1.2) hx8 trivial (by exact .pick 0 rfl (.refl))
   ·refine Y3 ?_;refine Ag (Ca rfl 102 Tryz.underlying204) rfl ?_;refine Y4 ?_;obtain ⟨t1,hl3,ho1⟩:=Ad hx6;refine Lp (σ:=(List Int) × Int × Int) (γ:=(Option Addr) × Nat) hl3 (fun s2 y2=>[(1,.slice (A0_1) (p1.length) (c0_1)),(5,.slice (y2.1) (s2.1.length) (y2.2)),(6,.int .i64 (s0.2)),(7,.int .u32 (x1)),(8,.int .u64 (s2.2.1)),(18,.slice (A0_0) (p0.length) (c0_0)),(19,.int .i64 (((p0.length:Nat):Int))),(20,.int .i64 (s0.2)),(25,.slice (A0_1) (p1.length) (c0_1)),(26,.int .i64 (((p1.length:Nat):Int))),(27,.int .i64 (s2.2.2))]) (fun s2 y2=>[.r (y2.1) (s2.1.length) (y2.2) 102 1 (s2.1.flatMap Aj)]++[.old w]) (fun s2 y2=>True) (y0.1,y0.2) trivial (by exact .pick 0 rfl (.refl)) ?_;intro s2 y2 hG3 x3 hx9 ht1;unfold Gk at hx9;refine Y6 ?_;refine Ti hx9 (s:=28) rfl (fun h5 hx10=>?_) (fun h5 hx11=>?_)
    ·refine Y8 ?_;obtain ⟨x4,h6,hx12⟩:=Ad hx10;have hw2:=Has.low (E:=[]) ha1' hK;obtain ⟨b2,o1,j4,hA2,hj2,hl4,hp2⟩:=Has.at_idx hw2 h6;refine Ag (Bf rfl rfl hA2 (j:=j4) hj2 hl4 Me) rfl ?_;refine Ag (Cd rfl hp2 (sb 1) rfl Lg) rfl ?_;refine Y7 ?_;refine Ag (Eg rfl (by kernel_rfl) Tryz.underlying227) rfl ?_;refine Y ?_;refine Ag (Eg rfl (by kernel_rfl) Tryz.underlying227) rfl ?_;refine Y5 ?_;obtain ⟨x5,h7,hx13⟩:=Ad hx12;refine Mo (k:=0) rfl (by decide) (fun _=>rfl) h7 (fun b3 j5 hA3 hj3 hl5 hm1 hp3=>?_);refine Ag (Bf rfl rfl hA3 (j:=j5) hj3 hl5 Me) rfl ?_;refine Ag (Cd rfl hp3 (sb 0) rfl Lg) rfl ?_;refine Ag (Eg rfl (by kernel_rfl) Tryz.underlying227) rfl ?_;(iterate 13 refine Y ?_);refine Ag (Li rfl (by kernel_rfl) Tryz.underlying102) rfl ?_;obtain ⟨x6,h8,hx14⟩:=Ad hx13;refine Mo (k:=0) rfl (by decide) (fun _=>rfl) h8 (fun b4 j6 hA4 hj4 hl6 hm2 hp4=>?_);refine Ag (Bf rfl rfl hA4 (j:=j6) hj4 hl6 Me) rfl ?_;refine T_h (Qd Aj (s2.1) (w64 (s0.2+s2.2.2)) (wu32 (wu64 ((wu64 ((wu64 ((wu64 (x1))*(wu64 (x4))))+(wu64 (x5))))+s2.2.1))) rfl rfl rfl (.here) hA4 rfl hj4 hl6 (fun _=>rfl) (by decide) rfl Lg.2 ?_);refine Y4 ?_;refine Ag (Qm rfl rfl (by decide)) rfl ?_
     refine Y8 ?_
     have hn3:s2.1.length=(setI s2.1 (w64 (s0.2+s2.2.2)) (wu32 (wu64 ((wu64 ((wu64 ((wu64 (x1))*(wu64 (x4))))+(wu64 (x5))))+s2.2.1)))).length:=by simp [Cb,Co,List.length_append] <;> omega
     refine Hd (.here) (e':=.r (y2.1) ((setI s2.1 (w64 (s0.2+s2.2.2)) (wu32 (wu64 ((wu64 ((wu64 ((wu64 (x1))*(wu64 (x4))))+(wu64 (x5))))+s2.2.1)))).length) (y2.2) 102 1 ((setI s2.1 (w64 (s0.2+s2.2.2)) (wu32 (wu64 ((wu64 ((wu64 ((wu64 (x1))*(wu64 (x4))))+(wu64 (x5))))+s2.2.1)))).flatMap Aj)) (by first | (rw [← hn3];done) | rfl) ?_;refine Jk (s:=5) (v':=.slice (y2.1) ((setI s2.1 (w64 (s0.2+s2.2.2)) (wu32 (wu64 ((wu64 ((wu64 ((wu64 (x1))*(wu64 (x4))))+(wu64 (x5))))+s2.2.1)))).length) (y2.2)) rfl (by have hn4:(s2.1.length)=(setI s2.1 (w64 (s0.2+s2.2.2)) (wu32 (wu64 ((wu64 ((wu64 ((wu64 (x1))*(wu64 (x4))))+(wu64 (x5))))+s2.2.1)))).length:=(by simp [Cb,Co,List.length_append] <;> omega);first | (rw [← hn4];done) | rfl) ?_;exact Rp (setI s2.1 (w64 (s0.2+s2.2.2)) (wu32 (wu64 ((wu64 ((wu64 ((wu64 (x1))*(wu64 (x4))))+(wu64 (x5))))+s2.2.1))),shr_ .u64 (wu64 ((wu64 ((wu64 ((wu64 (x1))*(wu64 (x4))))+(wu64 (x5))))+s2.2.1)) 32,w64 (s2.2.2+1)) (y2.1,y2.2) hx14 trivial (by exact .pick 0 rfl (.refl))
    ·refine Y3 ?_;obtain rfl:=Ct ht1 hx11;refine Y2 ?_;exact Mt (s2.1,s2.2.1) (y2.1,y2.2) ho1 trivial (by exact .pick 0 rfl (.refl))
  ·refine Y3 ?_;obtain rfl:=Ct ht0 hx5;refine Y2 ?_;exact Mt s0.1 (y0.1,y0.2) ho0 trivial (by exact .pick 0 rfl (.refl))
set_option maxHeartbeats 1000000 in
set_option maxRecDepth 100000 in
instance ratio_nat_mul_c (p0:List Int) (p1:List Int):ConB (Dg p0 p1) Tryz.prog 282 (fun K vs=>∃ (A0_0:Option Addr) (c0_0:Nat) (A0_1:Option Addr) (c0_1:Nat),vs=[.slice (A0_0) ((p0).length) (c0_0),.slice (A0_1) ((p1).length) (c0_1)]∧Has K A0_0 (p0).length c0_0 1 Aj (p0)∧Has K A0_1 (p1).length c0_1 1 Aj (p1)∧True) (fun K r=>fun v Ln=>∃ (A0:Option Addr) (c0:Nat) (e:Ent),v = .slice (A0) ((r).length) (c0)∧Ln=[e]∧Has (K++[e]) A0 (r).length c0 1 Aj (r)∧True):=⟨by
 rintro K _ r ⟨A0_0,c0_0,A0_1,c0_1,rfl,ha0,ha1,-⟩ hx w hK;unfold Dg at hx;refine CtS Tryz.ntmps282 Tryz.results282 ?_;refine pre ?_;intros;rename_i hx
 apply Jr (γ:=(Option Addr) × Nat) hx [] (fun s3 y3 f=>(5,.slice (y3.1) ((s3).length) (y3.2))::f) [999] (fun s3 y3 l=>.r (y3.1) ((s3).length) (y3.2) 102 1 ((s3).flatMap Aj)::l);exact kk
 ·intro s3 y3 hx;exact au
 ·intro _ hx;refine pre ?_;intros;rename_i hx
  apply Lr (γ:=(Option Addr) × Nat) hx [1,18,19] (fun s0 y0 f=>(5,.slice (y0.1) ((s0.1).length) (y0.2))::(20,.int .i64 (s0.2))::f) [999] (fun s0 y0 l=>.r (y0.1) ((s0.1).length) (y0.2) 102 1 ((s0.1).flatMap Aj)::l) (_,_);exact kk;exact sk;intro s0 y0 x0 hx _;unfold Gl at hx
  refine pre ?_;intros;rename_i hx
  refine Cq1 (s:=21) hx rfl (fun _ hx=>?_) (fun _ hx=>?_)
  ·refine pre ?_;intros;rename_i hx
   refine Im ?_;refine pre ?_;intros;rename_i hx
   apply Jr (γ:=(Option Addr) × Nat) hx [1,6,18,19,20] (fun s1 y1 f=>(5,.slice (y1.1) ((s1.1).length) (y1.2))::(8,.int .u64 (s1.2))::f) [999] (fun s1 y1 l=>.r (y1.1) ((s1.1).length) (y1.2) 102 1 ((s1.1).flatMap Aj)::l);exact kk
   ·intro s1 y1 hx;exact au
   ·intro _ hx;refine pre ?_;intros;rename_i hx
    apply Lr (γ:=(Option Addr) × Nat) hx [1,6,7,18,19,20,25,26] (fun s2 y2 f=>(5,.slice (y2.1) ((s2.1).length) (y2.2))::(8,.int .u64 (s2.2.1))::(27,.int .i64 (s2.2.2))::f) [999] (fun s2 y2 l=>.r (y2.1) ((s2.1).length) (y2.2) 102 1 ((s2.1).flatMap Aj)::l) (_,_);exact kk;exact sk;intro s2 y2 x1 hx _;unfold Gk at hx
    exact au
  ·exact au⟩

set_option maxHeartbeats 1000000 in
set_option maxRecDepth 100000 in
instance Ac4 (p0:List Int) (p1:List Int):Con (Kd p0 p1) Tryz.prog 273 (fun K vs=>∃ (A0_0:Option Addr) (c0_0:Nat) (A0_1:Option Addr) (c0_1:Nat),vs=[.slice (A0_0) ((p0).length) (c0_0),.slice (A0_1) ((p1).length) (c0_1)]∧Has K A0_0 (p0).length c0_0 1 Aj (p0)∧Has K A0_1 (p1).length c0_1 1 Aj (p1)∧True) (fun _ r=>fun v Ln=>v = .int .i64 (r)∧Ln=[]∧True):=⟨by
 rintro K _ r ⟨A0_0,c0_0,A0_1,c0_1,rfl,ha0,ha1,-⟩ hx w hK;replace ha0:=Has.lo ha0 hK;replace ha1:=Has.lo ha1 hK;unfold Kd at hx;have:=dl 8 [0,0,0,1,0,0,0,1,0] [0,1,2,3,4,5,6,7,8];have:=dl 9 [0,0,0,1,0,0,0,1,0] [0,1,2,3,4,5,6,7,8];refine CtS Tryz.ntmps273 Tryz.results273 ?_;refine pre ?_;intros;rename_i hx
 refine Cq2 (s:=10) hx rfl (fun _ hx=>?_) (fun _ hx=>?_)
 ·exact au
 ·refine pre ?_;intros;rename_i hx
  apply Jr (γ:=Unit) hx [] (fun s8 y8 f=>f) [999] (fun s8 y8 l=>l);exact kk
  ·intro s8 y8 hx;exact au
  ·intro _ hx;refine pre ?_;intros;rename_i hx
   apply Lr (γ:=Unit) hx [0,1] (fun s61 y61 f=>(5,.int .i64 (s61))::f) [999] (fun s61 y61 l=>l) ();exact kk;exact sk;intro s61 y61 x61 hx _;unfold Nj at hx
   exact au⟩
theorem Abf (p0:List Int) (p1:List Int) {K:List Ent} {A0_0:Option Addr} {c0_0:Nat} {A0_1:Option Addr} {c0_1:Nat} (ha0:Has K A0_0 (p0).length c0_0 1 Aj (p0)) (ha1:Has K A0_1 (p1).length c0_1 1 Aj (p1)) {r:Int} (hx:Kd p0 p1=some r) (w:World) (hK:∀ e∈K,Ent.ok w e):CtL Tryz.prog 273 [.slice (A0_0) ((p0).length) (c0_0),.slice (A0_1) ((p1).length) (c0_1)] w fun v Ln=>v = .int .i64 (r)∧Ln=[]∧True:=(Ac4 p0 p1).h K _ _ ⟨_,_,_,_,rfl,ha0,ha1,trivial⟩ hx w hK
set_option maxRecDepth 100000 in
theorem Abg (p0:List Int) (p1:List Int) {K:List Ent} {A0_0:Option Addr} {c0_0:Nat} {A0_1:Option Addr} {c0_1:Nat} (ha0:Has K A0_0 p0.length c0_0 1 Aj (p0)) (ha1:Has K A0_1 p1.length c0_1 1 Aj (p1)) {r:List Int} (hx:Ke p0 p1=some r) (w:World) (hK:∀ e∈K,Ent.ok w e):CtL Tryz.prog 272 [.slice (A0_0) (p0.length) (c0_0),.slice (A0_1) (p1.length) (c0_1)] w fun v Ln=>∃ (A0:Option Addr) (c0:Nat) (e0:Ent),v = .slice (A0) (r.length) (c0)∧Ln=[e0]∧Has (K++[e0]) A0 r.length c0 1 Aj (r)∧True:=by
 have ha0':=Has.up0 ha0;have ha1':=Has.up0 ha1;refine CtL.mk 54 Tryz.func272 rfl Tryz.ntmps272 (by kernel_rfl) rfl ?_;show T 54 _ [(0,.slice (A0_0) (p0.length) (c0_0)),(1,.slice (A0_1) (p1.length) (c0_1))] _;unfold Ke at hx;refine Y5 ?_;obtain ⟨j2,hj2,hx⟩:=Oi hx;refine Pb (τ:=(List Int) × (List Int)) (γ:=(Option Addr) × Nat × (Option Addr) × Nat) (J:=j2) (out:=r) (fun s2 y2=>[(0,.slice (y2.1) (s2.1.length) (y2.2.1)),(1,.slice (y2.2.2.1) (s2.2.length) (y2.2.2.2))]) (fun s2 y2=>[]++[.old w]) (fun s2 y2=>Has (K++[]) (y2.1) (s2.1.length) (y2.2.1) 1 Aj (s2.1)∧Has (K++[]) (y2.2.2.1) (s2.2.length) (y2.2.2.2) 1 Aj (s2.2)∧True) ?_ ?_
 ·intro s2 y2 hx4 hG5;obtain ⟨hs6,hs7,-⟩:=hG5;subst hj2;refine Y3 ?_;refine Ag (Ca rfl 102 Tryz.underlying204) rfl ?_;refine Y ?_;obtain ⟨h9,hx0⟩:=Bm hx4;refine T_x (Sa Aj (0) (z:=.int .u32 (0)) rfl rfl rfl h9.1 Tryz.underlying204 (show Tryz.prog.info? 102=some Tryz.t102 from by kernel_rfl) (by kernel_rfl) rfl rfl (by kernel_rfl) (show 4*_≤_ from h9.2) (by decide) rfl (fun A8=>?_));refine Y8 ?_;refine Tj (γ:=(Option Addr) × Nat) hx0 (fun s6 y6=>[(0,.slice (y2.1) (s2.1.length) (y2.2.1)),(5,.slice (y6.1) (s6.1.length) (y6.2)),(6,.int .u32 (s6.2))]) (fun s6 y6=>[.r (y6.1) (s6.1.length) (y6.2) 102 1 (s6.1.flatMap Aj)]++[.old w]) (fun s6 y6=>True) (fun s6 y6 hx1 hG0=>?_) (fun j6 hx0=>?_)
  ·refine Y4 ?_;refine Ag (Ca rfl 102 Tryz.underlying204) rfl ?_;refine Y ?_;obtain ⟨x0,h0,hx5⟩:=Ad hx1;refine Mo (k:=0) rfl (by decide) (fun _=>rfl) h0 (fun b0 j0 hA0 hj0 hl0 hm0 hp0=>?_);refine Ag (Bf rfl rfl hA0 (j:=j0) hj0 hl0 Me) rfl ?_;refine T_h (Qd Aj (s6.1) (((s2.1.length:Nat):Int)) (s6.2) rfl rfl rfl (.here) hA0 rfl hj0 hl0 (fun _=>rfl) (by decide) rfl Lg.2 ?_);refine Y5 ?_
   have hn0:s6.1.length=(setI s6.1 (((s2.1.length:Nat):Int)) s6.2).length:=by simp [Cb,Co,List.length_append] <;> omega
   refine Hd (.here) (e':=.r (y6.1) ((setI s6.1 (((s2.1.length:Nat):Int)) s6.2).length) (y6.2) 102 1 ((setI s6.1 (((s2.1.length:Nat):Int)) s6.2).flatMap Aj)) (by first | (rw [← hn0];done) | rfl) ?_;refine Jk (s:=5) (v':=.slice (y6.1) ((setI s6.1 (((s2.1.length:Nat):Int)) s6.2).length) (y6.2)) rfl (by have hn1:(s6.1.length)=(setI s6.1 (((s2.1.length:Nat):Int)) s6.2).length:=(by simp [Cb,Co,List.length_append] <;> omega);first | (rw [← hn1];done) | rfl) ?_;refine Jk (s:=47) (v':=.slice (y6.1) ((setI s6.1 (((s2.1.length:Nat):Int)) s6.2).length) (y6.2)) rfl (by have hn2:(s6.1.length)=(setI s6.1 (((s2.1.length:Nat):Int)) s6.2).length:=(by simp [Cb,Co,List.length_append] <;> omega);first | (rw [← hn2];done) | rfl) ?_;refine Jk (s:=52) (v':=.slice (y6.1) ((setI s6.1 (((s2.1.length:Nat):Int)) s6.2).length) (y6.2)) rfl (by have hn3:(s6.1.length)=(setI s6.1 (((s2.1.length:Nat):Int)) s6.2).length:=(by simp [Cb,Co,List.length_append] <;> omega);first | (rw [← hn3];done) | rfl) ?_;refine Nr (k:=0) rfl (by decide) (fun _=>rfl) (fun hn4 hs0=>?_);obtain ⟨r0,h2,hx6⟩:=Ad hx5;refine T_x (Be rfl (fun w1 hw1=>Fm (setI s6.1 (((s2.1.length:Nat):Int)) s6.2) (Has.len' hs0) h2 w1 (Ik (K:=([.r (y6.1) ((setI s6.1 (((s2.1.length:Nat):Int)) s6.2).length) (y6.2) 102 1 ((setI s6.1 (((s2.1.length:Nat):Int)) s6.2).flatMap Aj)]:List Ent)) (by exact (sb 0)) hw1)) rfl ?_)
   rintro _ _ hlo ⟨A1,c1,rfl,rfl,hs1,-⟩;refine Dh ?_;refine Y4 ?_;obtain rfl:=Option.some.inj hx6;exact Ce (rs:=[.tmp 4]) Tryz.results272 (.tmp rfl (.nil)) (Ln:=[.r (y6.1) ((setI s6.1 (((s2.1.length:Nat):Int)) s6.2).length) (y6.2) 102 1 ((setI s6.1 (((s2.1.length:Nat):Int)) s6.2).flatMap Aj)]) ⟨A1,c1,(.r (y6.1) ((setI s6.1 (((s2.1.length:Nat):Int)) s6.2).length) (y6.2) 102 1 ((setI s6.1 (((s2.1.length:Nat):Int)) s6.2).flatMap Aj)),rfl,rfl,Has.len' (Has.up (L:=(K++[.r (y6.1) ((setI s6.1 (((s2.1.length:Nat):Int)) s6.2).length) (y6.2) 102 1 ((setI s6.1 (((s2.1.length:Nat):Int)) s6.2).flatMap Aj)])) hs1 (SubE.appR2 (sb 0))),trivial⟩ (Bd rfl (Cm)) (by exact .pick 0 rfl (.refl))
  ·refine Y3 ?_;refine Ag (Ca rfl 102 Tryz.underlying204) rfl ?_;refine Y4 ?_;obtain ⟨t0,hl1,ho0⟩:=Ad hx0;refine Lp (σ:=(List Int) × Int × Int) (γ:=(Option Addr) × Nat) hl1 (fun s0 y0=>[(0,.slice (y2.1) (s2.1.length) (y2.2.1)),(1,.slice (y2.2.2.1) (s2.2.length) (y2.2.2.2)),(5,.slice (y0.1) (s0.1.length) (y0.2)),(6,.int .u32 (s0.2.1)),(21,.int .i64 (((s2.1.length:Nat):Int))),(22,.int .i64 (s0.2.2))]) (fun s0 y0=>[.r (y0.1) (s0.1.length) (y0.2) 102 1 (s0.1.flatMap Aj)]++[.old w]) (fun s0 y0=>True) (A8,(List.replicate (Int.toNat (w64 ((((s2.1.length:Nat):Int))+1))) (0:Int)).length) trivial (by exact .pick 0 rfl (.refl)) ?_;intro s0 y0 hG1 x1 hx7 ht0;unfold Ip at hx7;refine Y6 ?_;refine Ti hx7 (s:=23) rfl (fun h3 hx8=>?_) (fun h3 hx9=>?_)
   ·(iterate 16 refine Y ?_);refine Tj (γ:=Unit) hx8 (fun s1 y1=>[(0,.slice (y2.1) (s2.1.length) (y2.2.1)),(1,.slice (y2.2.2.1) (s2.2.length) (y2.2.2.2)),(5,.slice (y0.1) (s0.1.length) (y0.2)),(6,.int .u32 (s0.2.1)),(7,.int .i64 (s0.2.2)),(8,.int .u32 (s1)),(21,.int .i64 (((s2.1.length:Nat):Int))),(22,.int .i64 (s0.2.2))]) (fun s1 y1=>[.r (y0.1) (s0.1.length) (y0.2) 102 1 (s0.1.flatMap Aj)]++[.old w]) (fun s1 y1=>True) (fun s1 y1 hx74 hG2=>?_) (fun j1 hx8=>?_)
    ·refine Y5 ?_;obtain ⟨x2,h4,hx78⟩:=Ad hx74;have hw0:=Has.low (E:=[]) hs6 hK;obtain ⟨b1,o0,j3,hA1,hj1,hl2,hp1⟩:=Has.at_idx hw0 h4;refine Ag (Bf rfl rfl hA1 (j:=j3) hj1 hl2 Me) rfl ?_;refine Ag (Cd rfl hp1 (sb 1) rfl Lg) rfl ?_;refine Y2 ?_;obtain ⟨r1,h5,hx89⟩:=Ad hx78;refine Tc (fun w1 hw1=>Zf x2 s1 s0.2.1  h5 w1) ?_;refine Y3 ?_;obtain ⟨x3,h6,hx92⟩:=Ad hx89;refine Mo (k:=0) rfl (by decide) (fun _=>rfl) h6 (fun b2 j4 hA2 hj3 hl3 hm1 hp2=>?_);refine Ag (Bf rfl rfl hA2 (j:=j4) hj3 hl3 Me) rfl ?_;refine T_h (Qd Aj (s0.1) (s0.2.2) (r1.1) rfl rfl rfl (.here) hA2 rfl hj3 hl3 (fun _=>rfl) (by decide) rfl Lg.2 ?_);refine Y8 ?_
     have hn5:s0.1.length=(setI s0.1 s0.2.2 r1.1).length:=by simp [Cb,Co,List.length_append] <;> omega
     refine Hd (.here) (e':=.r (y0.1) ((setI s0.1 s0.2.2 r1.1).length) (y0.2) 102 1 ((setI s0.1 s0.2.2 r1.1).flatMap Aj)) (by first | (rw [← hn5];done) | rfl) ?_;refine Jk (s:=5) (v':=.slice (y0.1) ((setI s0.1 s0.2.2 r1.1).length) (y0.2)) rfl (by have hn6:(s0.1.length)=(setI s0.1 s0.2.2 r1.1).length:=(by simp [Cb,Co,List.length_append] <;> omega);first | (rw [← hn6];done) | rfl) ?_;exact Rp (setI s0.1 s0.2.2 r1.1,r1.2,w64 (s0.2.2+1)) (y0.1,y0.2) hx92 trivial (by exact .pick 0 rfl (.refl))
    ·refine Y4 ?_;refine Ag (Ca rfl 102 Tryz.underlying204) rfl ?_;refine Y3 ?_;refine Ti hx8 (s:=28) rfl (fun h7 hx61=>?_) (fun h7 hx73=>?_)
     ·refine Y4 ?_;obtain ⟨x4,h8,hx64⟩:=Ad hx61;have hw2:=Has.low (E:=[]) hs7 hK;obtain ⟨b3,o1,j5,hA3,hj4,hl4,hp3⟩:=Has.at_idx hw2 h8;refine Ag (Bf rfl rfl hA3 (j:=j5) hj4 hl4 Me) rfl ?_;refine Ag (Cd rfl hp3 (sb 1) rfl Lg) rfl ?_;refine Y2 ?_;exact Mt x4 () hx64 trivial (by exact .pick 0 rfl (.refl))
     ·refine Y2 ?_;exact Mt 0 () hx73 trivial (by exact .pick 0 rfl (.refl))
   ·refine Y3 ?_;obtain rfl:=Ct ht0 hx9;refine Y2 ?_;exact Mt (s0.1,s0.2.1) (y0.1,y0.2) ho0 trivial (by exact .pick 0 rfl (.refl))
 ·skip;refine Y3 ?_;refine Ag (Ca rfl 102 Tryz.underlying204) rfl ?_;refine Y ?_;refine Ag (Ca rfl 102 Tryz.underlying204) rfl ?_;refine Y3 ?_;refine Ti hx (s:=13) rfl (fun h1 hx2=>?_) (fun h1 hx3=>?_)
  ·refine Y7 ?_;exact Mt (p1,p0) (A0_1,c0_1,A0_0,c0_0) hx2 ((by exact ⟨Has.len' ha1',Has.len' ha0',trivial⟩)) (by exact .refl)
  ·refine Y2 ?_;exact Mt (p0,p1) (A0_0,c0_0,A0_1,c0_1) hx3 ((by exact ⟨Has.len' ha0',Has.len' ha1',trivial⟩)) (by exact .refl)
set_option maxHeartbeats 1000000 in
set_option maxRecDepth 100000 in
instance ratio_nat_add_c (p0:List Int) (p1:List Int):ConB (Ke p0 p1) Tryz.prog 272 (fun K vs=>∃ (A0_0:Option Addr) (c0_0:Nat) (A0_1:Option Addr) (c0_1:Nat),vs=[.slice (A0_0) ((p0).length) (c0_0),.slice (A0_1) ((p1).length) (c0_1)]∧Has K A0_0 (p0).length c0_0 1 Aj (p0)∧Has K A0_1 (p1).length c0_1 1 Aj (p1)∧True) (fun K r=>fun v Ln=>∃ (A0:Option Addr) (c0:Nat) (e:Ent),v = .slice (A0) ((r).length) (c0)∧Ln=[e]∧Has (K++[e]) A0 (r).length c0 1 Aj (r)∧True):=⟨by
 rintro K _ r ⟨A0_0,c0_0,A0_1,c0_1,rfl,ha0,ha1,-⟩ hx w hK;exact CtL.bunB (Abg p0 p1 ha0 ha1 hx w hK) (by
  rintro _ _ w1 hw ⟨_,_,_,rfl,rfl,_,-⟩
  exact ⟨_,_,_,rfl,rfl,hZ hw,trivial⟩)⟩
set_option maxHeartbeats 1000000 in
set_option maxRecDepth 100000 in
instance ratio_nat_sub_c (p0:List Int) (p1:List Int):ConB (Kf p0 p1) Tryz.prog 283 (fun K vs=>∃ (A0_0:Option Addr) (c0_0:Nat) (A0_1:Option Addr) (c0_1:Nat),vs=[.slice (A0_0) ((p0).length) (c0_0),.slice (A0_1) ((p1).length) (c0_1)]∧Has K A0_0 (p0).length c0_0 1 Aj (p0)∧Has K A0_1 (p1).length c0_1 1 Aj (p1)∧True) (fun K r=>fun v Ln=>∃ (A0:Option Addr) (c0:Nat) (e:Ent),v = .slice (A0) ((r).length) (c0)∧Ln=[e]∧Has (K++[e]) A0 (r).length c0 1 Aj (r)∧True):=⟨by
 rintro K _ r ⟨A0_0,c0_0,A0_1,c0_1,rfl,ha0,ha1,-⟩ hx w hK;unfold Kf at hx;refine CtS Tryz.ntmps283 Tryz.results283 ?_;refine pre ?_;intros;rename_i hx
 refine Im ?_;refine pre ?_;intros;rename_i hx
 apply Jr (γ:=(Option Addr) × Nat) hx [] (fun s4 y4 f=>(5,.slice (y4.1) ((s4).length) (y4.2))::f) [999] (fun s4 y4 l=>.r (y4.1) ((s4).length) (y4.2) 102 1 ((s4).flatMap Aj)::l);exact kk
 ·intro s4 y4 hx;exact au
 ·intro _ hx;refine pre ?_;intros;rename_i hx
  apply Lr (γ:=(Option Addr) × Nat) hx [0,1,13] (fun s0 y0 f=>(5,.slice (y0.1) ((s0.1).length) (y0.2))::(6,.int .u32 (s0.2.1))::(14,.int .i64 (s0.2.2))::f) [999] (fun s0 y0 l=>.r (y0.1) ((s0.1).length) (y0.2) 102 1 ((s0.1).flatMap Aj)::l) (_,_);exact kk;exact sk;intro s0 y0 x0 hx _;unfold Ku at hx
  exact au⟩

set_option maxRecDepth 100000 in
theorem Abh (p0:Ba) (p1:Ba) {K:List Ent} {A0_0:Option Addr} {c0_0:Nat} {A0_1:Option Addr} {c0_1:Nat} {A0_2:Option Addr} {c0_2:Nat} {A0_3:Option Addr} {c0_3:Nat} (ha0:Has K A0_0 p0.n.length c0_0 1 Aj (p0.n)) (ha1:Has K A0_1 p0.d.length c0_1 1 Aj (p0.d)) (ha2:Has K A0_2 p1.n.length c0_2 1 Aj (p1.n)) (ha3:Has K A0_3 p1.d.length c0_3 1 Aj (p1.d)) {r:Ba} (hx:Dr p0 p1=some r) (w:World) (hK:∀ e∈K,Ent.ok w e):CtL Tryz.prog 223 [.agg #[.bool (p0.neg),.slice (A0_0) (p0.n.length) (c0_0),.slice (A0_1) (p0.d.length) (c0_1)],.agg #[.bool (p1.neg),.slice (A0_2) (p1.n.length) (c0_2),.slice (A0_3) (p1.d.length) (c0_3)]] w fun v Ln=>∃ (A0:Option Addr) (c0:Nat) (A2:Option Addr) (c2:Nat) (e0:Ent) (e1:Ent),v = .agg #[.bool (r.neg),.slice (A0) (r.n.length) (c0),.slice (A2) (r.d.length) (c2)]∧Ln=[e0,e1]∧Has (K++[e0,e1]) A0 r.n.length c0 1 Aj (r.n)∧Has (K++[e0,e1]) A2 r.d.length c2 1 Aj (r.d)∧True:=by
 have ha0':=Has.up0 ha0;have ha1':=Has.up0 ha1;have ha2':=Has.up0 ha2;have ha3':=Has.up0 ha3;refine CtL.mk 21 Tryz.func223 rfl Tryz.ntmps223 (by kernel_rfl) rfl ?_;show T 21 _ [(0,.agg #[.bool (p0.neg),.slice (A0_0) (p0.n.length) (c0_0),.slice (A0_1) (p0.d.length) (c0_1)]),(1,.agg #[.bool (p1.neg),.slice (A0_2) (p1.n.length) (c0_2),.slice (A0_3) (p1.d.length) (c0_3)])] _;unfold Dr at hx;refine Y2 ?_;refine T_x (Ic rfl rfl rfl (fun g1=>?_));refine T_x (Ic rfl rfl rfl (fun g2=>?_));refine T_x (Bn Adw rfl (fun g3=>?_));refine Y3 ?_;refine T_dr [0,1,0,1,0,0,1,0,1,2,0,1,0,1,2,0,3] (.q 0 (.q 1 (.q 2 (.q 3 (.q 4 (.q 5 (.q 6 (.q 7 (.q 8 (.q 10 (.q 11 (.q 12 (.q 13 (.e 9 (.e 14 (.q 15 (.e 16 (.done) (.stop))) (.stop)) (.stop))))))))))))))) mixed (by kernel_rfl) (by kernel_rfl) ?_;refine P_p rfl rfl (Am rfl Wj rfl) rfl ?_;refine P_q rfl rfl (Ai rfl (i:=2) rfl rfl one4) rfl ?_;refine P_p rfl rfl (Am rfl Wj rfl) rfl ?_;refine P_q rfl rfl (Ai rfl (i:=1) rfl rfl one4) rfl ?_;refine P_p rfl rfl (Alx rfl rfl (by kernel_rfl)) rfl ?_;refine P_p rfl rfl (Am rfl Pd rfl) rfl ?_;refine P_q rfl rfl (Ai rfl (i:=2) rfl rfl Mf) rfl ?_;refine P_p rfl rfl (Am rfl Pd rfl) rfl ?_;refine P_q rfl rfl (Ai rfl (i:=1) rfl rfl Mf) rfl ?_;refine P_p rfl rfl (Am rfl Nw rfl) rfl ?_;refine P_q rfl rfl (Ai rfl (i:=2) rfl rfl Mf) rfl ?_
 refine P_p rfl rfl (Am rfl Nw rfl) rfl ?_;refine P_q rfl rfl (Ai rfl (i:=1) rfl rfl Mf) rfl ?_;obtain ⟨r4,h5,hx6⟩:=Ad hx;refine P_x rfl (Be rfl (fun w1 hw1=>Uc p0.n p1.n (Has.len' ha0') (Has.len' ha2') h5 w1 (Hk (K:=K) (K2:=[]) hK (by exact (sb 3)) (by exact (SubE.nil)) hw1)) rfl ?_) ?_;rotate_left;exact Ao;rintro _ _ hlo ⟨A7,c8,e9,rfl,rfl,hs0,-⟩;have lo11:=hlo e9 (by simp);refine Ha ?_;have hs1:Has (K++[e9]) _ _ _ _ _ _:=Has.assoc hs0;obtain ⟨r0,h0,hx0⟩:=Ad hx6;refine P_x rfl (Be rfl (fun w1 hw1=>Uc p0.d p1.d (Has.len' ha1') (Has.len' ha3') h0 w1 (Hk (K:=K) (K2:=[]) hK (by exact (sb 4)) (by exact (SubE.nil)) hw1)) rfl ?_) ?_;rotate_left;exact Ao;rintro _ _ hlo ⟨A1,c1,e2,rfl,rfl,hs2,-⟩;have lo20:=hlo e2 (by simp);refine Ha ?_;have hs3:Has (K++[e2]) _ _ _ _ _ _:=Has.assoc hs2;refine P_p rfl rfl (Bp rfl (Kc _ _ _ _ _ _ _)) rfl ?_;refine P_h rfl rfl (Au rfl rfl rfl (.there (.there (.here))) (.put (.put (.put (.done)))) rfl (List.cons_ne_nil _ _) Mg.2 ?_) ?_;rotate_left;exact Ao;refine Y3 ?_;obtain rfl:=Option.some.inj hx0;exact Ce (rs:=[.cell 4 206]) Tryz.results223 (.cell rfl (i:=2) rfl rfl Mg (.nil)) (Ln:=[e9,e2]) ⟨A7,c8,A1,c1,e9,e2,rfl,rfl,Has.len' (Has.up (L:=(K++[e9,e2])) hs1 (SubE.app2 (sb 0))),Has.len' (Has.up (L:=(K++[e9,e2])) hs3 (SubE.app2 (sb 1))),trivial⟩ (Bd lo11 (Bd lo20 (Cm))) (by exact .pick 1 rfl (.pick 0 rfl (.drop 0 rfl (.drop 0 rfl (.drop 0 rfl (.refl))))))
set_option maxRecDepth 100000 in
instance ratio_Num_Mul_c (p0:Ba) (p1:Ba):ConB (Dr p0 p1) Tryz.prog 223 (fun K vs=>∃ (A0_0:Option Addr) (c0_0:Nat) (A0_1:Option Addr) (c0_1:Nat) (A0_2:Option Addr) (c0_2:Nat) (A0_3:Option Addr) (c0_3:Nat),vs=[.agg #[.bool (p0.neg),.slice (A0_0) ((p0.n).length) (c0_0),.slice (A0_1) ((p0.d).length) (c0_1)],.agg #[.bool (p1.neg),.slice (A0_2) ((p1.n).length) (c0_2),.slice (A0_3) ((p1.d).length) (c0_3)]]∧Has K A0_0 (p0.n).length c0_0 1 Aj (p0.n)∧Has K A0_1 (p0.d).length c0_1 1 Aj (p0.d)∧Has K A0_2 (p1.n).length c0_2 1 Aj (p1.n)∧Has K A0_3 (p1.d).length c0_3 1 Aj (p1.d)∧True) (fun K r=>fun v Ln=>∃ (A0:Option Addr) (c0:Nat) (A2:Option Addr) (c2:Nat) (e:Ent),v = .agg #[.bool (r.neg),.slice (A0) ((r.n).length) (c0),.slice (A2) ((r.d).length) (c2)]∧Ln=[e]∧Has (K++[e]) A0 (r.n).length c0 1 Aj (r.n)∧Has (K++[e]) A2 (r.d).length c2 1 Aj (r.d)∧True):=⟨by
 rintro K _ r ⟨A0_0,c0_0,A0_1,c0_1,A0_2,c0_2,A0_3,c0_3,rfl,ha0,ha1,ha2,ha3,-⟩ hx w hK;unfold Dr at hx;have:=dl 1 [0,1,0,1,0,0,1,0,1,2,0,1,0,1,2,0,3] [0,1,2,3,4,5,6,7,8,10,11,12,13,9,14,15,16];refine CtS Tryz.ntmps223 Tryz.results223 ?_;exact au⟩

set_option maxHeartbeats 1000000 in
set_option maxRecDepth 100000 in
instance ratio_Num_Add_c (p0:Ba) (p1:Ba):ConB (Lv p0 p1) Tryz.prog 222 (fun K vs=>∃ (A0_0:Option Addr) (c0_0:Nat) (A0_1:Option Addr) (c0_1:Nat) (A0_2:Option Addr) (c0_2:Nat) (A0_3:Option Addr) (c0_3:Nat),vs=[.agg #[.bool (p0.neg),.slice (A0_0) ((p0.n).length) (c0_0),.slice (A0_1) ((p0.d).length) (c0_1)],.agg #[.bool (p1.neg),.slice (A0_2) ((p1.n).length) (c0_2),.slice (A0_3) ((p1.d).length) (c0_3)]]∧Has K A0_0 (p0.n).length c0_0 1 Aj (p0.n)∧Has K A0_1 (p0.d).length c0_1 1 Aj (p0.d)∧Has K A0_2 (p1.n).length c0_2 1 Aj (p1.n)∧Has K A0_3 (p1.d).length c0_3 1 Aj (p1.d)∧True) (fun K r=>fun v Ln=>∃ (A0:Option Addr) (c0:Nat) (A2:Option Addr) (c2:Nat) (e:Ent),v = .agg #[.bool (r.neg),.slice (A0) ((r.n).length) (c0),.slice (A2) ((r.d).length) (c2)]∧Ln=[e]∧Has (K++[e]) A0 (r.n).length c0 1 Aj (r.n)∧Has (K++[e]) A2 (r.d).length c2 1 Aj (r.d)∧True):=⟨by
 rintro K _ r ⟨A0_0,c0_0,A0_1,c0_1,A0_2,c0_2,A0_3,c0_3,rfl,ha0,ha1,ha2,ha3,-⟩ hx w hK;unfold Lv at hx;have:=dl 1 [0,1,0,1,2,0,1,0,1,2,2,2] [0,1,2,3,5,6,7,8,4,9,10,11];have:=dl 4 [0,1,0,0,2,0,0,3] [0,1,2,3,5,4,6,7];have:=dl 6 [0,1,0,0,2,0,0,3] [0,1,2,3,5,4,6,7];have:=dl 7 [0,1,0,0,2,0,0,3] [0,1,2,3,5,4,6,7];refine CtS Tryz.ntmps222 Tryz.results222 ?_;refine pre ?_;intros;rename_i hx
 refine Cq3 (s:=27) hx rfl (fun _ hx=>?_) (fun _ hx=>?_)
 ·exact au
 ·exact au⟩

set_option maxRecDepth 100000 in
instance ratio_Num_Sign_c (p0:Ba):Con (Kv p0) Tryz.prog 213 (fun K vs=>∃ (A0_0:Option Addr) (c0_0:Nat) (A0_1:Option Addr) (c0_1:Nat),vs=[.agg #[.bool (p0.neg),.slice (A0_0) ((p0.n).length) (c0_0),.slice (A0_1) ((p0.d).length) (c0_1)]]∧Has K A0_0 (p0.n).length c0_0 1 Aj (p0.n)∧Has K A0_1 (p0.d).length c0_1 1 Aj (p0.d)∧True) (fun _ r=>fun v Ln=>v = .int .i64 (r)∧Ln=[]∧True):=⟨by
 rintro K _ r ⟨A0_0,c0_0,A0_1,c0_1,rfl,ha0,ha1,-⟩ hx w hK;replace ha0:=Has.lo ha0 hK;replace ha1:=Has.lo ha1 hK;unfold Kv at hx;refine CtS Tryz.ntmps213 Tryz.results213 ?_;exact au⟩
set_option maxRecDepth 100000 in
theorem Agz (p0:Int)  {r:Ba} (hx:Hh p0=some r) (w:World):CtL Tryz.prog 151 [.int .i64 (p0)] w fun v Ln=>∃ (A0:Option Addr) (c0:Nat) (A2:Option Addr) (c2:Nat) (e0:Ent),v = .agg #[.bool (r.neg),.slice (A0) (r.n.length) (c0),.slice (A2) (r.d.length) (c2)]∧Ln=[.r A2 r.d.length c2 102 1 (r.d.flatMap Aj),e0]∧Has ([e0]:List Ent) A0 r.n.length c0 1 Aj (r.n)∧True:=by
 refine CtL.mk 18 Tryz.func151 rfl Tryz.ntmps151 (by kernel_rfl) rfl ?_;show T 18 _ [(0,.int .i64 (p0))] _;unfold Hh at hx;refine Y2 ?_;refine T_x (Bn Adw rfl (fun g1=>?_));refine Y9 ?_;refine Ti hx (s:=4) rfl (fun h2 hx3=>?_) (fun h2 hx0=>?_)
 ·refine Y6 ?_;refine Ag (Eg rfl (by kernel_rfl) Tryz.underlying227) rfl ?_;refine Y ?_;obtain ⟨r4,h5,hx6⟩:=Ad hx3;refine T_x (Be rfl (fun w1 hw1=>Sd (wu64 ((wu64 (w64 (-(w64 (p0+1)))))+1))  h5 w1) rfl ?_);rintro _ _ hlo ⟨A7,c8,e9,rfl,rfl,hs0,-⟩;have lo11:=hlo e9 (by simp);refine Ha ?_;refine T_x (Bz rfl (Nx _) rfl (fun g0=>?_));refine Ag (Bp rfl (Kc _ _ _ _ _ _ _)) rfl ?_;refine T_h (Au rfl rfl rfl (.there (.there (.here))) (.put (.put (.put (.done)))) rfl (List.cons_ne_nil _ _) Mg.2 ?_);refine Y4 ?_;refine T_mr (enc:=Aj) (sz:=1) ([1]) (.here) rfl rfl (fun _=>rfl) (by show 1≤maxLen;decide) ?_
  have hn0:1=([1]).length:=by simp [Cb,Co,List.length_append] <;> omega
  refine Hd (.here) (e':=.r (some ⟨g0,0,none⟩) (([1]).length) (1) 102 1 (([1]).flatMap Aj)) (by first | (rw [← hn0];done) | rfl) ?_;refine Hd (.there (.there (.here))) (e':=.m g1 206 [.bool (true),.slice (A7) (r4.length) (c8),.slice (some ⟨g0,0,none⟩) (([1]).length) (1)]) (by first | (rw [show (1)=([1]).length from (by simp [Cb,Co,List.length_append] <;> omega)];done) | rfl) ?_;obtain rfl:=Option.some.inj hx6;exact Ce (rs:=[.cell 2 206]) Tryz.results151 (.cell rfl (i:=2) rfl rfl Mg (.nil)) (Ln:=[.r (some ⟨g0,0,none⟩) (([1]).length) (1) 102 1 (([1]).flatMap Aj),e9]) ⟨A7,c8,(some ⟨g0,0,none⟩),1,e9,rfl,rfl,Has.len' hs0,trivial⟩ (Bd rfl (Bd lo11 (Cm))) (by exact .pick 0 rfl (.pick 0 rfl (.drop 0 rfl (.refl))))
 ·refine Y6 ?_;refine Ag (Eg rfl (by kernel_rfl) Tryz.underlying227) rfl ?_;obtain ⟨r0,h0,hx1⟩:=Ad hx0;refine T_x (Be rfl (fun w1 hw1=>Sd (wu64 (p0))  h0 w1) rfl ?_);rintro _ _ hlo ⟨A1,c1,e1,rfl,rfl,hs1,-⟩;have lo22:=hlo e1 (by simp);refine Ha ?_;refine T_x (Bz rfl (Nx _) rfl (fun g2=>?_));refine Ag (Bp rfl (Kc _ _ _ _ _ _ _)) rfl ?_;refine T_h (Au rfl rfl rfl (.there (.there (.here))) (.put (.put (.put (.done)))) rfl (List.cons_ne_nil _ _) Mg.2 ?_);refine Y3 ?_;refine T_mr (enc:=Aj) (sz:=1) ([1]) (.here) rfl rfl (fun _=>rfl) (by show 1≤maxLen;decide) ?_
  have hn1:1=([1]).length:=by simp [Cb,Co,List.length_append] <;> omega
  refine Hd (.here) (e':=.r (some ⟨g2,0,none⟩) (([1]).length) (1) 102 1 (([1]).flatMap Aj)) (by first | (rw [← hn1];done) | rfl) ?_;refine Hd (.there (.there (.here))) (e':=.m g1 206 [.bool (false),.slice (A1) (r0.length) (c1),.slice (some ⟨g2,0,none⟩) (([1]).length) (1)]) (by first | (rw [show (1)=([1]).length from (by simp [Cb,Co,List.length_append] <;> omega)];done) | rfl) ?_;obtain rfl:=Option.some.inj hx1;exact Ce (rs:=[.cell 2 206]) Tryz.results151 (.cell rfl (i:=2) rfl rfl Mg (.nil)) (Ln:=[.r (some ⟨g2,0,none⟩) (([1]).length) (1) 102 1 (([1]).flatMap Aj),e1]) ⟨A1,c1,(some ⟨g2,0,none⟩),1,e1,rfl,rfl,Has.len' hs1,trivial⟩ (Bd rfl (Bd lo22 (Cm))) (by exact .pick 0 rfl (.pick 0 rfl (.drop 0 rfl (.refl))))
set_option maxRecDepth 100000 in
instance ratio_Int_c (p0:Int):ConB (Hh p0) Tryz.prog 151 (fun _ vs=>vs=[.int .i64 (p0)]) (fun K r=>fun v Ln=>∃ (A0:Option Addr) (c0:Nat) (A2:Option Addr) (c2:Nat) (e:Ent),v = .agg #[.bool (r.neg),.slice (A0) ((r.n).length) (c0),.slice (A2) ((r.d).length) (c2)]∧Ln=[e]∧Has (K++[e]) A0 (r.n).length c0 1 Aj (r.n)∧Has (K++[e]) A2 (r.d).length c2 1 Aj (r.d)∧True):=⟨by
 rintro K _ r rfl hx w hK;exact CtL.bunB (Agz p0 hx w) (by
  rintro _ _ w1 hw ⟨_,_,_,_,_,rfl,rfl,_,-⟩
  exact ⟨_,_,_,_,_,rfl,rfl,hZ hw,hZ hw,trivial⟩)⟩
set_option maxHeartbeats 1000000 in
set_option maxRecDepth 100000 in
instance exact_inside_c (p0:List Ac):Con (Nk p0) Tryz.prog 147 (fun K vs=>∃ (A0_0:Option Addr) (c0_0:Nat),vs=[.slice (A0_0) ((p0).length) (c0_0)]∧Has K A0_0 (p0).length c0_0 2 Ady (p0)∧True) (fun _ r=>fun v Ln=>v = .bool (r)∧Ln=[]∧True):=⟨by
 rintro K _ r ⟨A0_0,c0_0,rfl,ha0,-⟩ hx w hK;replace ha0:=Has.lo ha0 hK;unfold Nk at hx;refine CtS Tryz.ntmps147 Tryz.results147 ?_;refine pre ?_;intros;rename_i hx
 refine Im ?_;refine pre ?_;intros;rename_i hx
 apply Jr (γ:=Unit) hx [] (fun s2 y2 f=>f) [999] (fun s2 y2 l=>l);exact kk
 ·intro s2 y2 hx;exact au
 ·intro _ hx;refine pre ?_;intros;rename_i hx
  apply Lr (γ:=Unit) hx [5,6] (fun s0 y0 f=>(7,.int .i64 (s0))::f) [999] (fun s0 y0 l=>l) ();exact kk;exact sk;intro s0 y0 x0 hx _;unfold Jn at hx
  refine pre ?_;intros;rename_i hx
  refine Cq1 (s:=8) hx rfl (fun _ hx=>?_) (fun _ hx=>?_)
  ·refine pre ?_;intros;rename_i hx
   apply Jr (γ:=Unit) hx [5,6,7] (fun s1 y1 f=>(28,.bool (s1))::f) [999] (fun s1 y1 l=>l);exact kk
   ·intro s1 y1 hx;exact au
   ·intro _ hx;exact au
  ·exact au⟩
set_option maxRecDepth 100000 in
instance exact_sign_int__c (p0:Int):Con (Jo p0) Tryz.prog 148 (fun _ vs=>vs=[.int .i64 (p0)]) (fun _ r=>fun v Ln=>v = .int .i64 (r)∧Ln=[]∧True):=⟨by
 rintro _ _ r rfl hx w hK;unfold Jo at hx;refine CtS Tryz.ntmps148 Tryz.results148 ?_;exact au⟩
set_option maxRecDepth 100000 in
instance exact_cross_c (p0:Ac) (p1:Ac) (p2:Ac):Con (Jx p0 p1 p2) Tryz.prog 149 (fun _ vs=>vs=[.agg #[.int .i64 (p0.X),.int .i64 (p0.Y)],.agg #[.int .i64 (p1.X),.int .i64 (p1.Y)],.agg #[.int .i64 (p2.X),.int .i64 (p2.Y)]]) (fun _ r=>fun v Ln=>v = .int .i64 (r)∧Ln=[]∧True):=⟨by
 rintro _ _ r rfl hx w hK;unfold Jx at hx;refine CtS Tryz.ntmps149 Tryz.results149 ?_;exact au⟩
set_option maxRecDepth 100000 in
instance exact_Turn_c (p0:Ac) (p1:Ac) (p2:Ac):Con (Qe p0 p1 p2) Tryz.prog 74 (fun _ vs=>vs=[.agg #[.int .i64 (p0.X),.int .i64 (p0.Y)],.agg #[.int .i64 (p1.X),.int .i64 (p1.Y)],.agg #[.int .i64 (p2.X),.int .i64 (p2.Y)]]) (fun _ r=>fun v Ln=>v = .tuple #[.int .i64 (r.1),.int .i64 (r.2)]∧Ln=[]∧True):=⟨by
 rintro _ _ r rfl hx w hK;unfold Qe at hx;refine CtS Tryz.ntmps74 Tryz.results74 ?_;exact au⟩
set_option maxRecDepth 100000 in
instance exact_lift_c (p0:Ac) (p1:Ac):Con (Oj p0 p1) Tryz.prog 259 (fun _ vs=>vs=[.agg #[.int .i64 (p0.X),.int .i64 (p0.Y)],.agg #[.int .i64 (p1.X),.int .i64 (p1.Y)]]) (fun _ r=>fun v Ln=>v = .int .i64 (r)∧Ln=[]∧True):=⟨by
 rintro _ _ r rfl hx w hK;unfold Oj at hx;have:=dl 1 [0,1,0,1,0,0,1,0,1,0,2,2] [0,1,2,3,4,5,6,7,8,9,10,11];refine CtS Tryz.ntmps259 Tryz.results259 ?_;exact au⟩
set_option maxHeartbeats 1000000 in
set_option maxRecDepth 100000 in
instance exact_Circle_c (p0:Ac) (p1:Ac) (p2:Ac) (p3:Ac):Con (Pe p0 p1 p2 p3) Tryz.prog 199 (fun _ vs=>vs=[.agg #[.int .i64 (p0.X),.int .i64 (p0.Y)],.agg #[.int .i64 (p1.X),.int .i64 (p1.Y)],.agg #[.int .i64 (p2.X),.int .i64 (p2.Y)],.agg #[.int .i64 (p3.X),.int .i64 (p3.Y)]]) (fun _ r=>fun v Ln=>v = .tuple #[.int .i64 (r.1),.int .i64 (r.2)]∧Ln=[]∧True):=⟨by
 rintro _ _ r rfl hx w hK;unfold Pe at hx;have:=dl 6 [1,1,2,2,1,1,1,2,2,2,4,3] [0,1,4,5,6,2,3,7,8,9,10,11] [10];have:=dl 7 [1,1,1,2,2,1,1,1,2,2,2,2,3] [0,1,2,5,6,7,3,4,8,9,10,11,12];have:=dl 8 [1,1,1,2,2,1,1,1,2,2,2,2,3] [0,1,2,5,6,7,3,4,8,9,10,11,12];refine CtS Tryz.ntmps199 Tryz.results199 ?_;refine pre ?_;intros;rename_i hx
 refine Cq4 (s:=18) hx rfl (fun _ hx=>?_) (fun _ hx=>?_)
 ·exact au
 ·refine pre ?_;intros;rename_i hx
  refine Cq1 (s:=25) hx rfl (fun _ hx=>?_) (fun _ hx=>?_)
  ·exact au
  ·exact au⟩
set_option maxRecDepth 100000 in
instance exact_Valid_c (p0:Av):Con (Mq p0) Tryz.prog 194 (fun _ vs=>vs=[.agg #[.int .i64 (p0.Lo),.int .i64 (p0.Hi)]]) (fun _ r=>fun v Ln=>v = .bool (r)∧Ln=[]∧True):=⟨by
 rintro _ _ r rfl hx w hK;unfold Mq at hx;refine CtS Tryz.ntmps194 Tryz.results194 ?_;exact au⟩
set_option maxRecDepth 100000 in
instance Anw (p0:Ab):Con (Fb p0) Tryz.prog 103 (fun _ vs=>vs=[.agg #[.int .i64 (p0.X),.int .i64 (p0.Y),.int .i64 (p0.Z.Lo),.int .i64 (p0.Z.Hi)]]) (fun _ r=>fun v Ln=>v = .agg #[.int .i64 (r.X),.int .i64 (r.Y)]∧Ln=[]∧True):=⟨by
 rintro _ _ r rfl hx w hK;unfold Fb at hx;refine CtS Tryz.ntmps103 Tryz.results103 ?_;exact au⟩
theorem Mr (p0:Ab)  {r:Ac} (hx:Fb p0=some r) (w:World):CtL Tryz.prog 103 [.agg #[.int .i64 (p0.X),.int .i64 (p0.Y),.int .i64 (p0.Z.Lo),.int .i64 (p0.Z.Hi)]] w fun v Ln=>v = .agg #[.int .i64 (r.X),.int .i64 (r.Y)]∧Ln=[]∧True:=(Anw p0).h [] _ _ rfl hx w (fun _ h=>absurd h List.not_mem_nil)
set_option maxRecDepth 100000 in
instance Afk (p0:Ac) (p1:Ac):Con (El p0 p1) Tryz.prog 131 (fun _ vs=>vs=[.agg #[.int .i64 (p0.X),.int .i64 (p0.Y)],.agg #[.int .i64 (p1.X),.int .i64 (p1.Y)]]) (fun _ r=>fun v Ln=>v = .bool (r)∧Ln=[]∧True):=⟨by
 rintro _ _ r rfl hx w hK;unfold El at hx;refine CtS Tryz.ntmps131 Tryz.results131 ?_;exact au⟩
theorem Wl (p0:Ac) (p1:Ac)  {r:Bool} (hx:El p0 p1=some r) (w:World):CtL Tryz.prog 131 [.agg #[.int .i64 (p0.X),.int .i64 (p0.Y)],.agg #[.int .i64 (p1.X),.int .i64 (p1.Y)]] w fun v Ln=>v = .bool (r)∧Ln=[]∧True:=(Afk p0 p1).h [] _ _ rfl hx w (fun _ h=>absurd h List.not_mem_nil)
set_option maxRecDepth 100000 in
instance Aim (p0:Ac) (p1:Ac) (p2:Ac):Con (Gm p0 p1 p2) Tryz.prog 125 (fun _ vs=>vs=[.agg #[.int .i64 (p0.X),.int .i64 (p0.Y)],.agg #[.int .i64 (p1.X),.int .i64 (p1.Y)],.agg #[.int .i64 (p2.X),.int .i64 (p2.Y)]]) (fun _ r=>fun v Ln=>v = .int .i64 (r)∧Ln=[]∧True):=⟨by
 rintro _ _ r rfl hx w hK;unfold Gm at hx;refine CtS Tryz.ntmps125 Tryz.results125 ?_;exact au⟩
theorem Pf (p0:Ac) (p1:Ac) (p2:Ac)  {r:Int} (hx:Gm p0 p1 p2=some r) (w:World):CtL Tryz.prog 125 [.agg #[.int .i64 (p0.X),.int .i64 (p0.Y)],.agg #[.int .i64 (p1.X),.int .i64 (p1.Y)],.agg #[.int .i64 (p2.X),.int .i64 (p2.Y)]] w fun v Ln=>v = .int .i64 (r)∧Ln=[]∧True:=(Aim p0 p1 p2).h [] _ _ rfl hx w (fun _ h=>absurd h List.not_mem_nil)
set_option maxHeartbeats 1000000 in
set_option maxRecDepth 100000 in
instance mesh_good_c (p0:Ab):Con (Ub p0) Tryz.prog 119 (fun _ vs=>vs=[.agg #[.int .i64 (p0.X),.int .i64 (p0.Y),.int .i64 (p0.Z.Lo),.int .i64 (p0.Z.Hi)]]) (fun _ r=>fun v Ln=>v = .bool (r)∧Ln=[]∧True):=⟨by
 rintro _ _ r rfl hx w hK;unfold Ub at hx;have:=dl 1 [1,2,1,2,1,2,2,0,0,0,2,2] [0,2,4,1,3,5,6,7,8,9,10,11];refine CtS Tryz.ntmps119 Tryz.results119 ?_;exact au⟩
set_option maxRecDepth 100000 in
instance Ain (p0:Int) (p1:Int):Con (Fd p0 p1) Tryz.prog 120 (fun _ vs=>vs=[.int .i64 (p0),.int .i64 (p1)]) (fun _ r=>fun v Ln=>v = .agg #[.int .i64 (r.a0),.int .i64 (r.a1)]∧Ln=[]∧True):=⟨by
 rintro _ _ r rfl hx w hK;unfold Fd at hx;refine CtS Tryz.ntmps120 Tryz.results120 ?_;exact au⟩
theorem Ia (p0:Int) (p1:Int)  {r:Aa} (hx:Fd p0 p1=some r) (w:World):CtL Tryz.prog 120 [.int .i64 (p0),.int .i64 (p1)] w fun v Ln=>v = .agg #[.int .i64 (r.a0),.int .i64 (r.a1)]∧Ln=[]∧True:=(Ain p0 p1).h [] _ _ rfl hx w (fun _ h=>absurd h List.not_mem_nil)
set_option maxRecDepth 100000 in
instance Ag0 (p0:Aa) (p1:Aa):Con (Sc p0 p1) Tryz.prog 124 (fun _ vs=>vs=[.agg #[.int .i64 (p0.a0),.int .i64 (p0.a1)],.agg #[.int .i64 (p1.a0),.int .i64 (p1.a1)]]) (fun _ r=>fun v Ln=>v = .int .i64 (r)∧Ln=[]∧True):=⟨by
 rintro _ _ r rfl hx w hK;unfold Sc at hx;refine CtS Tryz.ntmps124 Tryz.results124 ?_;exact au⟩
theorem Tr (p0:Aa) (p1:Aa)  {r:Int} (hx:Sc p0 p1=some r) (w:World):CtL Tryz.prog 124 [.agg #[.int .i64 (p0.a0),.int .i64 (p0.a1)],.agg #[.int .i64 (p1.a0),.int .i64 (p1.a1)]] w fun v Ln=>v = .int .i64 (r)∧Ln=[]∧True:=(Ag0 p0 p1).h [] _ _ rfl hx w (fun _ h=>absurd h List.not_mem_nil)
set_option maxHeartbeats 1000000 in
set_option maxRecDepth 100000 in
instance Ag1 (p0:Ac) (p1:Ac) (p2:Ac) (p3:Ac):Con (Ok p0 p1 p2 p3) Tryz.prog 134 (fun _ vs=>vs=[.agg #[.int .i64 (p0.X),.int .i64 (p0.Y)],.agg #[.int .i64 (p1.X),.int .i64 (p1.Y)],.agg #[.int .i64 (p2.X),.int .i64 (p2.Y)],.agg #[.int .i64 (p3.X),.int .i64 (p3.Y)]]) (fun _ r=>fun v Ln=>v = .bool (r)∧Ln=[]∧True):=⟨by
 rintro _ _ r rfl hx w hK;unfold Ok at hx;refine CtS Tryz.ntmps134 Tryz.results134 ?_;refine pre ?_;intros;rename_i hx
 refine Cq2 (s:=23) hx rfl (fun _ hx=>?_) (fun _ hx=>?_)
 ·exact au
 ·refine pre ?_;intros;rename_i hx
  refine Im ?_;refine pre ?_;intros;rename_i hx
  apply Jr (γ:=(Nat)) hx [6,7] (fun s7 y7 f=>(11,.pointer (some ⟨y7,0,none⟩))::f) [1,2,999] (fun s7 y7 l=>.m y7 38 [.int .i64 (s7.1),.int .i64 (s7.2)]::l);exact kk
  ·intro s7 y7 hx;exact au
  ·intro _ hx;refine pre ?_;intros;rename_i hx
   apply Lr (γ:=(Nat)) hx [6,7,30] (fun s0 y0 f=>(11,.pointer (some ⟨y0,0,none⟩))::(31,.int .i64 (s0.2.2))::f) [1,2,999] (fun s0 y0 l=>.m y0 38 [.int .i64 (s0.1),.int .i64 (s0.2.1)]::l) _;exact kk;exact sk;intro s0 y0 x0 hx _;unfold Tq at hx
   exact au⟩
theorem Afl (p0:Ac) (p1:Ac) (p2:Ac) (p3:Ac)  {r:Bool} (hx:Ok p0 p1 p2 p3=some r) (w:World):CtL Tryz.prog 134 [.agg #[.int .i64 (p0.X),.int .i64 (p0.Y)],.agg #[.int .i64 (p1.X),.int .i64 (p1.Y)],.agg #[.int .i64 (p2.X),.int .i64 (p2.Y)],.agg #[.int .i64 (p3.X),.int .i64 (p3.Y)]] w fun v Ln=>v = .bool (r)∧Ln=[]∧True:=(Ag1 p0 p1 p2 p3).h [] _ _ rfl hx w (fun _ h=>absurd h List.not_mem_nil)
end Go.Proofs.YtebkcipolijfmaaGreat
