/- Walks of the program, with their plain functions: numbers, turns, circles. -/
import Derived.Test.YtgfiafnelibjgaaGreatFlow19
import Derived.Test.YtgfiafnelibjgaaGreatProg
namespace Go.Proofs.YtgfiafnelibjgaaGreat
open Go Go.RowKit
theorem mixed:Tryz.prog.follows .mixedOrders=true:=by kernel_rfl
instance:MixI Tryz.prog:=⟨mixed⟩
theorem Wt:Jq Tryz.prog 198 247 1:=.mk Tryz.underlying198 (show Tryz.prog.info? 247=some Tryz.t247 from by kernel_rfl) (by kernel_rfl)
instance:Mh Tryz.prog 198 247 1:=⟨Wt⟩
theorem Zc:Oi Tryz.prog 247:=.mk Tryz.underlying247 rfl (show Tryz.prog.info? 247=some Tryz.t247 from by kernel_rfl) (by kernel_rfl)
instance:OneI Tryz.prog 247:=⟨Zc⟩
theorem Qv (x0:Int) (x1:Int):Dy Tryz.prog 198 2 [(0,.int .u32 x0),(1,.int .u32 x1)] 247 [.int .u32 x0,.int .u32 x1]:=fun w=>by kernel_rfl
instance (x0:Int) (x1:Int):Ms Tryz.prog 198 2 [(0,.int .u32 x0),(1,.int .u32 x1)] 247 [.int .u32 x0,.int .u32 x1]:=⟨Qv _ _⟩
theorem Am0:Nb Tryz.prog 200 [.bool (false),.slice (none) (0) (0),.slice (none) (0) (0)]:=⟨_,Tryz.zeroValue200,rfl⟩
instance:Wn Tryz.prog 200 [.bool (false),.slice (none) (0) (0),.slice (none) (0) (0)]:=⟨Am0⟩
theorem Am1:Fw Tryz.prog 200 0 0:=.mk Tryz.underlying200 rfl rfl (show Tryz.prog.info? 4=some Tryz.t4 from by kernel_rfl) (show Tryz.t4.size=1 from by kernel_rfl) rfl
instance:Jy Tryz.prog 200 0 0:=⟨Am1⟩
theorem one4:Oi Tryz.prog 4:=.mk Tryz.underlying4 rfl (show Tryz.prog.info? 4=some Tryz.t4 from by kernel_rfl) (by kernel_rfl)
instance:OneI Tryz.prog 4:=⟨one4⟩
theorem Am2:Fw Tryz.prog 200 1 1:=.mk Tryz.underlying200 rfl rfl (show Tryz.prog.info? 198=some Tryz.t198 from by kernel_rfl) (show Tryz.t198.size=1 from by kernel_rfl) rfl
instance:Jy Tryz.prog 200 1 1:=⟨Am2⟩
theorem Asy:Oi Tryz.prog 198:=.mk Tryz.underlying198 rfl (show Tryz.prog.info? 198=some Tryz.t198 from by kernel_rfl) (by kernel_rfl)
instance:OneI Tryz.prog 198:=⟨Asy⟩
theorem Am3:Fw Tryz.prog 200 2 2:=.mk Tryz.underlying200 rfl rfl (show Tryz.prog.info? 198=some Tryz.t198 from by kernel_rfl) (show Tryz.t198.size=1 from by kernel_rfl) rfl
instance:Jy Tryz.prog 200 2 2:=⟨Am3⟩
theorem Rg (x0:Bool) (x1:Option Addr) (x2:Nat) (x3:Nat) (x4:Option Addr) (x5:Nat) (x6:Nat):Kn Tryz.prog 200 [(0,.bool x0),(1,.slice x1 x2 x3),(2,.slice x4 x5 x6)] [.bool x0,.slice x1 x2 x3,.slice x4 x5 x6]:=fun w=>by kernel_rfl
instance (x0:Bool) (x1:Option Addr) (x2:Nat) (x3:Nat) (x4:Option Addr) (x5:Nat) (x6:Nat):Oa Tryz.prog 200 [(0,.bool x0),(1,.slice x1 x2 x3),(2,.slice x4 x5 x6)] [.bool x0,.slice x1 x2 x3,.slice x4 x5 x6]:=⟨Rg _ _ _ _ _ _ _⟩
theorem Aby:Nk Tryz.prog 200 3:=.mk Tryz.underlying200 rfl (show Tryz.prog.info? 200=some Tryz.t200 from by kernel_rfl) (by kernel_rfl)
instance:AggI Tryz.prog 200 3:=⟨Aby⟩
theorem Rh (x0:Int):Dy Tryz.prog 198 1 [(0,.int .u32 x0)] 247 [.int .u32 x0]:=fun w=>by kernel_rfl
instance (x0:Int):Ms Tryz.prog 198 1 [(0,.int .u32 x0)] 247 [.int .u32 x0]:=⟨Rh _⟩
theorem Am4:Jq Tryz.prog 186 38 2:=.mk Tryz.underlying186 (show Tryz.prog.info? 38=some Tryz.t38 from by kernel_rfl) (by kernel_rfl)
instance:Mh Tryz.prog 186 38 2:=⟨Am4⟩
theorem Dq:Nk Tryz.prog 38 2:=.mk Tryz.underlying38 rfl (show Tryz.prog.info? 38=some Tryz.t38 from by kernel_rfl) (by kernel_rfl)
instance:AggI Tryz.prog 38 2:=⟨Dq⟩
theorem Ad2:Nb Tryz.prog 38 [.int .i64 (0),.int .i64 (0)]:=⟨_,Tryz.zeroValue38,rfl⟩
instance:Wn Tryz.prog 38 [.int .i64 (0),.int .i64 (0)]:=⟨Ad2⟩
theorem Aqd:Fw Tryz.prog 38 0 0:=.mk Tryz.underlying38 rfl rfl (show Tryz.prog.info? 3=some Tryz.t3 from by kernel_rfl) (show Tryz.t3.size=1 from by kernel_rfl) rfl
instance:Jy Tryz.prog 38 0 0:=⟨Aqd⟩
theorem one3:Oi Tryz.prog 3:=.mk Tryz.underlying3 rfl (show Tryz.prog.info? 3=some Tryz.t3 from by kernel_rfl) (by kernel_rfl)
instance:OneI Tryz.prog 3:=⟨one3⟩
theorem Aqe:Fw Tryz.prog 38 1 1:=.mk Tryz.underlying38 rfl rfl (show Tryz.prog.info? 3=some Tryz.t3 from by kernel_rfl) (show Tryz.t3.size=1 from by kernel_rfl) rfl
instance:Jy Tryz.prog 38 1 1:=⟨Aqe⟩
theorem Ix (x0:Int) (x1:Int) (x2:Int) (x3:Int) (x4:Int) (x5:Int):Dy Tryz.prog 186 3 [(0,.agg #[.int .i64 x0,.int .i64 x1]),(1,.agg #[.int .i64 x2,.int .i64 x3]),(2,.agg #[.int .i64 x4,.int .i64 x5])] 38 [.int .i64 x0,.int .i64 x1,.int .i64 x2,.int .i64 x3,.int .i64 x4,.int .i64 x5]:=fun w=>by kernel_rfl
instance (x0:Int) (x1:Int) (x2:Int) (x3:Int) (x4:Int) (x5:Int):Ms Tryz.prog 186 3 [(0,.agg #[.int .i64 x0,.int .i64 x1]),(1,.agg #[.int .i64 x2,.int .i64 x3]),(2,.agg #[.int .i64 x4,.int .i64 x5])] 38 [.int .i64 x0,.int .i64 x1,.int .i64 x2,.int .i64 x3,.int .i64 x4,.int .i64 x5]:=⟨Ix _ _ _ _ _ _⟩
theorem Kr (x0:Int) (x1:Int) (x2:Int) (x3:Int) (x4:Int) (x5:Int) (x6:Int) (x7:Int):Dy Tryz.prog 186 4 [(0,.agg #[.int .i64 x0,.int .i64 x1]),(1,.agg #[.int .i64 x2,.int .i64 x3]),(2,.agg #[.int .i64 x4,.int .i64 x5]),(3,.agg #[.int .i64 x6,.int .i64 x7])] 38 [.int .i64 x0,.int .i64 x1,.int .i64 x2,.int .i64 x3,.int .i64 x4,.int .i64 x5,.int .i64 x6,.int .i64 x7]:=fun w=>by kernel_rfl
instance (x0:Int) (x1:Int) (x2:Int) (x3:Int) (x4:Int) (x5:Int) (x6:Int) (x7:Int):Ms Tryz.prog 186 4 [(0,.agg #[.int .i64 x0,.int .i64 x1]),(1,.agg #[.int .i64 x2,.int .i64 x3]),(2,.agg #[.int .i64 x4,.int .i64 x5]),(3,.agg #[.int .i64 x6,.int .i64 x7])] 38 [.int .i64 x0,.int .i64 x1,.int .i64 x2,.int .i64 x3,.int .i64 x4,.int .i64 x5,.int .i64 x6,.int .i64 x7]:=⟨Kr _ _ _ _ _ _ _ _⟩
theorem Aqf:Fw Tryz.prog 41 0 0:=.mk Tryz.underlying41 rfl rfl (show Tryz.prog.info? 3=some Tryz.t3 from by kernel_rfl) (show Tryz.t3.size=1 from by kernel_rfl) rfl
instance:Jy Tryz.prog 41 0 0:=⟨Aqf⟩
theorem Aqg:Fw Tryz.prog 41 1 1:=.mk Tryz.underlying41 rfl rfl (show Tryz.prog.info? 3=some Tryz.t3 from by kernel_rfl) (show Tryz.t3.size=1 from by kernel_rfl) rfl
instance:Jy Tryz.prog 41 1 1:=⟨Aqg⟩
theorem Aqh:Fw Tryz.prog 43 0 0:=.mk Tryz.underlying43 rfl rfl (show Tryz.prog.info? 3=some Tryz.t3 from by kernel_rfl) (show Tryz.t3.size=1 from by kernel_rfl) rfl
instance:Jy Tryz.prog 43 0 0:=⟨Aqh⟩
theorem Aqi:Fw Tryz.prog 43 1 1:=.mk Tryz.underlying43 rfl rfl (show Tryz.prog.info? 3=some Tryz.t3 from by kernel_rfl) (show Tryz.t3.size=1 from by kernel_rfl) rfl
instance:Jy Tryz.prog 43 1 1:=⟨Aqi⟩
theorem Abz (x0:Int) (x1:Int):Kn Tryz.prog 38 [(0,.int .i64 x0),(1,.int .i64 x1)] [.int .i64 x0,.int .i64 x1]:=fun w=>by kernel_rfl
instance (x0:Int) (x1:Int):Oa Tryz.prog 38 [(0,.int .i64 x0),(1,.int .i64 x1)] [.int .i64 x0,.int .i64 x1]:=⟨Abz _ _⟩
theorem Oe:Nk Tryz.prog 43 4:=.mk Tryz.underlying43 rfl (show Tryz.prog.info? 43=some Tryz.t43 from by kernel_rfl) (by kernel_rfl)
instance:AggI Tryz.prog 43 4:=⟨Oe⟩
theorem Aqj:Fw Tryz.prog 43 2 2:=.mk Tryz.underlying43 rfl rfl (show Tryz.prog.info? 41=some Tryz.t41 from by kernel_rfl) (show Tryz.t41.size=2 from by kernel_rfl) rfl
instance:Jy Tryz.prog 43 2 2:=⟨Aqj⟩
theorem At9:Nk Tryz.prog 41 2:=.mk Tryz.underlying41 rfl (show Tryz.prog.info? 41=some Tryz.t41 from by kernel_rfl) (by kernel_rfl)
instance:AggI Tryz.prog 41 2:=⟨At9⟩
theorem Qw:Nb Tryz.prog 48 [.int .i64 (0),.int .i64 (0)]:=⟨_,Tryz.zeroValue48,rfl⟩
instance:Wn Tryz.prog 48 [.int .i64 (0),.int .i64 (0)]:=⟨Qw⟩
theorem Cq (x0:Int) (x1:Int):Kn Tryz.prog 48 [(0,.int .i64 x0),(1,.int .i64 x1)] [.int .i64 x0,.int .i64 x1]:=fun w=>by kernel_rfl
instance (x0:Int) (x1:Int):Oa Tryz.prog 48 [(0,.int .i64 x0),(1,.int .i64 x1)] [.int .i64 x0,.int .i64 x1]:=⟨Cq _ _⟩
theorem Fo:Nk Tryz.prog 48 2:=.arr Tryz.underlying48 (show Tryz.prog.info? 48=some Tryz.t48 from by kernel_rfl) (by kernel_rfl)
instance:AggI Tryz.prog 48 2:=⟨Fo⟩
theorem Cd:Ack Tryz.prog 48 2 1:=.mk Tryz.underlying48 (show Tryz.prog.info? 3=some Tryz.t3 from by kernel_rfl) (by kernel_rfl)
instance:ArrI Tryz.prog 48 2 1:=⟨Cd⟩
theorem Od (x0:Int) (x1:Int) (x2:Int) (x3:Int) (x4:Int) (x5:Int):Kn Tryz.prog 233 [(0,.agg #[.int .i64 x0,.int .i64 x1]),(1,.agg #[.int .i64 x2,.int .i64 x3]),(2,.agg #[.int .i64 x4,.int .i64 x5])] [.int .i64 x0,.int .i64 x1,.int .i64 x2,.int .i64 x3,.int .i64 x4,.int .i64 x5]:=fun w=>by kernel_rfl
instance (x0:Int) (x1:Int) (x2:Int) (x3:Int) (x4:Int) (x5:Int):Oa Tryz.prog 233 [(0,.agg #[.int .i64 x0,.int .i64 x1]),(1,.agg #[.int .i64 x2,.int .i64 x3]),(2,.agg #[.int .i64 x4,.int .i64 x5])] [.int .i64 x0,.int .i64 x1,.int .i64 x2,.int .i64 x3,.int .i64 x4,.int .i64 x5]:=⟨Od _ _ _ _ _ _⟩
theorem Am5 (a0:Int) (a1:Int) (b0:Int) (b1:Int):∀ w,(Op.equalIn 10000 38 (.agg #[.int .i64 (a0),.int .i64 (a1)]) (.agg #[.int .i64 (b0),.int .i64 (b1)])).run Tryz.prog w = .ok ((((a0) == (b0)) && (((a1) == (b1)) && true))) w :=
 EqF.struct Tryz.underlying38 (by kernel_rfl) (.cons rfl (fun w=>by kernel_rfl) (fun w=>by kernel_rfl) (fun w=>run_equalIn_int w 9998 3 .i64 .i64 _ _ Tryz.underlying3) (.cons rfl (fun w=>by kernel_rfl) (fun w=>by kernel_rfl) (fun w=>run_equalIn_int w 9998 3 .i64 .i64 _ _ Tryz.underlying3) (EqF.nil)))
instance (a0:Int) (a1:Int) (b0:Int) (b1:Int):EqSI Tryz.prog 38 [.int .i64 (a0),.int .i64 (a1)] [.int .i64 (b0),.int .i64 (b1)] ((((a0) == (b0)) && (((a1) == (b1)) && true))):=⟨Am5 _ _ _ _,by kernel_rfl⟩
instance:UndI Tryz.prog 198 (.slice 247):=⟨Tryz.underlying198⟩
def Bw (x:Int):List Value:=[.int .u32 (x)]
instance (x0:Int):DecI Bw [.int .u32 (x0)] (x0):=⟨rfl⟩
instance:EncI 247 Bw:=⟨trivial⟩
noncomputable def Lc  : (List Int)→Option (Sum (List Int) (List Int)):=fun s0 =>
 jn (fun (s6:Bool) =>
 if s6=true then (gd (0≤(w64 (((((s0).length:Nat):Int))-1))∧(w64 (((((s0).length:Nat):Int))-1))≤(((s0).length:Nat):Int)) <|
 some (.inl (subl s0 0 (w64 (((((s0).length:Nat):Int))-1)))))
 else (some (.inr s0)))
 (fun j6=>if 0 < ((((s0).length:Nat):Int)) then (bnd (idx s0 (w64 (((((s0).length:Nat):Int))-1))) fun x0 =>
 j6 (decide (x0=0)))
 else (j6 false))
noncomputable def Er (p0:List Int):Option (List Int) :=
 jn (fun (s2:List Int) =>
 some s2)
 (fun j2=>bnd (lfix (Lc) p0) fun t0 =>
 j2 t0)
instance:UndI Tryz.prog 249 (.int .u64):=⟨Tryz.underlying249⟩
instance:UndI Tryz.prog 247 (.int .u32):=⟨Tryz.underlying247⟩
noncomputable def Kc (p0:Int):Option (List Int) :=
 bnd (Er ([wu32 (p0),wu32 (shr_ .u64 p0 32)])) fun r3 =>
 some r3
noncomputable def Hj (p0:Int) (p1:Int) (p2:Int):Option (Int × Int) :=
 some (wu32 (wu64 ((wu64 ((wu64 (p0))+(wu64 (p1))))+(wu64 (p2)))),wu32 (shr_ .u64 (wu64 ((wu64 ((wu64 (p0))+(wu64 (p1))))+(wu64 (p2)))) 32))
noncomputable def Iy (p0:Int) (p1:Int) (p2:Int):Option (Int × Int) :=
 some (wu32 ((wu32 (p0-p1))-p2),shr_ .u32 (Aij .u32 (Mr .u32 (Vv .u32 (if IntKind.signed .u32 then -1 else IntKind.max .u32) p0) p1) (Mr .u32 (Vv .u32 (if IntKind.signed .u32 then -1 else IntKind.max .u32) (Vv .u32 p0 p1)) (wu32 ((wu32 (p0-p1))-p2)))) 31)
instance:MkI Tryz.prog 198 247 1 4 Bw 0:=⟨Tryz.t247,.int .u32 (0),Tryz.underlying198,by kernel_rfl,by kernel_rfl,rfl,by kernel_rfl,by kernel_rfl⟩
noncomputable def Ib (p1:List Int) (s0:(List Int) × Int) (x0:Int):((List Int) × Int × Int)→Option (Sum ((List Int) × Int × Int) ((List Int) × Int)):=fun s1 =>
 if s1.2.2 < ((((p1).length:Nat):Int)) then (bnd (idx p1 s1.2.2) fun x1 =>
 bnd (idx s1.1 (w64 (s0.2+s1.2.2))) fun x2 =>
 bnd (idx s1.1 (w64 (s0.2+s1.2.2))) fun x3 =>
 some (.inl (setI s1.1 (w64 (s0.2+s1.2.2)) (wu32 (wu64 ((wu64 ((wu64 ((wu64 (x0))*(wu64 (x1))))+(wu64 (x2))))+s1.2.1))),shr_ .u64 (wu64 ((wu64 ((wu64 ((wu64 (x0))*(wu64 (x1))))+(wu64 (x2))))+s1.2.1)) 32,w64 (s1.2.2+1))))
 else (some (.inr (s1.1,s1.2.1)))
noncomputable def Ic (p0:List Int) (p1:List Int):((List Int) × Int)→Option (Sum ((List Int) × Int) (List Int)):=fun s0 =>
 if s0.2 < ((((p0).length:Nat):Int)) then (bnd (idx p0 s0.2) fun x0 =>
 jn (fun (s1:(List Int) × Int) =>
 bnd (idx s1.1 (w64 (s0.2+((((p1).length:Nat):Int))))) fun x1 =>
 some (.inl (setI s1.1 (w64 (s0.2+((((p1).length:Nat):Int)))) (wu32 (s1.2)),w64 (s0.2+1))))
 (fun j0=>bnd (lfix (Ib p1 s0 x0) (s0.1,0,0)) fun t0 =>
 j0 t0))
 else (some (.inr s0.1))
noncomputable def Ds (p0:List Int) (p1:List Int):Option (List Int) :=
 gd ((0:Int)≤(w64 (((((p0).length:Nat):Int))+((((p1).length:Nat):Int))))∧4*Int.toNat (w64 (((((p0).length:Nat):Int))+((((p1).length:Nat):Int))))≤140737488355328) <|
 jn (fun (s3:List Int) =>
 bnd (Er s3) fun r0 =>
 some r0)
 (fun j3=>bnd (lfix (Ic p0 p1) (List.replicate (Int.toNat (w64 (((((p0).length:Nat):Int))+((((p1).length:Nat):Int))))) (0:Int),0)) fun t0 =>
 j3 t0)
noncomputable def Md (p0:List Int) (p1:List Int):Int→Option (Sum Int (Sum Unit Int)):=fun s0 =>
 if 0≤s0 then (bnd (idx p0 s0) fun x0 =>
 bnd (idx p1 s0) fun x1 =>
 if x0=x1 then (some (.inl (w64 (s0-1))))
 else (bnd (idx p0 s0) fun x2 =>
 bnd (idx p1 s0) fun x3 =>
 if x2 < x3 then (some (.inr (.inr (-1))))
 else (some (.inr (.inr (1))))))
 else (some (.inr (.inl ())))
noncomputable def Mk (p0:List Int) (p1:List Int):Option Int :=
 if ((((p0).length:Nat):Int))=((((p1).length:Nat):Int)) then (jn (fun (s8:Unit) =>
 some 0)
 (fun j8=>bnd (lfix (Md p0 p1) (w64 (((((p0).length:Nat):Int))-1))) fun t0 =>
 (match t0 with
 | (.inl z0)=>j8 z0
 | (.inr (z0))=>some z0
 )))
 else (if ((((p0).length:Nat):Int)) < ((((p1).length:Nat):Int)) then (some (-1))
 else (some 1))
noncomputable def Id (s2:(List Int) × (List Int)):((List Int) × Int × Int)→Option (Sum ((List Int) × Int × Int) ((List Int) × Int)):=fun s0 =>
 if s0.2.2 < ((((s2.1).length:Nat):Int)) then (jn (fun (s1:Int) =>
 bnd (idx s2.1 s0.2.2) fun x0 =>
 bnd (Hj x0 s1 s0.2.1) fun r0 =>
 bnd (idx s0.1 s0.2.2) fun x1 =>
 some (.inl (setI s0.1 s0.2.2 r0.1,r0.2,w64 (s0.2.2+1))))
 (fun j0=>if s0.2.2 < ((((s2.2).length:Nat):Int)) then (bnd (idx s2.2 s0.2.2) fun x2 =>
 j0 x2)
 else (j0 0)))
 else (some (.inr (s0.1,s0.2.1)))
noncomputable def Jl (p0:List Int) (p1:List Int):Option (List Int) :=
 jn (fun (s2:(List Int) × (List Int)) =>
 gd ((0:Int)≤(w64 (((((s2.1).length:Nat):Int))+1))∧4*Int.toNat (w64 (((((s2.1).length:Nat):Int))+1))≤140737488355328) <|
 jn (fun (s6:(List Int) × Int) =>
 bnd (idx s6.1 ((((s2.1).length:Nat):Int))) fun x0 =>
 bnd (Er (setI s6.1 ((((s2.1).length:Nat):Int)) s6.2)) fun r0 =>
 some r0)
 (fun j6=>bnd (lfix (Id s2) (List.replicate (Int.toNat (w64 (((((s2.1).length:Nat):Int))+1))) (0:Int),0,0)) fun t0 =>
 j6 t0))
 (fun j2=>if ((((p0).length:Nat):Int)) < ((((p1).length:Nat):Int)) then (j2 (p1,p0))
 else (j2 (p0,p1)))
noncomputable def Js (p0:List Int) (p1:List Int):((List Int) × Int × Int)→Option (Sum ((List Int) × Int × Int) (List Int)):=fun s0 =>
 if s0.2.2 < ((((p0).length:Nat):Int)) then (jn (fun (s1:Int) =>
 bnd (idx p0 s0.2.2) fun x0 =>
 bnd (Iy x0 s1 s0.2.1) fun r0 =>
 bnd (idx s0.1 s0.2.2) fun x1 =>
 some (.inl (setI s0.1 s0.2.2 r0.1,r0.2,w64 (s0.2.2+1))))
 (fun j0=>if s0.2.2 < ((((p1).length:Nat):Int)) then (bnd (idx p1 s0.2.2) fun x2 =>
 j0 x2)
 else (j0 0)))
 else (some (.inr s0.1))
noncomputable def Jm (p0:List Int) (p1:List Int):Option (List Int) :=
 gd ((0:Int)≤((((p0).length:Nat):Int))∧4*Int.toNat ((((p0).length:Nat):Int))≤140737488355328) <|
 jn (fun (s4:List Int) =>
 bnd (Er s4) fun r0 =>
 some r0)
 (fun j4=>bnd (lfix (Js p0 p1) (List.replicate (Int.toNat ((((p0).length:Nat):Int))) (0:Int),0,0)) fun t0 =>
 j4 t0)
structure Bn where
 neg:Bool
 n:List Int
 d:List Int
instance:UndI Tryz.prog 4 (.bool):=⟨Tryz.underlying4⟩
noncomputable def Hv (p0:Bn) (p1:Bn):Option Bn :=
 bnd (Ds p0.n p1.n) fun r4 =>
 bnd (Ds p0.d p1.d) fun r0 =>
 some (⟨!((p0.neg) == (p1.neg)),r4,r0⟩:Bn)
noncomputable def Kv (p0:Bn) (p1:Bn):Option Bn :=
 bnd (Ds p0.n p1.d) fun r4 =>
 bnd (Ds p1.n p0.d) fun r0 =>
 bnd (Ds p0.d p1.d) fun r1 =>
 if ((p0.neg) == (p1.neg))=true then (bnd (Jl r4 r0) fun r2 =>
 some (⟨p0.neg,r2,r1⟩:Bn))
 else (bnd (Mk r4 r0) fun r3 =>
 if 0≤r3 then (bnd (Jm r4 r0) fun r5 =>
 some (⟨p0.neg,r5,r1⟩:Bn))
 else (bnd (Jm r0 r4) fun r6 =>
 some (⟨p1.neg,r6,r1⟩:Bn)))
noncomputable def Jt (p0:Bn):Option Int :=
 if ((((p0.n).length:Nat):Int))=0 then (some 0)
 else (if p0.neg=true then (some (-1))
 else (some 1))
instance:UndI Tryz.prog 3 (.int .i64):=⟨Tryz.underlying3⟩
noncomputable def Ie (p0:Int):Option Bn :=
 if p0 < 0 then (bnd (Kc (wu64 ((wu64 (w64 (-(w64 (p0+1)))))+1))) fun r4 =>
 some (⟨true,r4,[1]⟩:Bn))
 else (bnd (Kc (wu64 (p0))) fun r0 =>
 some (⟨false,r0,[1]⟩:Bn))
structure Ac where
 X:Int
 Y:Int
instance:UndI Tryz.prog 186 (.slice 38):=⟨Tryz.underlying186⟩
noncomputable def Iz (p0:List Ac):Int→Option (Sum Int (Sum Unit Bool)):=fun s0 =>
 if s0 < ((((p0).length:Nat):Int)) then (bnd (idx p0 s0) fun x0 =>
 jn (fun (s1:Bool) =>
 if s1=true then (some (.inr (.inr (false))))
 else (some (.inl (w64 (s0+1)))))
 (fun j0=>if x0.X < (-268435456) then (j0 true)
 else (if 268435456 < x0.X then (j0 true)
 else (if x0.Y < (-268435456) then (j0 true)
 else (j0 (decide (268435456 < x0.Y)))))))
 else (some (.inr (.inl ())))
noncomputable def Me (p0:List Ac):Option Bool :=
 jn (fun (s2:Unit) =>
 some true)
 (fun j2=>bnd (lfix (Iz p0) 0) fun t0 =>
 (match t0 with
 | (.inl z0)=>j2 z0
 | (.inr (z0))=>some z0
 ))
def Rs (x:Ac):List Value:=[.int .i64 (x.X),.int .i64 (x.Y)]
instance (x0:Int) (x1:Int):DecI Rs [.int .i64 (x0),.int .i64 (x1)] (⟨x0,x1⟩):=⟨rfl⟩
instance:EncI 38 Rs:=⟨trivial⟩
noncomputable def Ja (p0:Int):Option Int :=
 if p0 < 0 then (some (-1))
 else (if 0 < p0 then (some 1)
 else (some 0))
noncomputable def Jf (p0:Ac) (p1:Ac) (p2:Ac):Option Int :=
 some (w64 ((w64 ((w64 (p1.X-p0.X))*(w64 (p2.Y-p0.Y))))-(w64 ((w64 (p1.Y-p0.Y))*(w64 (p2.X-p0.X))))))
structure Al where
 Lo:Int
 Hi:Int
structure Ab where
 X:Int
 Y:Int
 Z:Al
structure Zd where
 Neg:Bool
 L:List Int
structure Ua where
 N:Zd
 D:List Int
structure S_lidarref06_Spot where
 X:Ua
 Y:Ua
noncomputable def Oj (p0:Ac) (p1:Ac) (p2:Ac):Option (Int × Int) :=
 bnd (Me ([p0,p1,p2])) fun r6 =>
 if r6=true then (bnd (Jf p0 p1 p2) fun r0 =>
 bnd (Ja r0) fun r1 =>
 some (r1,0))
 else (some (0,11))
noncomputable def Mw (p0:Ac) (p1:Ac):Option Int :=
 some (w64 ((w64 ((w64 (p0.X-p1.X))*(w64 (p0.X-p1.X))))+(w64 ((w64 (p0.Y-p1.Y))*(w64 (p0.Y-p1.Y))))))
noncomputable def Nl (p0:Ac) (p1:Ac) (p2:Ac) (p3:Ac):Option (Int × Int) :=
 bnd (Me ([p0,p1,p2,p3])) fun r7 =>
 if r7=true then (bnd (Jf p0 p1 p2) fun r0 =>
 bnd (Ja r0) fun r1 =>
 if r1=0 then (some (0,12))
 else (bnd (Mw p0 p3) fun r2 =>
 bnd (Ie r2) fun r3 =>
 bnd (Jf p3 p1 p2) fun r4 =>
 bnd (Ie r4) fun r5 =>
 bnd (Hv r3 r5) fun r6 =>
 bnd (Mw p1 p3) fun r8 =>
 bnd (Ie r8) fun r9 =>
 bnd (Jf p3 p2 p0) fun r81 =>
 bnd (Ie r81) fun r84 =>
 bnd (Hv r9 r84) fun r98 =>
 bnd (Kv r6 r98) fun r10 =>
 bnd (Mw p2 p3) fun r11 =>
 bnd (Ie r11) fun r12 =>
 bnd (Jf p3 p0 p1) fun r14 =>
 bnd (Ie r14) fun r15 =>
 bnd (Hv r12 r15) fun r17 =>
 bnd (Kv r10 r17) fun r18 =>
 bnd (Jt r18) fun r19 =>
 some (w64 (r1*r19),0)))
 else (some (0,11))
noncomputable def Qx (p0:Al):Option Bool :=
 jn (fun (s2:Bool) =>
 some s2)
 (fun j2=>if (-1152921504606846976)≤p0.Lo then (if p0.Lo≤p0.Hi then (j2 (decide (p0.Hi≤1152921504606846976)))
 else (j2 false))
 else (j2 false))
noncomputable def Ez (p0:Ab):Option Ac :=
 some (⟨p0.X,p0.Y⟩:Ac)
noncomputable def Ej (p0:Ac) (p1:Ac):Option Bool :=
 jn (fun (s2:Bool) =>
 some s2)
 (fun j2=>if p0.X < p1.X then (j2 true)
 else (if p0.X=p1.X then (j2 (decide (p0.Y < p1.Y)))
 else (j2 false)))
noncomputable def Gq (p0:Ac) (p1:Ac) (p2:Ac):Option Int :=
 bnd (Oj p0 p1 p2) fun r4 =>
 some r4.1
structure Ze where
 Neg:Bool
 Num:List Int
 Den:List Int
structure S_api_Stop where
 At:Ze
 In:Bool
 Lo:Ze
 Hi:Ze
noncomputable def Rt (p0:Ab):Option Bool :=
 bnd (Ez (⟨p0.X,p0.Y,(⟨p0.Z.Lo,p0.Z.Hi⟩:Al)⟩:Ab)) fun r2 =>
 bnd (Ez (⟨p0.X,p0.Y,(⟨p0.Z.Lo,p0.Z.Hi⟩:Al)⟩:Ab)) fun r5 =>
 bnd (Ez (⟨p0.X,p0.Y,(⟨p0.Z.Lo,p0.Z.Hi⟩:Al)⟩:Ab)) fun r8 =>
 bnd (Oj r2 r5 r8) fun r0 =>
 jn (fun (s3:Bool) =>
 some s3)
 (fun j3=>if r0.2=0 then (bnd (Qx (⟨p0.Z.Lo,p0.Z.Hi⟩:Al)) fun r1 =>
 if r1=true then (if (-268435456)≤p0.Z.Lo then (j3 (decide (p0.Z.Hi≤268435456)))
 else (j3 false))
 else (j3 false))
 else (j3 false))
structure Aa where
 a0:Int
 a1:Int
noncomputable def Ff (p0:Int) (p1:Int):Option Aa :=
 some (⟨min p0 p1,max p0 p1⟩:Aa)
noncomputable def Qc (p0:Aa) (p1:Aa):Option Int :=
 if p0.a0=p1.a0 then (some (w64 (p0.a1-p1.a1)))
 else (some (w64 (p0.a0-p1.a0)))
theorem Asz (x0:Int) (x1:Int) (x2:Int) (x3:Int) (x4:Int) (x5:Int):Ae3 Tryz.prog 233 [.int .i64 x0,.int .i64 x1,.int .i64 x2,.int .i64 x3,.int .i64 x4,.int .i64 x5] [.agg #[.int .i64 x0,.int .i64 x1],.agg #[.int .i64 x2,.int .i64 x3],.agg #[.int .i64 x4,.int .i64 x5]]:=by
 intro j h k w
 have h':j < 3:=h
 match j,h,h' with
 | 0,_,_=>exact (show (Instr.index 233 (.agg ([.int .i64 x0,.int .i64 x1,.int .i64 x2,.int .i64 x3,.int .i64 x4,.int .i64 x5]:List Value).toArray) (.int k ((0:Nat):Int))).run Tryz.prog w = .ok (.agg #[.int .i64 x0,.int .i64 x1]) w by kernel_rfl)
 | 1,_,_=>exact (show (Instr.index 233 (.agg ([.int .i64 x0,.int .i64 x1,.int .i64 x2,.int .i64 x3,.int .i64 x4,.int .i64 x5]:List Value).toArray) (.int k ((1:Nat):Int))).run Tryz.prog w = .ok (.agg #[.int .i64 x2,.int .i64 x3]) w by kernel_rfl)
 | 2,_,_=>exact (show (Instr.index 233 (.agg ([.int .i64 x0,.int .i64 x1,.int .i64 x2,.int .i64 x3,.int .i64 x4,.int .i64 x5]:List Value).toArray) (.int k ((2:Nat):Int))).run Tryz.prog w = .ok (.agg #[.int .i64 x4,.int .i64 x5]) w by kernel_rfl)
def Ml (x:Ac):Value:=.agg #[.int .i64 (x.X),.int .i64 (x.Y)]
theorem Xx (x y:Ac) (h:Ml x=Ml y):x=y:=by
 rcases x with ⟨_,_⟩;rcases y with ⟨_,_⟩;simp [Ml] at h;simp [h]
instance (x:Ac):UnfI Ml x (.agg #[.int .i64 (x.X),.int .i64 (x.Y)]):=⟨rfl⟩
instance (x0:Int) (x1:Int):Ys Ml (.agg #[.int .i64 (x0),.int .i64 (x1)]) (⟨x0,x1⟩):=⟨rfl⟩
instance:ValI Tryz.prog 38 Ml ((⟨0,0⟩:Ac)):=⟨Xx,fun w=>by kernel_rfl⟩
instance (x0:Int) (x1:Int) (x2:Int) (x3:Int) (x4:Int) (x5:Int):Ao3 Tryz.prog 233 [.int .i64 x0,.int .i64 x1,.int .i64 x2,.int .i64 x3,.int .i64 x4,.int .i64 x5] Ml [(⟨x0,x1⟩:Ac),(⟨x2,x3⟩:Ac),(⟨x4,x5⟩:Ac)]:=⟨Asz _ _ _ _ _ _⟩
noncomputable def Ri (p1:Ac) (p2:Ac) (p3:Ac):(Int × Int × Int)→Option (Sum (Int × Int × Int) (Int × Int)):=fun s0 =>
 if s0.2.2 < 3 then (jn (fun (s1:Int × Int) =>
 some (.inl (s1.1,s1.2,w64 (s0.2.2+1))))
 (fun j0=>bnd (idx [p1,p2,p3] s0.2.2) fun x0 =>
 bnd (Ej x0 (⟨s0.1,s0.2.1⟩:Ac)) fun r0 =>
 if r0=true then (j0 (x0.X,x0.Y))
 else (j0 (s0.1,s0.2.1))))
 else (some (.inr (s0.1,s0.2.1)))
noncomputable def Mx (p0:Ac) (p1:Ac) (p2:Ac) (p3:Ac):Option Bool :=
 bnd (Nl p0 p1 p2 p3) fun r5 =>
 if r5.1=0 then (jn (fun (s7:Int × Int) =>
 jn (fun (s0:Bool) =>
 some s0)
 (fun j0=>if ((((s7.1) == (p2.X)) && (((s7.2) == (p2.Y)) && true)))=true then (j0 true)
 else (j0 (((s7.1) == (p3.X)) && (((s7.2) == (p3.Y)) && true)))))
 (fun j7=>bnd (lfix (Ri p1 p2 p3) (p0.X,p0.Y,0)) fun t0 =>
 j7 t0))
 else (some (decide (r5.1 < 0)))
set_option maxRecDepth 100000 in
theorem Nm (p0:List Int) {K:List Ent} {A0_0:Option Addr} {c0_0:Nat} (ha0:Has K A0_0 p0.length c0_0 1 Bw (p0)) {r:List Int} (hx:Er p0=some r) (w:World) (hK:∀ e∈K,Ent.ok w e):CtL Tryz.prog 204 [.slice (A0_0) (p0.length) (c0_0)] w fun v Ln=>∃ (A0:Option Addr) (c0:Nat),v = .slice (A0) (r.length) (c0)∧Ln=[]∧Has (K++[]) A0 r.length c0 1 Bw (r)∧True:=by
 have ha0':=Has.up0 ha0;refine CtL.mk 21 Tryz.func204 rfl Tryz.ntmps204 (by kernel_rfl) rfl ?_;show T 21 _ [(0,.slice (A0_0) (p0.length) (c0_0))] _;unfold Er at hx;refine Y5 ?_;obtain ⟨j2,hj2,hx⟩:=Ox hx;refine Pm (τ:=List Int) (γ:=(Option Addr) × Nat) (J:=j2) (out:=r) (fun s2 y2=>[(0,.slice (y2.1) (s2.length) (y2.2))]) (fun s2 y2=>[]++[.old w]) (fun s2 y2=>Has (K++[]) (y2.1) (s2.length) (y2.2) 1 Bw (s2)∧True) ?_ ?_
 ·intro s2 y2 hx0 hG0;obtain ⟨hs0,-⟩:=hG0;subst hj2;refine Y7 ?_;obtain rfl:=Option.some.inj hx0;exact Di (rs:=[.tmp 2]) Tryz.results204 (.tmp rfl (.nil)) (Ln:=[]) ⟨y2.1,y2.2,rfl,rfl,Has.len' hs0,trivial⟩ (Ec) (by exact .refl)
 ·skip;refine Y ?_;obtain ⟨t0,hl0,ho0⟩:=Ag hx;refine Lp (σ:=List Int) (γ:=(Option Addr) × Nat) hl0 (fun s0 y0=>[(0,.slice (y0.1) (s0.length) (y0.2))]) (fun s0 y0=>[]++[.old w]) (fun s0 y0=>Has (K++[]) (y0.1) (s0.length) (y0.2) 1 Bw (s0)∧True) (A0_0,c0_0) ((by exact ⟨Has.len' ha0',trivial⟩)) (by exact .refl) ?_;intro s0 y0 hG1 x0 hx1 ht0;unfold Lc at hx1;obtain ⟨hs1,-⟩:=hG1;refine Y ?_;refine Tj (γ:=Unit) hx1 (fun s6 y6=>[(0,.slice (y0.1) (s0.length) (y0.2)),(14,.bool (s6))]) (fun s6 y6=>[]++[.old w]) (fun s6 y6=>True) (fun s6 y6 hx2 hG2=>?_) (fun j6 hx1=>?_)
  ·refine Do (s:=14) rfl (fun h0=>?_) (fun h0=>?_)
   ·have hx3:=Df h0 hx2;refine Y7 ?_;refine Ao (Dj rfl 247 Tryz.underlying198) rfl ?_;refine Y ?_;obtain ⟨h1,hx4⟩:=Bp hx3;have hs2:=Has.subH hs1 h1.1 h1.2;refine Ao (Yq rfl rfl Wt h1.1 (by have:=Has.nc hs1;omega)) rfl ?_;refine Y3 ?_;refine Jv (s:=0) (v':=.slice (y0.1) ((subl s0 0 (w64 ((((s0.length:Nat):Int))-1))).length) (y0.2)) rfl (by have hn0:(Int.toNat (w64 ((((s0.length:Nat):Int))-1)))=(subl s0 0 (w64 ((((s0.length:Nat):Int))-1))).length:=(Has.len hs2).symm;first | (rw [← hn0];done) | rfl) ?_;exact Rp (subl s0 0 (w64 ((((s0.length:Nat):Int))-1))) (y0.1,y0.2) hx4 ((by exact ⟨Has.len' hs2,trivial⟩)) (by exact .refl)
   ·have hx5:=Dw h0 hx2;refine Y3 ?_;obtain rfl:=Ck ht0 hx5;refine Y2 ?_;exact Mt s0 (y0.1,y0.2) ho0 ((by exact ⟨Has.len' hs1,trivial⟩)) (by exact .refl)
  ·refine Y2 ?_;refine Ao (Dj rfl 247 Tryz.underlying198) rfl ?_;refine Y2 ?_;refine Ti hx1 (s:=6) rfl (fun h2 hx6=>?_) (fun h2 hx7=>?_)
   ·refine Y2 ?_;refine Ex rfl rfl rfl (Dj rfl 247 Tryz.underlying198) rfl ?_;refine Y ?_;obtain ⟨x1,h3,hx8⟩:=Ag hx6;have hw0:=Has.low (E:=[]) hs1 hK;obtain ⟨b0,o0,j0,hA0,hj0,hl1,hp0⟩:=Has.at_idx hw0 h3;refine Ex rfl rfl rfl (Bc rfl rfl hA0 (j:=j0) hj0 hl1 Wt) rfl ?_;refine Ex rfl rfl rfl (De rfl hp0 (sb 0) rfl Zc) rfl ?_;refine Y3 ?_;exact Mt (decide (x1=0)) () hx8 trivial (by exact .refl)
   ·refine Y9 ?_;exact Mt false () hx7 trivial (by exact .refl)
set_option maxHeartbeats 1000000 in
set_option maxRecDepth 100000 in
instance ratio_nat_norm_c (p0:List Int):ConB (Er p0) Tryz.prog 204 (fun K vs=>∃ (A0_0:Option Addr) (c0_0:Nat),vs=[.slice (A0_0) ((p0).length) (c0_0)]∧Has K A0_0 (p0).length c0_0 1 Bw (p0)∧True) (fun K r=>fun v Ln=>∃ (A0:Option Addr) (c0:Nat) (e:Ent),v = .slice (A0) ((r).length) (c0)∧Ln=[e]∧Has (K++[e]) A0 (r).length c0 1 Bw (r)∧True):=⟨by
 rintro K _ r ⟨A0_0,c0_0,rfl,ha0,-⟩ hx w hK;exact CtL.bunB (Nm p0 ha0 hx w hK) (by
  rintro _ _ w1 hw ⟨_,_,rfl,rfl,_,-⟩
  exact ⟨_,_,_,rfl,rfl,hZ hw,trivial⟩)⟩
set_option maxRecDepth 100000 in
theorem Ub (p0:Int)  {r:List Int} (hx:Kc p0=some r) (w:World):CtL Tryz.prog 200 [.int .u64 (p0)] w fun v Ln=>∃ (A0:Option Addr) (c0:Nat) (e0:Ent),v = .slice (A0) (r.length) (c0)∧Ln=[e0]∧Has ([e0]:List Ent) A0 r.length c0 1 Bw (r)∧True:=by
 refine CtL.mk 10 Tryz.func200 rfl Tryz.ntmps200 (by kernel_rfl) rfl ?_;show T 10 _ [(0,.int .u64 (p0))] _;unfold Kc at hx;refine Y8 ?_;refine Ao (Tb rfl (by kernel_rfl) Tryz.underlying247) rfl ?_;refine Y ?_;refine Ao (Akj rfl rfl (by decide)) rfl ?_;refine Ao (Tb rfl (by kernel_rfl) Tryz.underlying247) rfl ?_;refine T_x (Bu rfl (Qv _ _) rfl (fun g1=>?_));have hs2:Has [.m g1 247 [.int .u32 (wu32 (p0)),.int .u32 (wu32 (shr_ .u64 p0 32))]] (some ⟨g1,0,none⟩) 2 2 1 Bw [wu32 (p0),wu32 (shr_ .u64 p0 32)]:=Has.ofM (fun _ _=>rfl) rfl (by decide) rfl;obtain ⟨r3,h4,hx5⟩:=Ag hx;refine T_x (Bt rfl (fun w1 hw1=>Nm ([wu32 (p0),wu32 (shr_ .u64 p0 32)]) (Has.len' hs2) h4 w1 (Ld (K:=([.m g1 247 [.int .u32 (wu32 (p0)),.int .u32 (wu32 (shr_ .u64 p0 32))]]:List Ent)) (by exact (sb 0)) hw1)) rfl ?_);rintro _ _ hlo ⟨A6,c7,rfl,rfl,hs8,-⟩;refine Eu ?_;refine Y4 ?_;obtain rfl:=Option.some.inj hx5;exact Di (rs:=[.tmp 2]) Tryz.results200 (.tmp rfl (.nil)) (Ln:=[.m g1 247 [.int .u32 (wu32 (p0)),.int .u32 (wu32 (shr_ .u64 p0 32))]]) ⟨A6,c7,(.m g1 247 [.int .u32 (wu32 (p0)),.int .u32 (wu32 (shr_ .u64 p0 32))]),rfl,rfl,Has.len' hs8,trivial⟩ (Co rfl (Ec)) (by exact .pick 0 rfl (.refl))
set_option maxRecDepth 100000 in
instance ratio_natOf_c (p0:Int):ConB (Kc p0) Tryz.prog 200 (fun _ vs=>vs=[.int .u64 (p0)]) (fun K r=>fun v Ln=>∃ (A0:Option Addr) (c0:Nat) (e:Ent),v = .slice (A0) ((r).length) (c0)∧Ln=[e]∧Has (K++[e]) A0 (r).length c0 1 Bw (r)∧True):=⟨by
 rintro K _ r rfl hx w hK;unfold Kc at hx;refine CtS Tryz.ntmps200 Tryz.results200 ?_;exact au⟩

set_option maxRecDepth 100000 in
instance Xy (p0:Int) (p1:Int) (p2:Int):Con (Hj p0 p1 p2) Tryz.prog 301 (fun _ vs=>vs=[.int .u32 (p0),.int .u32 (p1),.int .u32 (p2)]) (fun _ r=>fun v Ln=>v = .tuple #[.int .u32 (r.1),.int .u32 (r.2)]∧Ln=[]∧True):=⟨by
 rintro _ _ r rfl hx w hK;unfold Hj at hx;refine CtS Tryz.ntmps301 Tryz.results301 ?_;exact au⟩
theorem Wu (p0:Int) (p1:Int) (p2:Int)  {r:Int × Int} (hx:Hj p0 p1 p2=some r) (w:World):CtL Tryz.prog 301 [.int .u32 (p0),.int .u32 (p1),.int .u32 (p2)] w fun v Ln=>v = .tuple #[.int .u32 (r.1),.int .u32 (r.2)]∧Ln=[]∧True:=(Xy p0 p1 p2).h [] _ _ rfl hx w (fun _ h=>absurd h List.not_mem_nil)
set_option maxRecDepth 100000 in
instance math_bits_Sub32_c (p0:Int) (p1:Int) (p2:Int):Con (Iy p0 p1 p2) Tryz.prog 302 (fun _ vs=>vs=[.int .u32 (p0),.int .u32 (p1),.int .u32 (p2)]) (fun _ r=>fun v Ln=>v = .tuple #[.int .u32 (r.1),.int .u32 (r.2)]∧Ln=[]∧True):=⟨by
 rintro _ _ r rfl hx w hK;unfold Iy at hx;refine CtS Tryz.ntmps302 Tryz.results302 ?_;exact au⟩
set_option maxHeartbeats 1000000 in
set_option maxRecDepth 100000 in
instance ratio_nat_mul_c (p0:List Int) (p1:List Int):ConB (Ds p0 p1) Tryz.prog 269 (fun K vs=>∃ (A0_0:Option Addr) (c0_0:Nat) (A0_1:Option Addr) (c0_1:Nat),vs=[.slice (A0_0) ((p0).length) (c0_0),.slice (A0_1) ((p1).length) (c0_1)]∧Has K A0_0 (p0).length c0_0 1 Bw (p0)∧Has K A0_1 (p1).length c0_1 1 Bw (p1)∧True) (fun K r=>fun v Ln=>∃ (A0:Option Addr) (c0:Nat) (e:Ent),v = .slice (A0) ((r).length) (c0)∧Ln=[e]∧Has (K++[e]) A0 (r).length c0 1 Bw (r)∧True):=⟨by
 rintro K _ r ⟨A0_0,c0_0,A0_1,c0_1,rfl,ha0,ha1,-⟩ hx w hK;unfold Ds at hx;refine CtS Tryz.ntmps269 Tryz.results269 ?_;refine pre ?_;intros;rename_i hx
 apply Jr (γ:=(Option Addr) × Nat) hx [] (fun s3 y3 f=>(5,.slice (y3.1) ((s3).length) (y3.2))::f) [999] (fun s3 y3 l=>.r (y3.1) ((s3).length) (y3.2) 247 1 ((s3).flatMap Bw)::l);exact kk
 ·intro s3 y3 hx;exact au
 ·intro _ hx;refine pre ?_;intros;rename_i hx
  apply Lr (γ:=(Option Addr) × Nat) hx [1,18,19] (fun s0 y0 f=>(5,.slice (y0.1) ((s0.1).length) (y0.2))::(20,.int .i64 (s0.2))::f) [999] (fun s0 y0 l=>.r (y0.1) ((s0.1).length) (y0.2) 247 1 ((s0.1).flatMap Bw)::l) (_,_);exact kk;exact sk;intro s0 y0 x0 hx _;unfold Ic at hx
  refine pre ?_;intros;rename_i hx
  refine Cq1 (s:=21) hx rfl (fun _ hx=>?_) (fun _ hx=>?_)
  ·refine pre ?_;intros;rename_i hx
   refine Ka ?_;refine pre ?_;intros;rename_i hx
   apply Jr (γ:=(Option Addr) × Nat) hx [1,6,18,19,20] (fun s1 y1 f=>(5,.slice (y1.1) ((s1.1).length) (y1.2))::(8,.int .u64 (s1.2))::f) [999] (fun s1 y1 l=>.r (y1.1) ((s1.1).length) (y1.2) 247 1 ((s1.1).flatMap Bw)::l);exact kk
   ·intro s1 y1 hx;exact au
   ·intro _ hx;refine pre ?_;intros;rename_i hx
    apply Lr (γ:=(Option Addr) × Nat) hx [1,6,7,18,19,20,25,26] (fun s2 y2 f=>(5,.slice (y2.1) ((s2.1).length) (y2.2))::(8,.int .u64 (s2.2.1))::(27,.int .i64 (s2.2.2))::f) [999] (fun s2 y2 l=>.r (y2.1) ((s2.1).length) (y2.2) 247 1 ((s2.1).flatMap Bw)::l) (_,_);exact kk;exact sk;intro s2 y2 x1 hx _;unfold Ib at hx
    exact au
  ·exact au⟩

set_option maxHeartbeats 1000000 in
set_option maxRecDepth 100000 in
instance ratio_nat_cmp_c (p0:List Int) (p1:List Int):Con (Mk p0 p1) Tryz.prog 268 (fun K vs=>∃ (A0_0:Option Addr) (c0_0:Nat) (A0_1:Option Addr) (c0_1:Nat),vs=[.slice (A0_0) ((p0).length) (c0_0),.slice (A0_1) ((p1).length) (c0_1)]∧Has K A0_0 (p0).length c0_0 1 Bw (p0)∧Has K A0_1 (p1).length c0_1 1 Bw (p1)∧True) (fun _ r=>fun v Ln=>v = .int .i64 (r)∧Ln=[]∧True):=⟨by
 rintro K _ r ⟨A0_0,c0_0,A0_1,c0_1,rfl,ha0,ha1,-⟩ hx w hK;replace ha0:=Has.lo ha0 hK;replace ha1:=Has.lo ha1 hK;unfold Mk at hx;have:=dl 8 [0,0,0,1,0,0,0,1,0] [0,1,2,3,4,5,6,7,8];have:=dl 9 [0,0,0,1,0,0,0,1,0] [0,1,2,3,4,5,6,7,8];refine CtS Tryz.ntmps268 Tryz.results268 ?_;refine pre ?_;intros;rename_i hx
 refine Cq2 (s:=10) hx rfl (fun _ hx=>?_) (fun _ hx=>?_)
 ·exact au
 ·refine pre ?_;intros;rename_i hx
  apply Jr (γ:=Unit) hx [] (fun s8 y8 f=>f) [999] (fun s8 y8 l=>l);exact kk
  ·intro s8 y8 hx;exact au
  ·intro _ hx;refine pre ?_;intros;rename_i hx
   apply Lr (γ:=Unit) hx [0,1] (fun s61 y61 f=>(5,.int .i64 (s61))::f) [999] (fun s61 y61 l=>l) ();exact kk;exact sk;intro s61 y61 x61 hx _;unfold Md at hx
   exact au⟩
set_option maxRecDepth 100000 in
theorem Zf (p0:List Int) (p1:List Int) {K:List Ent} {A0_0:Option Addr} {c0_0:Nat} {A0_1:Option Addr} {c0_1:Nat} (ha0:Has K A0_0 p0.length c0_0 1 Bw (p0)) (ha1:Has K A0_1 p1.length c0_1 1 Bw (p1)) {r:List Int} (hx:Jl p0 p1=some r) (w:World) (hK:∀ e∈K,Ent.ok w e):CtL Tryz.prog 267 [.slice (A0_0) (p0.length) (c0_0),.slice (A0_1) (p1.length) (c0_1)] w fun v Ln=>∃ (A0:Option Addr) (c0:Nat) (e0:Ent),v = .slice (A0) (r.length) (c0)∧Ln=[e0]∧Has (K++[e0]) A0 r.length c0 1 Bw (r)∧True:=by
 have ha0':=Has.up0 ha0;have ha1':=Has.up0 ha1;refine CtL.mk 54 Tryz.func267 rfl Tryz.ntmps267 (by kernel_rfl) rfl ?_;show T 54 _ [(0,.slice (A0_0) (p0.length) (c0_0)),(1,.slice (A0_1) (p1.length) (c0_1))] _;unfold Jl at hx;refine Y5 ?_;obtain ⟨j2,hj2,hx⟩:=Ox hx;refine Pm (τ:=(List Int) × (List Int)) (γ:=(Option Addr) × Nat × (Option Addr) × Nat) (J:=j2) (out:=r) (fun s2 y2=>[(0,.slice (y2.1) (s2.1.length) (y2.2.1)),(1,.slice (y2.2.2.1) (s2.2.length) (y2.2.2.2))]) (fun s2 y2=>[]++[.old w]) (fun s2 y2=>Has (K++[]) (y2.1) (s2.1.length) (y2.2.1) 1 Bw (s2.1)∧Has (K++[]) (y2.2.2.1) (s2.2.length) (y2.2.2.2) 1 Bw (s2.2)∧True) ?_ ?_
 ·intro s2 y2 hx4 hG5;obtain ⟨hs6,hs7,-⟩:=hG5;subst hj2;refine Y3 ?_;refine Ao (Dj rfl 247 Tryz.underlying198) rfl ?_;refine Y ?_;obtain ⟨h9,hx0⟩:=Bp hx4;refine T_x (Ao2 Bw (0) (z:=.int .u32 (0)) rfl rfl rfl h9.1 Tryz.underlying198 (show Tryz.prog.info? 247=some Tryz.t247 from by kernel_rfl) (by kernel_rfl) rfl rfl (by kernel_rfl) (show 4*_≤_ from h9.2) (by decide) rfl (fun A8=>?_));refine Y8 ?_;refine Tj (γ:=(Option Addr) × Nat) hx0 (fun s6 y6=>[(0,.slice (y2.1) (s2.1.length) (y2.2.1)),(5,.slice (y6.1) (s6.1.length) (y6.2)),(6,.int .u32 (s6.2))]) (fun s6 y6=>[.r (y6.1) (s6.1.length) (y6.2) 247 1 (s6.1.flatMap Bw)]++[.old w]) (fun s6 y6=>True) (fun s6 y6 hx1 hG0=>?_) (fun j6 hx0=>?_)
  ·refine Y4 ?_;refine Ao (Dj rfl 247 Tryz.underlying198) rfl ?_;refine Y ?_;obtain ⟨x0,h0,hx5⟩:=Ag hx1;refine Xm (k:=0) rfl (by decide) (fun _=>rfl) h0 (fun b0 j0 hA0 hj0 hl0 hm0 hp0=>?_);refine Ao (Bc rfl rfl hA0 (j:=j0) hj0 hl0 Wt) rfl ?_;refine T_h (Zy Bw (s6.1) (((s2.1.length:Nat):Int)) (s6.2) rfl rfl rfl (.here) hA0 rfl hj0 hl0 (fun _=>rfl) (by decide) rfl Zc.2 ?_);refine Y5 ?_
   have hn0:s6.1.length=(setI s6.1 (((s2.1.length:Nat):Int)) s6.2).length:=by simp [Cb,Dd,List.length_append] <;> omega
   refine Ks (.here) (e':=.r (y6.1) ((setI s6.1 (((s2.1.length:Nat):Int)) s6.2).length) (y6.2) 247 1 ((setI s6.1 (((s2.1.length:Nat):Int)) s6.2).flatMap Bw)) (by first | (rw [← hn0];done) | rfl) ?_;refine Jv (s:=5) (v':=.slice (y6.1) ((setI s6.1 (((s2.1.length:Nat):Int)) s6.2).length) (y6.2)) rfl (by have hn1:(s6.1.length)=(setI s6.1 (((s2.1.length:Nat):Int)) s6.2).length:=(by simp [Cb,Dd,List.length_append] <;> omega);first | (rw [← hn1];done) | rfl) ?_;refine Jv (s:=47) (v':=.slice (y6.1) ((setI s6.1 (((s2.1.length:Nat):Int)) s6.2).length) (y6.2)) rfl (by have hn2:(s6.1.length)=(setI s6.1 (((s2.1.length:Nat):Int)) s6.2).length:=(by simp [Cb,Dd,List.length_append] <;> omega);first | (rw [← hn2];done) | rfl) ?_;refine Jv (s:=52) (v':=.slice (y6.1) ((setI s6.1 (((s2.1.length:Nat):Int)) s6.2).length) (y6.2)) rfl (by have hn3:(s6.1.length)=(setI s6.1 (((s2.1.length:Nat):Int)) s6.2).length:=(by simp [Cb,Dd,List.length_append] <;> omega);first | (rw [← hn3];done) | rfl) ?_;refine Afj (k:=0) rfl (by decide) (fun _=>rfl) (fun hn4 hs0=>?_);obtain ⟨r0,h2,hx6⟩:=Ag hx5;refine T_x (Bt rfl (fun w1 hw1=>Nm (setI s6.1 (((s2.1.length:Nat):Int)) s6.2) (Has.len' hs0) h2 w1 (Ld (K:=([.r (y6.1) ((setI s6.1 (((s2.1.length:Nat):Int)) s6.2).length) (y6.2) 247 1 ((setI s6.1 (((s2.1.length:Nat):Int)) s6.2).flatMap Bw)]:List Ent)) (by exact (sb 0)) hw1)) rfl ?_)
   rintro _ _ hlo ⟨A1,c1,rfl,rfl,hs1,-⟩;refine Eu ?_;refine Y4 ?_;obtain rfl:=Option.some.inj hx6;exact Di (rs:=[.tmp 4]) Tryz.results267 (.tmp rfl (.nil)) (Ln:=[.r (y6.1) ((setI s6.1 (((s2.1.length:Nat):Int)) s6.2).length) (y6.2) 247 1 ((setI s6.1 (((s2.1.length:Nat):Int)) s6.2).flatMap Bw)]) ⟨A1,c1,(.r (y6.1) ((setI s6.1 (((s2.1.length:Nat):Int)) s6.2).length) (y6.2) 247 1 ((setI s6.1 (((s2.1.length:Nat):Int)) s6.2).flatMap Bw)),rfl,rfl,Has.len' (Has.up (L:=(K++[.r (y6.1) ((setI s6.1 (((s2.1.length:Nat):Int)) s6.2).length) (y6.2) 247 1 ((setI s6.1 (((s2.1.length:Nat):Int)) s6.2).flatMap Bw)])) hs1 (SubE.appR2 (sb 0))),trivial⟩ (Co rfl (Ec)) (by exact .pick 0 rfl (.refl))
  ·refine Y3 ?_;refine Ao (Dj rfl 247 Tryz.underlying198) rfl ?_;refine Y4 ?_;obtain ⟨t0,hl1,ho0⟩:=Ag hx0;refine Lp (σ:=(List Int) × Int × Int) (γ:=(Option Addr) × Nat) hl1 (fun s0 y0=>[(0,.slice (y2.1) (s2.1.length) (y2.2.1)),(1,.slice (y2.2.2.1) (s2.2.length) (y2.2.2.2)),(5,.slice (y0.1) (s0.1.length) (y0.2)),(6,.int .u32 (s0.2.1)),(21,.int .i64 (((s2.1.length:Nat):Int))),(22,.int .i64 (s0.2.2))]) (fun s0 y0=>[.r (y0.1) (s0.1.length) (y0.2) 247 1 (s0.1.flatMap Bw)]++[.old w]) (fun s0 y0=>True) (A8,(List.replicate (Int.toNat (w64 ((((s2.1.length:Nat):Int))+1))) (0:Int)).length) trivial (by exact .pick 0 rfl (.refl)) ?_;intro s0 y0 hG1 x1 hx7 ht0;unfold Id at hx7;refine Y6 ?_;refine Ti hx7 (s:=23) rfl (fun h3 hx8=>?_) (fun h3 hx9=>?_)
   ·(iterate 16 refine Y ?_);refine Tj (γ:=Unit) hx8 (fun s1 y1=>[(0,.slice (y2.1) (s2.1.length) (y2.2.1)),(1,.slice (y2.2.2.1) (s2.2.length) (y2.2.2.2)),(5,.slice (y0.1) (s0.1.length) (y0.2)),(6,.int .u32 (s0.2.1)),(7,.int .i64 (s0.2.2)),(8,.int .u32 (s1)),(21,.int .i64 (((s2.1.length:Nat):Int))),(22,.int .i64 (s0.2.2))]) (fun s1 y1=>[.r (y0.1) (s0.1.length) (y0.2) 247 1 (s0.1.flatMap Bw)]++[.old w]) (fun s1 y1=>True) (fun s1 y1 hx74 hG2=>?_) (fun j1 hx8=>?_)
    ·refine Y5 ?_;obtain ⟨x2,h4,hx78⟩:=Ag hx74;have hw0:=Has.low (E:=[]) hs6 hK;obtain ⟨b1,o0,j3,hA1,hj1,hl2,hp1⟩:=Has.at_idx hw0 h4;refine Ao (Bc rfl rfl hA1 (j:=j3) hj1 hl2 Wt) rfl ?_;refine Ao (De rfl hp1 (sb 1) rfl Zc) rfl ?_;refine Y2 ?_;obtain ⟨r1,h5,hx89⟩:=Ag hx78;refine Tc (fun w1 hw1=>Wu x2 s1 s0.2.1  h5 w1) ?_;refine Y3 ?_;obtain ⟨x3,h6,hx92⟩:=Ag hx89;refine Xm (k:=0) rfl (by decide) (fun _=>rfl) h6 (fun b2 j4 hA2 hj3 hl3 hm1 hp2=>?_);refine Ao (Bc rfl rfl hA2 (j:=j4) hj3 hl3 Wt) rfl ?_;refine T_h (Zy Bw (s0.1) (s0.2.2) (r1.1) rfl rfl rfl (.here) hA2 rfl hj3 hl3 (fun _=>rfl) (by decide) rfl Zc.2 ?_);refine Y8 ?_
     have hn5:s0.1.length=(setI s0.1 s0.2.2 r1.1).length:=by simp [Cb,Dd,List.length_append] <;> omega
     refine Ks (.here) (e':=.r (y0.1) ((setI s0.1 s0.2.2 r1.1).length) (y0.2) 247 1 ((setI s0.1 s0.2.2 r1.1).flatMap Bw)) (by first | (rw [← hn5];done) | rfl) ?_;refine Jv (s:=5) (v':=.slice (y0.1) ((setI s0.1 s0.2.2 r1.1).length) (y0.2)) rfl (by have hn6:(s0.1.length)=(setI s0.1 s0.2.2 r1.1).length:=(by simp [Cb,Dd,List.length_append] <;> omega);first | (rw [← hn6];done) | rfl) ?_;exact Rp (setI s0.1 s0.2.2 r1.1,r1.2,w64 (s0.2.2+1)) (y0.1,y0.2) hx92 trivial (by exact .pick 0 rfl (.refl))
    ·refine Y4 ?_;refine Ao (Dj rfl 247 Tryz.underlying198) rfl ?_;refine Y3 ?_;refine Ti hx8 (s:=28) rfl (fun h7 hx61=>?_) (fun h7 hx73=>?_)
     ·refine Y4 ?_;obtain ⟨x4,h8,hx64⟩:=Ag hx61;have hw2:=Has.low (E:=[]) hs7 hK;obtain ⟨b3,o1,j5,hA3,hj4,hl4,hp3⟩:=Has.at_idx hw2 h8;refine Ao (Bc rfl rfl hA3 (j:=j5) hj4 hl4 Wt) rfl ?_;refine Ao (De rfl hp3 (sb 1) rfl Zc) rfl ?_;refine Y2 ?_;exact Mt x4 () hx64 trivial (by exact .pick 0 rfl (.refl))
     ·refine Y2 ?_;exact Mt 0 () hx73 trivial (by exact .pick 0 rfl (.refl))
   ·refine Y3 ?_;obtain rfl:=Ck ht0 hx9;refine Y2 ?_;exact Mt (s0.1,s0.2.1) (y0.1,y0.2) ho0 trivial (by exact .pick 0 rfl (.refl))
 ·skip;refine Y3 ?_;refine Ao (Dj rfl 247 Tryz.underlying198) rfl ?_;refine Y ?_;refine Ao (Dj rfl 247 Tryz.underlying198) rfl ?_;refine Y3 ?_;refine Ti hx (s:=13) rfl (fun h1 hx2=>?_) (fun h1 hx3=>?_)
  ·refine Y7 ?_;exact Mt (p1,p0) (A0_1,c0_1,A0_0,c0_0) hx2 ((by exact ⟨Has.len' ha1',Has.len' ha0',trivial⟩)) (by exact .refl)
  ·refine Y2 ?_;exact Mt (p0,p1) (A0_0,c0_0,A0_1,c0_1) hx3 ((by exact ⟨Has.len' ha0',Has.len' ha1',trivial⟩)) (by exact .refl)
set_option maxHeartbeats 1000000 in
set_option maxRecDepth 100000 in
instance ratio_nat_add_c (p0:List Int) (p1:List Int):ConB (Jl p0 p1) Tryz.prog 267 (fun K vs=>∃ (A0_0:Option Addr) (c0_0:Nat) (A0_1:Option Addr) (c0_1:Nat),vs=[.slice (A0_0) ((p0).length) (c0_0),.slice (A0_1) ((p1).length) (c0_1)]∧Has K A0_0 (p0).length c0_0 1 Bw (p0)∧Has K A0_1 (p1).length c0_1 1 Bw (p1)∧True) (fun K r=>fun v Ln=>∃ (A0:Option Addr) (c0:Nat) (e:Ent),v = .slice (A0) ((r).length) (c0)∧Ln=[e]∧Has (K++[e]) A0 (r).length c0 1 Bw (r)∧True):=⟨by
 rintro K _ r ⟨A0_0,c0_0,A0_1,c0_1,rfl,ha0,ha1,-⟩ hx w hK;exact CtL.bunB (Zf p0 p1 ha0 ha1 hx w hK) (by
  rintro _ _ w1 hw ⟨_,_,_,rfl,rfl,_,-⟩
  exact ⟨_,_,_,rfl,rfl,hZ hw,trivial⟩)⟩
set_option maxHeartbeats 1000000 in
set_option maxRecDepth 100000 in
instance ratio_nat_sub_c (p0:List Int) (p1:List Int):ConB (Jm p0 p1) Tryz.prog 270 (fun K vs=>∃ (A0_0:Option Addr) (c0_0:Nat) (A0_1:Option Addr) (c0_1:Nat),vs=[.slice (A0_0) ((p0).length) (c0_0),.slice (A0_1) ((p1).length) (c0_1)]∧Has K A0_0 (p0).length c0_0 1 Bw (p0)∧Has K A0_1 (p1).length c0_1 1 Bw (p1)∧True) (fun K r=>fun v Ln=>∃ (A0:Option Addr) (c0:Nat) (e:Ent),v = .slice (A0) ((r).length) (c0)∧Ln=[e]∧Has (K++[e]) A0 (r).length c0 1 Bw (r)∧True):=⟨by
 rintro K _ r ⟨A0_0,c0_0,A0_1,c0_1,rfl,ha0,ha1,-⟩ hx w hK;unfold Jm at hx;refine CtS Tryz.ntmps270 Tryz.results270 ?_;refine pre ?_;intros;rename_i hx
 refine Ka ?_;refine pre ?_;intros;rename_i hx
 apply Jr (γ:=(Option Addr) × Nat) hx [] (fun s4 y4 f=>(5,.slice (y4.1) ((s4).length) (y4.2))::f) [999] (fun s4 y4 l=>.r (y4.1) ((s4).length) (y4.2) 247 1 ((s4).flatMap Bw)::l);exact kk
 ·intro s4 y4 hx;exact au
 ·intro _ hx;refine pre ?_;intros;rename_i hx
  apply Lr (γ:=(Option Addr) × Nat) hx [0,1,13] (fun s0 y0 f=>(5,.slice (y0.1) ((s0.1).length) (y0.2))::(6,.int .u32 (s0.2.1))::(14,.int .i64 (s0.2.2))::f) [999] (fun s0 y0 l=>.r (y0.1) ((s0.1).length) (y0.2) 247 1 ((s0.1).flatMap Bw)::l) (_,_);exact kk;exact sk;intro s0 y0 x0 hx _;unfold Js at hx
  exact au⟩

set_option maxRecDepth 100000 in
instance ratio_Num_Mul_c (p0:Bn) (p1:Bn):ConB (Hv p0 p1) Tryz.prog 209 (fun K vs=>∃ (A0_0:Option Addr) (c0_0:Nat) (A0_1:Option Addr) (c0_1:Nat) (A0_2:Option Addr) (c0_2:Nat) (A0_3:Option Addr) (c0_3:Nat),vs=[.agg #[.bool (p0.neg),.slice (A0_0) ((p0.n).length) (c0_0),.slice (A0_1) ((p0.d).length) (c0_1)],.agg #[.bool (p1.neg),.slice (A0_2) ((p1.n).length) (c0_2),.slice (A0_3) ((p1.d).length) (c0_3)]]∧Has K A0_0 (p0.n).length c0_0 1 Bw (p0.n)∧Has K A0_1 (p0.d).length c0_1 1 Bw (p0.d)∧Has K A0_2 (p1.n).length c0_2 1 Bw (p1.n)∧Has K A0_3 (p1.d).length c0_3 1 Bw (p1.d)∧True) (fun K r=>fun v Ln=>∃ (A0:Option Addr) (c0:Nat) (A2:Option Addr) (c2:Nat) (e:Ent),v = .agg #[.bool (r.neg),.slice (A0) ((r.n).length) (c0),.slice (A2) ((r.d).length) (c2)]∧Ln=[e]∧Has (K++[e]) A0 (r.n).length c0 1 Bw (r.n)∧Has (K++[e]) A2 (r.d).length c2 1 Bw (r.d)∧True):=⟨by
 rintro K _ r ⟨A0_0,c0_0,A0_1,c0_1,A0_2,c0_2,A0_3,c0_3,rfl,ha0,ha1,ha2,ha3,-⟩ hx w hK;unfold Hv at hx;have:=dl 1 [0,1,0,1,0,0,1,0,1,2,0,1,0,1,2,0,3] [0,1,2,3,4,5,6,7,8,10,11,12,13,9,14,15,16];refine CtS Tryz.ntmps209 Tryz.results209 ?_;exact au⟩

set_option maxHeartbeats 1000000 in
set_option maxRecDepth 100000 in
instance ratio_Num_Add_c (p0:Bn) (p1:Bn):ConB (Kv p0 p1) Tryz.prog 208 (fun K vs=>∃ (A0_0:Option Addr) (c0_0:Nat) (A0_1:Option Addr) (c0_1:Nat) (A0_2:Option Addr) (c0_2:Nat) (A0_3:Option Addr) (c0_3:Nat),vs=[.agg #[.bool (p0.neg),.slice (A0_0) ((p0.n).length) (c0_0),.slice (A0_1) ((p0.d).length) (c0_1)],.agg #[.bool (p1.neg),.slice (A0_2) ((p1.n).length) (c0_2),.slice (A0_3) ((p1.d).length) (c0_3)]]∧Has K A0_0 (p0.n).length c0_0 1 Bw (p0.n)∧Has K A0_1 (p0.d).length c0_1 1 Bw (p0.d)∧Has K A0_2 (p1.n).length c0_2 1 Bw (p1.n)∧Has K A0_3 (p1.d).length c0_3 1 Bw (p1.d)∧True) (fun K r=>fun v Ln=>∃ (A0:Option Addr) (c0:Nat) (A2:Option Addr) (c2:Nat) (e:Ent),v = .agg #[.bool (r.neg),.slice (A0) ((r.n).length) (c0),.slice (A2) ((r.d).length) (c2)]∧Ln=[e]∧Has (K++[e]) A0 (r.n).length c0 1 Bw (r.n)∧Has (K++[e]) A2 (r.d).length c2 1 Bw (r.d)∧True):=⟨by
 rintro K _ r ⟨A0_0,c0_0,A0_1,c0_1,A0_2,c0_2,A0_3,c0_3,rfl,ha0,ha1,ha2,ha3,-⟩ hx w hK;unfold Kv at hx;have:=dl 1 [0,1,0,1,2,0,1,0,1,2,2,2] [0,1,2,3,5,6,7,8,4,9,10,11];have:=dl 4 [0,1,0,0,2,0,0,3] [0,1,2,3,5,4,6,7];have:=dl 6 [0,1,0,0,2,0,0,3] [0,1,2,3,5,4,6,7];have:=dl 7 [0,1,0,0,2,0,0,3] [0,1,2,3,5,4,6,7];refine CtS Tryz.ntmps208 Tryz.results208 ?_;refine pre ?_;intros;rename_i hx
 refine Cq3 (s:=27) hx rfl (fun _ hx=>?_) (fun _ hx=>?_)
 ·exact au
 ·exact au⟩

set_option maxRecDepth 100000 in
instance ratio_Num_Sign_c (p0:Bn):Con (Jt p0) Tryz.prog 206 (fun K vs=>∃ (A0_0:Option Addr) (c0_0:Nat) (A0_1:Option Addr) (c0_1:Nat),vs=[.agg #[.bool (p0.neg),.slice (A0_0) ((p0.n).length) (c0_0),.slice (A0_1) ((p0.d).length) (c0_1)]]∧Has K A0_0 (p0.n).length c0_0 1 Bw (p0.n)∧Has K A0_1 (p0.d).length c0_1 1 Bw (p0.d)∧True) (fun _ r=>fun v Ln=>v = .int .i64 (r)∧Ln=[]∧True):=⟨by
 rintro K _ r ⟨A0_0,c0_0,A0_1,c0_1,rfl,ha0,ha1,-⟩ hx w hK;replace ha0:=Has.lo ha0 hK;replace ha1:=Has.lo ha1 hK;unfold Jt at hx;refine CtS Tryz.ntmps206 Tryz.results206 ?_;exact au⟩
set_option maxRecDepth 100000 in
theorem Aep (p0:Int)  {r:Bn} (hx:Ie p0=some r) (w:World):CtL Tryz.prog 142 [.int .i64 (p0)] w fun v Ln=>∃ (A0:Option Addr) (c0:Nat) (A2:Option Addr) (c2:Nat) (e0:Ent),v = .agg #[.bool (r.neg),.slice (A0) (r.n.length) (c0),.slice (A2) (r.d.length) (c2)]∧Ln=[.r A2 r.d.length c2 247 1 (r.d.flatMap Bw),e0]∧Has ([e0]:List Ent) A0 r.n.length c0 1 Bw (r.n)∧True:=by
 refine CtL.mk 18 Tryz.func142 rfl Tryz.ntmps142 (by kernel_rfl) rfl ?_;show T 18 _ [(0,.int .i64 (p0))] _;unfold Ie at hx;refine Y2 ?_;refine T_x (Eb Am0 rfl (fun g1=>?_));refine Y9 ?_;refine Ti hx (s:=4) rfl (fun h2 hx3=>?_) (fun h2 hx0=>?_)
 ·refine Y6 ?_;refine Ao (Ta rfl (by kernel_rfl) Tryz.underlying249) rfl ?_;refine Y ?_;obtain ⟨r4,h5,hx6⟩:=Ag hx3;refine T_x (Bt rfl (fun w1 hw1=>Ub (wu64 ((wu64 (w64 (-(w64 (p0+1)))))+1))  h5 w1) rfl ?_);rintro _ _ hlo ⟨A7,c8,e9,rfl,rfl,hs0,-⟩;have lo11:=hlo e9 (by simp);refine Lx ?_;refine T_x (Bu rfl (Rh _) rfl (fun g0=>?_));refine Ao (Ey rfl (Rg _ _ _ _ _ _ _)) rfl ?_;refine T_h (Cj rfl rfl rfl (.there (.there (.here))) (.put (.put (.put (.done)))) rfl (List.cons_ne_nil _ _) Aby.2 ?_);refine Y4 ?_;refine T_mr (enc:=Bw) (sz:=1) ([1]) (.here) rfl rfl (fun _=>rfl) (by show 1≤maxLen;decide) ?_
  have hn0:1=([1]).length:=by simp [Cb,Dd,List.length_append] <;> omega
  refine Ks (.here) (e':=.r (some ⟨g0,0,none⟩) (([1]).length) (1) 247 1 (([1]).flatMap Bw)) (by first | (rw [← hn0];done) | rfl) ?_;refine Ks (.there (.there (.here))) (e':=.m g1 200 [.bool (true),.slice (A7) (r4.length) (c8),.slice (some ⟨g0,0,none⟩) (([1]).length) (1)]) (by first | (rw [show (1)=([1]).length from (by simp [Cb,Dd,List.length_append] <;> omega)];done) | rfl) ?_;obtain rfl:=Option.some.inj hx6;exact Di (rs:=[.cell 2 200]) Tryz.results142 (.cell rfl (i:=2) rfl rfl Aby (.nil)) (Ln:=[.r (some ⟨g0,0,none⟩) (([1]).length) (1) 247 1 (([1]).flatMap Bw),e9]) ⟨A7,c8,(some ⟨g0,0,none⟩),1,e9,rfl,rfl,Has.len' hs0,trivial⟩ (Co rfl (Co lo11 (Ec))) (by exact .pick 0 rfl (.pick 0 rfl (.drop 0 rfl (.refl))))
 ·refine Y6 ?_;refine Ao (Ta rfl (by kernel_rfl) Tryz.underlying249) rfl ?_;obtain ⟨r0,h0,hx1⟩:=Ag hx0;refine T_x (Bt rfl (fun w1 hw1=>Ub (wu64 (p0))  h0 w1) rfl ?_);rintro _ _ hlo ⟨A1,c1,e1,rfl,rfl,hs1,-⟩;have lo22:=hlo e1 (by simp);refine Lx ?_;refine T_x (Bu rfl (Rh _) rfl (fun g2=>?_));refine Ao (Ey rfl (Rg _ _ _ _ _ _ _)) rfl ?_;refine T_h (Cj rfl rfl rfl (.there (.there (.here))) (.put (.put (.put (.done)))) rfl (List.cons_ne_nil _ _) Aby.2 ?_);refine Y3 ?_;refine T_mr (enc:=Bw) (sz:=1) ([1]) (.here) rfl rfl (fun _=>rfl) (by show 1≤maxLen;decide) ?_
  have hn1:1=([1]).length:=by simp [Cb,Dd,List.length_append] <;> omega
  refine Ks (.here) (e':=.r (some ⟨g2,0,none⟩) (([1]).length) (1) 247 1 (([1]).flatMap Bw)) (by first | (rw [← hn1];done) | rfl) ?_;refine Ks (.there (.there (.here))) (e':=.m g1 200 [.bool (false),.slice (A1) (r0.length) (c1),.slice (some ⟨g2,0,none⟩) (([1]).length) (1)]) (by first | (rw [show (1)=([1]).length from (by simp [Cb,Dd,List.length_append] <;> omega)];done) | rfl) ?_;obtain rfl:=Option.some.inj hx1;exact Di (rs:=[.cell 2 200]) Tryz.results142 (.cell rfl (i:=2) rfl rfl Aby (.nil)) (Ln:=[.r (some ⟨g2,0,none⟩) (([1]).length) (1) 247 1 (([1]).flatMap Bw),e1]) ⟨A1,c1,(some ⟨g2,0,none⟩),1,e1,rfl,rfl,Has.len' hs1,trivial⟩ (Co rfl (Co lo22 (Ec))) (by exact .pick 0 rfl (.pick 0 rfl (.drop 0 rfl (.refl))))
set_option maxRecDepth 100000 in
instance ratio_Int_c (p0:Int):ConB (Ie p0) Tryz.prog 142 (fun _ vs=>vs=[.int .i64 (p0)]) (fun K r=>fun v Ln=>∃ (A0:Option Addr) (c0:Nat) (A2:Option Addr) (c2:Nat) (e:Ent),v = .agg #[.bool (r.neg),.slice (A0) ((r.n).length) (c0),.slice (A2) ((r.d).length) (c2)]∧Ln=[e]∧Has (K++[e]) A0 (r.n).length c0 1 Bw (r.n)∧Has (K++[e]) A2 (r.d).length c2 1 Bw (r.d)∧True):=⟨by
 rintro K _ r rfl hx w hK;exact CtL.bunB (Aep p0 hx w) (by
  rintro _ _ w1 hw ⟨_,_,_,_,_,rfl,rfl,_,-⟩
  exact ⟨_,_,_,_,_,rfl,rfl,hZ hw,hZ hw,trivial⟩)⟩
set_option maxHeartbeats 1000000 in
set_option maxRecDepth 100000 in
instance exact_inside_c (p0:List Ac):Con (Me p0) Tryz.prog 138 (fun K vs=>∃ (A0_0:Option Addr) (c0_0:Nat),vs=[.slice (A0_0) ((p0).length) (c0_0)]∧Has K A0_0 (p0).length c0_0 2 Rs (p0)∧True) (fun _ r=>fun v Ln=>v = .bool (r)∧Ln=[]∧True):=⟨by
 rintro K _ r ⟨A0_0,c0_0,rfl,ha0,-⟩ hx w hK;replace ha0:=Has.lo ha0 hK;unfold Me at hx;refine CtS Tryz.ntmps138 Tryz.results138 ?_;refine pre ?_;intros;rename_i hx
 refine Ka ?_;refine pre ?_;intros;rename_i hx
 apply Jr (γ:=Unit) hx [] (fun s2 y2 f=>f) [999] (fun s2 y2 l=>l);exact kk
 ·intro s2 y2 hx;exact au
 ·intro _ hx;refine pre ?_;intros;rename_i hx
  apply Lr (γ:=Unit) hx [5,6] (fun s0 y0 f=>(7,.int .i64 (s0))::f) [999] (fun s0 y0 l=>l) ();exact kk;exact sk;intro s0 y0 x0 hx _;unfold Iz at hx
  refine pre ?_;intros;rename_i hx
  refine Cq1 (s:=8) hx rfl (fun _ hx=>?_) (fun _ hx=>?_)
  ·refine pre ?_;intros;rename_i hx
   apply Jr (γ:=Unit) hx [5,6,7] (fun s1 y1 f=>(28,.bool (s1))::f) [999] (fun s1 y1 l=>l);exact kk
   ·intro s1 y1 hx;exact au
   ·intro _ hx;exact au
  ·exact au⟩
set_option maxRecDepth 100000 in
instance exact_sign_int__c (p0:Int):Con (Ja p0) Tryz.prog 139 (fun _ vs=>vs=[.int .i64 (p0)]) (fun _ r=>fun v Ln=>v = .int .i64 (r)∧Ln=[]∧True):=⟨by
 rintro _ _ r rfl hx w hK;unfold Ja at hx;refine CtS Tryz.ntmps139 Tryz.results139 ?_;exact au⟩
set_option maxRecDepth 100000 in
instance exact_cross_c (p0:Ac) (p1:Ac) (p2:Ac):Con (Jf p0 p1 p2) Tryz.prog 140 (fun _ vs=>vs=[.agg #[.int .i64 (p0.X),.int .i64 (p0.Y)],.agg #[.int .i64 (p1.X),.int .i64 (p1.Y)],.agg #[.int .i64 (p2.X),.int .i64 (p2.Y)]]) (fun _ r=>fun v Ln=>v = .int .i64 (r)∧Ln=[]∧True):=⟨by
 rintro _ _ r rfl hx w hK;unfold Jf at hx;refine CtS Tryz.ntmps140 Tryz.results140 ?_;exact au⟩
set_option maxRecDepth 100000 in
instance exact_Turn_c (p0:Ac) (p1:Ac) (p2:Ac):Con (Oj p0 p1 p2) Tryz.prog 74 (fun _ vs=>vs=[.agg #[.int .i64 (p0.X),.int .i64 (p0.Y)],.agg #[.int .i64 (p1.X),.int .i64 (p1.Y)],.agg #[.int .i64 (p2.X),.int .i64 (p2.Y)]]) (fun _ r=>fun v Ln=>v = .tuple #[.int .i64 (r.1),.int .i64 (r.2)]∧Ln=[]∧True):=⟨by
 rintro _ _ r rfl hx w hK;unfold Oj at hx;refine CtS Tryz.ntmps74 Tryz.results74 ?_;exact au⟩
set_option maxRecDepth 100000 in
instance exact_lift_c (p0:Ac) (p1:Ac):Con (Mw p0 p1) Tryz.prog 250 (fun _ vs=>vs=[.agg #[.int .i64 (p0.X),.int .i64 (p0.Y)],.agg #[.int .i64 (p1.X),.int .i64 (p1.Y)]]) (fun _ r=>fun v Ln=>v = .int .i64 (r)∧Ln=[]∧True):=⟨by
 rintro _ _ r rfl hx w hK;unfold Mw at hx;have:=dl 1 [0,1,0,1,0,0,1,0,1,0,2,2] [0,1,2,3,4,5,6,7,8,9,10,11];refine CtS Tryz.ntmps250 Tryz.results250 ?_;exact au⟩
set_option maxHeartbeats 1000000 in
set_option maxRecDepth 100000 in
instance exact_Circle_c (p0:Ac) (p1:Ac) (p2:Ac) (p3:Ac):Con (Nl p0 p1 p2 p3) Tryz.prog 182 (fun _ vs=>vs=[.agg #[.int .i64 (p0.X),.int .i64 (p0.Y)],.agg #[.int .i64 (p1.X),.int .i64 (p1.Y)],.agg #[.int .i64 (p2.X),.int .i64 (p2.Y)],.agg #[.int .i64 (p3.X),.int .i64 (p3.Y)]]) (fun _ r=>fun v Ln=>v = .tuple #[.int .i64 (r.1),.int .i64 (r.2)]∧Ln=[]∧True):=⟨by
 rintro _ _ r rfl hx w hK;unfold Nl at hx;have:=dl 6 [1,1,2,2,1,1,1,2,2,2,4,3] [0,1,4,5,6,2,3,7,8,9,10,11] [10];have:=dl 7 [1,1,1,2,2,1,1,1,2,2,2,2,3] [0,1,2,5,6,7,3,4,8,9,10,11,12];have:=dl 8 [1,1,1,2,2,1,1,1,2,2,2,2,3] [0,1,2,5,6,7,3,4,8,9,10,11,12];refine CtS Tryz.ntmps182 Tryz.results182 ?_;refine pre ?_;intros;rename_i hx
 refine Cq4 (s:=18) hx rfl (fun _ hx=>?_) (fun _ hx=>?_)
 ·exact au
 ·refine pre ?_;intros;rename_i hx
  refine Cq1 (s:=25) hx rfl (fun _ hx=>?_) (fun _ hx=>?_)
  ·exact au
  ·exact au⟩
set_option maxRecDepth 100000 in
instance exact_Valid_c (p0:Al):Con (Qx p0) Tryz.prog 178 (fun _ vs=>vs=[.agg #[.int .i64 (p0.Lo),.int .i64 (p0.Hi)]]) (fun _ r=>fun v Ln=>v = .bool (r)∧Ln=[]∧True):=⟨by
 rintro _ _ r rfl hx w hK;unfold Qx at hx;refine CtS Tryz.ntmps178 Tryz.results178 ?_;exact au⟩
set_option maxRecDepth 100000 in
instance Ak5 (p0:Ab):Con (Ez p0) Tryz.prog 81 (fun _ vs=>vs=[.agg #[.int .i64 (p0.X),.int .i64 (p0.Y),.int .i64 (p0.Z.Lo),.int .i64 (p0.Z.Hi)]]) (fun _ r=>fun v Ln=>v = .agg #[.int .i64 (r.X),.int .i64 (r.Y)]∧Ln=[]∧True):=⟨by
 rintro _ _ r rfl hx w hK;unfold Ez at hx;refine CtS Tryz.ntmps81 Tryz.results81 ?_;exact au⟩
theorem Lj (p0:Ab)  {r:Ac} (hx:Ez p0=some r) (w:World):CtL Tryz.prog 81 [.agg #[.int .i64 (p0.X),.int .i64 (p0.Y),.int .i64 (p0.Z.Lo),.int .i64 (p0.Z.Hi)]] w fun v Ln=>v = .agg #[.int .i64 (r.X),.int .i64 (r.Y)]∧Ln=[]∧True:=(Ak5 p0).h [] _ _ rfl hx w (fun _ h=>absurd h List.not_mem_nil)
set_option maxRecDepth 100000 in
instance Ado (p0:Ac) (p1:Ac):Con (Ej p0 p1) Tryz.prog 120 (fun _ vs=>vs=[.agg #[.int .i64 (p0.X),.int .i64 (p0.Y)],.agg #[.int .i64 (p1.X),.int .i64 (p1.Y)]]) (fun _ r=>fun v Ln=>v = .bool (r)∧Ln=[]∧True):=⟨by
 rintro _ _ r rfl hx w hK;unfold Ej at hx;refine CtS Tryz.ntmps120 Tryz.results120 ?_;exact au⟩
theorem Uc (p0:Ac) (p1:Ac)  {r:Bool} (hx:Ej p0 p1=some r) (w:World):CtL Tryz.prog 120 [.agg #[.int .i64 (p0.X),.int .i64 (p0.Y)],.agg #[.int .i64 (p1.X),.int .i64 (p1.Y)]] w fun v Ln=>v = .bool (r)∧Ln=[]∧True:=(Ado p0 p1).h [] _ _ rfl hx w (fun _ h=>absurd h List.not_mem_nil)
set_option maxRecDepth 100000 in
instance Af9 (p0:Ac) (p1:Ac) (p2:Ac):Con (Gq p0 p1 p2) Tryz.prog 114 (fun _ vs=>vs=[.agg #[.int .i64 (p0.X),.int .i64 (p0.Y)],.agg #[.int .i64 (p1.X),.int .i64 (p1.Y)],.agg #[.int .i64 (p2.X),.int .i64 (p2.Y)]]) (fun _ r=>fun v Ln=>v = .int .i64 (r)∧Ln=[]∧True):=⟨by
 rintro _ _ r rfl hx w hK;unfold Gq at hx;refine CtS Tryz.ntmps114 Tryz.results114 ?_;exact au⟩
theorem Nn (p0:Ac) (p1:Ac) (p2:Ac)  {r:Int} (hx:Gq p0 p1 p2=some r) (w:World):CtL Tryz.prog 114 [.agg #[.int .i64 (p0.X),.int .i64 (p0.Y)],.agg #[.int .i64 (p1.X),.int .i64 (p1.Y)],.agg #[.int .i64 (p2.X),.int .i64 (p2.Y)]] w fun v Ln=>v = .int .i64 (r)∧Ln=[]∧True:=(Af9 p0 p1 p2).h [] _ _ rfl hx w (fun _ h=>absurd h List.not_mem_nil)
set_option maxHeartbeats 1000000 in
set_option maxRecDepth 100000 in
instance mesh_good_c (p0:Ab):Con (Rt p0) Tryz.prog 110 (fun _ vs=>vs=[.agg #[.int .i64 (p0.X),.int .i64 (p0.Y),.int .i64 (p0.Z.Lo),.int .i64 (p0.Z.Hi)]]) (fun _ r=>fun v Ln=>v = .bool (r)∧Ln=[]∧True):=⟨by
 rintro _ _ r rfl hx w hK;unfold Rt at hx;have:=dl 1 [1,2,1,2,1,2,2,0,0,0,2,2] [0,2,4,1,3,5,6,7,8,9,10,11];refine CtS Tryz.ntmps110 Tryz.results110 ?_;exact au⟩
set_option maxRecDepth 100000 in
instance Aga (p0:Int) (p1:Int):Con (Ff p0 p1) Tryz.prog 111 (fun _ vs=>vs=[.int .i64 (p0),.int .i64 (p1)]) (fun _ r=>fun v Ln=>v = .agg #[.int .i64 (r.a0),.int .i64 (r.a1)]∧Ln=[]∧True):=⟨by
 rintro _ _ r rfl hx w hK;unfold Ff at hx;refine CtS Tryz.ntmps111 Tryz.results111 ?_;exact au⟩
theorem Ht (p0:Int) (p1:Int)  {r:Aa} (hx:Ff p0 p1=some r) (w:World):CtL Tryz.prog 111 [.int .i64 (p0),.int .i64 (p1)] w fun v Ln=>v = .agg #[.int .i64 (r.a0),.int .i64 (r.a1)]∧Ln=[]∧True:=(Aga p0 p1).h [] _ _ rfl hx w (fun _ h=>absurd h List.not_mem_nil)
set_option maxRecDepth 100000 in
instance Aeq (p0:Aa) (p1:Aa):Con (Qc p0 p1) Tryz.prog 89 (fun _ vs=>vs=[.agg #[.int .i64 (p0.a0),.int .i64 (p0.a1)],.agg #[.int .i64 (p1.a0),.int .i64 (p1.a1)]]) (fun _ r=>fun v Ln=>v = .int .i64 (r)∧Ln=[]∧True):=⟨by
 rintro _ _ r rfl hx w hK;unfold Qc at hx;refine CtS Tryz.ntmps89 Tryz.results89 ?_;exact au⟩
theorem Rj (p0:Aa) (p1:Aa)  {r:Int} (hx:Qc p0 p1=some r) (w:World):CtL Tryz.prog 89 [.agg #[.int .i64 (p0.a0),.int .i64 (p0.a1)],.agg #[.int .i64 (p1.a0),.int .i64 (p1.a1)]] w fun v Ln=>v = .int .i64 (r)∧Ln=[]∧True:=(Aeq p0 p1).h [] _ _ rfl hx w (fun _ h=>absurd h List.not_mem_nil)
set_option maxHeartbeats 1000000 in
set_option maxRecDepth 100000 in
instance Aer (p0:Ac) (p1:Ac) (p2:Ac) (p3:Ac):Con (Mx p0 p1 p2 p3) Tryz.prog 123 (fun _ vs=>vs=[.agg #[.int .i64 (p0.X),.int .i64 (p0.Y)],.agg #[.int .i64 (p1.X),.int .i64 (p1.Y)],.agg #[.int .i64 (p2.X),.int .i64 (p2.Y)],.agg #[.int .i64 (p3.X),.int .i64 (p3.Y)]]) (fun _ r=>fun v Ln=>v = .bool (r)∧Ln=[]∧True):=⟨by
 rintro _ _ r rfl hx w hK;unfold Mx at hx;refine CtS Tryz.ntmps123 Tryz.results123 ?_;refine pre ?_;intros;rename_i hx
 refine Cq2 (s:=23) hx rfl (fun _ hx=>?_) (fun _ hx=>?_)
 ·exact au
 ·refine pre ?_;intros;rename_i hx
  refine Ka ?_;refine pre ?_;intros;rename_i hx
  apply Jr (γ:=(Nat)) hx [6,7] (fun s7 y7 f=>(11,.pointer (some ⟨y7,0,none⟩))::f) [1,2,999] (fun s7 y7 l=>.m y7 38 [.int .i64 (s7.1),.int .i64 (s7.2)]::l);exact kk
  ·intro s7 y7 hx;exact au
  ·intro _ hx;refine pre ?_;intros;rename_i hx
   apply Lr (γ:=(Nat)) hx [6,7,30] (fun s0 y0 f=>(11,.pointer (some ⟨y0,0,none⟩))::(31,.int .i64 (s0.2.2))::f) [1,2,999] (fun s0 y0 l=>.m y0 38 [.int .i64 (s0.1),.int .i64 (s0.2.1)]::l) _;exact kk;exact sk;intro s0 y0 x0 hx _;unfold Ri at hx
   exact au⟩
theorem Adp (p0:Ac) (p1:Ac) (p2:Ac) (p3:Ac)  {r:Bool} (hx:Mx p0 p1 p2 p3=some r) (w:World):CtL Tryz.prog 123 [.agg #[.int .i64 (p0.X),.int .i64 (p0.Y)],.agg #[.int .i64 (p1.X),.int .i64 (p1.Y)],.agg #[.int .i64 (p2.X),.int .i64 (p2.Y)],.agg #[.int .i64 (p3.X),.int .i64 (p3.Y)]] w fun v Ln=>v = .bool (r)∧Ln=[]∧True:=(Aer p0 p1 p2 p3).h [] _ _ rfl hx w (fun _ h=>absurd h List.not_mem_nil)
end Go.Proofs.YtgfiafnelibjgaaGreat
