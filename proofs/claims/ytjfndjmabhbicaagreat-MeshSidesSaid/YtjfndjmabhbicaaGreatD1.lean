/- Walks of the program, with their plain functions: numbers, turns, circles. -/
import Derived.Test.YtjfndjmabhbicaaGreatFlow19
import Derived.Test.YtjfndjmabhbicaaGreatProg
namespace Go.Proofs.YtjfndjmabhbicaaGreat
open Go Go.RowKit
theorem mixed:Tryz.prog.follows .mixedOrders=true:=by kernel_rfl
instance:MixI Tryz.prog:=⟨mixed⟩
theorem Avu:Kc Tryz.prog 193 245 1:=.mk Tryz.underlying193 (show Tryz.prog.info? 245=some Tryz.t245 from by kernel_rfl) (by kernel_rfl)
instance:Ly Tryz.prog 193 245 1:=⟨Avu⟩
theorem Avv:Pp Tryz.prog 245:=.mk Tryz.underlying245 rfl (show Tryz.prog.info? 245=some Tryz.t245 from by kernel_rfl) (by kernel_rfl)
instance:OneI Tryz.prog 245:=⟨Avv⟩
theorem Zf (x0:Int) (x1:Int):Db Tryz.prog 193 2 [(0,.int .u32 x0),(1,.int .u32 x1)] 245 [.int .u32 x0,.int .u32 x1]:=fun w=>by kernel_rfl
instance (x0:Int) (x1:Int):Nm Tryz.prog 193 2 [(0,.int .u32 x0),(1,.int .u32 x1)] 245 [.int .u32 x0,.int .u32 x1]:=⟨Zf _ _⟩
theorem Avw:Nn Tryz.prog 195 [.bool (false),.slice (none) (0) (0),.slice (none) (0) (0)]:=⟨_,Tryz.zeroValue195,rfl⟩
instance:Wi Tryz.prog 195 [.bool (false),.slice (none) (0) (0),.slice (none) (0) (0)]:=⟨Avw⟩
theorem Ao4:Eo Tryz.prog 195 0 0:=.mk Tryz.underlying195 rfl rfl (show Tryz.prog.info? 4=some Tryz.t4 from by kernel_rfl) (show Tryz.t4.size=1 from by kernel_rfl) rfl
instance:Jp Tryz.prog 195 0 0:=⟨Ao4⟩
theorem one4:Pp Tryz.prog 4:=.mk Tryz.underlying4 rfl (show Tryz.prog.info? 4=some Tryz.t4 from by kernel_rfl) (by kernel_rfl)
instance:OneI Tryz.prog 4:=⟨one4⟩
theorem Ao5:Eo Tryz.prog 195 1 1:=.mk Tryz.underlying195 rfl rfl (show Tryz.prog.info? 193=some Tryz.t193 from by kernel_rfl) (show Tryz.t193.size=1 from by kernel_rfl) rfl
instance:Jp Tryz.prog 195 1 1:=⟨Ao5⟩
theorem Avx:Pp Tryz.prog 193:=.mk Tryz.underlying193 rfl (show Tryz.prog.info? 193=some Tryz.t193 from by kernel_rfl) (by kernel_rfl)
instance:OneI Tryz.prog 193:=⟨Avx⟩
theorem Ao6:Eo Tryz.prog 195 2 2:=.mk Tryz.underlying195 rfl rfl (show Tryz.prog.info? 193=some Tryz.t193 from by kernel_rfl) (show Tryz.t193.size=1 from by kernel_rfl) rfl
instance:Jp Tryz.prog 195 2 2:=⟨Ao6⟩
theorem Ae1 (x0:Bool) (x1:Option Addr) (x2:Nat) (x3:Nat) (x4:Option Addr) (x5:Nat) (x6:Nat):Kq Tryz.prog 195 [(0,.bool x0),(1,.slice x1 x2 x3),(2,.slice x4 x5 x6)] [.bool x0,.slice x1 x2 x3,.slice x4 x5 x6]:=fun w=>by kernel_rfl
instance (x0:Bool) (x1:Option Addr) (x2:Nat) (x3:Nat) (x4:Option Addr) (x5:Nat) (x6:Nat):Ol Tryz.prog 195 [(0,.bool x0),(1,.slice x1 x2 x3),(2,.slice x4 x5 x6)] [.bool x0,.slice x1 x2 x3,.slice x4 x5 x6]:=⟨Ae1 _ _ _ _ _ _ _⟩
theorem Avy:Nu Tryz.prog 195 3:=.mk Tryz.underlying195 rfl (show Tryz.prog.info? 195=some Tryz.t195 from by kernel_rfl) (by kernel_rfl)
instance:AggI Tryz.prog 195 3:=⟨Avy⟩
theorem Ae2 (x0:Int):Db Tryz.prog 193 1 [(0,.int .u32 x0)] 245 [.int .u32 x0]:=fun w=>by kernel_rfl
instance (x0:Int):Nm Tryz.prog 193 1 [(0,.int .u32 x0)] 245 [.int .u32 x0]:=⟨Ae2 _⟩
theorem Avz:Kc Tryz.prog 255 73 2:=.mk Tryz.underlying255 (show Tryz.prog.info? 73=some Tryz.t73 from by kernel_rfl) (by kernel_rfl)
instance:Ly Tryz.prog 255 73 2:=⟨Avz⟩
theorem Ax4:Nu Tryz.prog 73 2:=.mk Tryz.underlying73 rfl (show Tryz.prog.info? 73=some Tryz.t73 from by kernel_rfl) (by kernel_rfl)
instance:AggI Tryz.prog 73 2:=⟨Ax4⟩
theorem Ax5:Nn Tryz.prog 73 [.int .i64 (0),.int .i64 (0)]:=⟨_,Tryz.zeroValue73,rfl⟩
instance:Wi Tryz.prog 73 [.int .i64 (0),.int .i64 (0)]:=⟨Ax5⟩
theorem Asw:Eo Tryz.prog 73 0 0:=.mk Tryz.underlying73 rfl rfl (show Tryz.prog.info? 3=some Tryz.t3 from by kernel_rfl) (show Tryz.t3.size=1 from by kernel_rfl) rfl
instance:Jp Tryz.prog 73 0 0:=⟨Asw⟩
theorem one3:Pp Tryz.prog 3:=.mk Tryz.underlying3 rfl (show Tryz.prog.info? 3=some Tryz.t3 from by kernel_rfl) (by kernel_rfl)
instance:OneI Tryz.prog 3:=⟨one3⟩
theorem Asx:Eo Tryz.prog 73 1 1:=.mk Tryz.underlying73 rfl rfl (show Tryz.prog.info? 3=some Tryz.t3 from by kernel_rfl) (show Tryz.t3.size=1 from by kernel_rfl) rfl
instance:Jp Tryz.prog 73 1 1:=⟨Asx⟩
theorem Ou (x0:Int) (x1:Int) (x2:Int) (x3:Int) (x4:Int) (x5:Int):Db Tryz.prog 255 3 [(0,.agg #[.int .i64 x0,.int .i64 x1]),(1,.agg #[.int .i64 x2,.int .i64 x3]),(2,.agg #[.int .i64 x4,.int .i64 x5])] 73 [.int .i64 x0,.int .i64 x1,.int .i64 x2,.int .i64 x3,.int .i64 x4,.int .i64 x5]:=fun w=>by kernel_rfl
instance (x0:Int) (x1:Int) (x2:Int) (x3:Int) (x4:Int) (x5:Int):Nm Tryz.prog 255 3 [(0,.agg #[.int .i64 x0,.int .i64 x1]),(1,.agg #[.int .i64 x2,.int .i64 x3]),(2,.agg #[.int .i64 x4,.int .i64 x5])] 73 [.int .i64 x0,.int .i64 x1,.int .i64 x2,.int .i64 x3,.int .i64 x4,.int .i64 x5]:=⟨Ou _ _ _ _ _ _⟩
theorem Mb (x0:Int) (x1:Int) (x2:Int) (x3:Int) (x4:Int) (x5:Int) (x6:Int) (x7:Int):Db Tryz.prog 255 4 [(0,.agg #[.int .i64 x0,.int .i64 x1]),(1,.agg #[.int .i64 x2,.int .i64 x3]),(2,.agg #[.int .i64 x4,.int .i64 x5]),(3,.agg #[.int .i64 x6,.int .i64 x7])] 73 [.int .i64 x0,.int .i64 x1,.int .i64 x2,.int .i64 x3,.int .i64 x4,.int .i64 x5,.int .i64 x6,.int .i64 x7]:=fun w=>by kernel_rfl
instance (x0:Int) (x1:Int) (x2:Int) (x3:Int) (x4:Int) (x5:Int) (x6:Int) (x7:Int):Nm Tryz.prog 255 4 [(0,.agg #[.int .i64 x0,.int .i64 x1]),(1,.agg #[.int .i64 x2,.int .i64 x3]),(2,.agg #[.int .i64 x4,.int .i64 x5]),(3,.agg #[.int .i64 x6,.int .i64 x7])] 73 [.int .i64 x0,.int .i64 x1,.int .i64 x2,.int .i64 x3,.int .i64 x4,.int .i64 x5,.int .i64 x6,.int .i64 x7]:=⟨Mb _ _ _ _ _ _ _ _⟩
theorem Asy:Eo Tryz.prog 68 0 0:=.mk Tryz.underlying68 rfl rfl (show Tryz.prog.info? 3=some Tryz.t3 from by kernel_rfl) (show Tryz.t3.size=1 from by kernel_rfl) rfl
instance:Jp Tryz.prog 68 0 0:=⟨Asy⟩
theorem Asz:Eo Tryz.prog 68 1 1:=.mk Tryz.underlying68 rfl rfl (show Tryz.prog.info? 3=some Tryz.t3 from by kernel_rfl) (show Tryz.t3.size=1 from by kernel_rfl) rfl
instance:Jp Tryz.prog 68 1 1:=⟨Asz⟩
theorem As0:Eo Tryz.prog 70 0 0:=.mk Tryz.underlying70 rfl rfl (show Tryz.prog.info? 3=some Tryz.t3 from by kernel_rfl) (show Tryz.t3.size=1 from by kernel_rfl) rfl
instance:Jp Tryz.prog 70 0 0:=⟨As0⟩
theorem As1:Eo Tryz.prog 70 1 1:=.mk Tryz.underlying70 rfl rfl (show Tryz.prog.info? 3=some Tryz.t3 from by kernel_rfl) (show Tryz.t3.size=1 from by kernel_rfl) rfl
instance:Jp Tryz.prog 70 1 1:=⟨As1⟩
theorem Ac3 (x0:Int) (x1:Int):Kq Tryz.prog 73 [(0,.int .i64 x0),(1,.int .i64 x1)] [.int .i64 x0,.int .i64 x1]:=fun w=>by kernel_rfl
instance (x0:Int) (x1:Int):Ol Tryz.prog 73 [(0,.int .i64 x0),(1,.int .i64 x1)] [.int .i64 x0,.int .i64 x1]:=⟨Ac3 _ _⟩
theorem Ac4:Nu Tryz.prog 70 4:=.mk Tryz.underlying70 rfl (show Tryz.prog.info? 70=some Tryz.t70 from by kernel_rfl) (by kernel_rfl)
instance:AggI Tryz.prog 70 4:=⟨Ac4⟩
theorem As2:Eo Tryz.prog 70 2 2:=.mk Tryz.underlying70 rfl rfl (show Tryz.prog.info? 68=some Tryz.t68 from by kernel_rfl) (show Tryz.t68.size=2 from by kernel_rfl) rfl
instance:Jp Tryz.prog 70 2 2:=⟨As2⟩
theorem Ax6:Nu Tryz.prog 68 2:=.mk Tryz.underlying68 rfl (show Tryz.prog.info? 68=some Tryz.t68 from by kernel_rfl) (by kernel_rfl)
instance:AggI Tryz.prog 68 2:=⟨Ax6⟩
theorem Xv:Nn Tryz.prog 62 [.int .i64 (0),.int .i64 (0)]:=⟨_,Tryz.zeroValue62,rfl⟩
instance:Wi Tryz.prog 62 [.int .i64 (0),.int .i64 (0)]:=⟨Xv⟩
theorem Iw (x0:Int) (x1:Int):Kq Tryz.prog 62 [(0,.int .i64 x0),(1,.int .i64 x1)] [.int .i64 x0,.int .i64 x1]:=fun w=>by kernel_rfl
instance (x0:Int) (x1:Int):Ol Tryz.prog 62 [(0,.int .i64 x0),(1,.int .i64 x1)] [.int .i64 x0,.int .i64 x1]:=⟨Iw _ _⟩
theorem Ie:Nu Tryz.prog 62 2:=.arr Tryz.underlying62 (show Tryz.prog.info? 62=some Tryz.t62 from by kernel_rfl) (by kernel_rfl)
instance:AggI Tryz.prog 62 2:=⟨Ie⟩
theorem If:Ab0 Tryz.prog 62 2 1:=.mk Tryz.underlying62 (show Tryz.prog.info? 3=some Tryz.t3 from by kernel_rfl) (by kernel_rfl)
instance:ArrI Tryz.prog 62 2 1:=⟨If⟩
theorem Po (x0:Int) (x1:Int) (x2:Int) (x3:Int) (x4:Int) (x5:Int):Kq Tryz.prog 271 [(0,.agg #[.int .i64 x0,.int .i64 x1]),(1,.agg #[.int .i64 x2,.int .i64 x3]),(2,.agg #[.int .i64 x4,.int .i64 x5])] [.int .i64 x0,.int .i64 x1,.int .i64 x2,.int .i64 x3,.int .i64 x4,.int .i64 x5]:=fun w=>by kernel_rfl
instance (x0:Int) (x1:Int) (x2:Int) (x3:Int) (x4:Int) (x5:Int):Ol Tryz.prog 271 [(0,.agg #[.int .i64 x0,.int .i64 x1]),(1,.agg #[.int .i64 x2,.int .i64 x3]),(2,.agg #[.int .i64 x4,.int .i64 x5])] [.int .i64 x0,.int .i64 x1,.int .i64 x2,.int .i64 x3,.int .i64 x4,.int .i64 x5]:=⟨Po _ _ _ _ _ _⟩
theorem Ax7 (a0:Int) (a1:Int) (b0:Int) (b1:Int):∀ w,(Op.equalIn 10000 73 (.agg #[.int .i64 (a0),.int .i64 (a1)]) (.agg #[.int .i64 (b0),.int .i64 (b1)])).run Tryz.prog w = .ok ((((a0) == (b0)) && (((a1) == (b1)) && true))) w :=
 EqF.struct Tryz.underlying73 (by kernel_rfl) (.cons rfl (fun w=>by kernel_rfl) (fun w=>by kernel_rfl) (fun w=>run_equalIn_int w 9998 3 .i64 .i64 _ _ Tryz.underlying3) (.cons rfl (fun w=>by kernel_rfl) (fun w=>by kernel_rfl) (fun w=>run_equalIn_int w 9998 3 .i64 .i64 _ _ Tryz.underlying3) (EqF.nil)))
instance (a0:Int) (a1:Int) (b0:Int) (b1:Int):EqSI Tryz.prog 73 [.int .i64 (a0),.int .i64 (a1)] [.int .i64 (b0),.int .i64 (b1)] ((((a0) == (b0)) && (((a1) == (b1)) && true))):=⟨Ax7 _ _ _ _,by kernel_rfl⟩
instance:UndI Tryz.prog 193 (.slice 245):=⟨Tryz.underlying193⟩
def Dw (x:Int):List Value:=[.int .u32 (x)]
instance (x0:Int):DecI Dw [.int .u32 (x0)] (x0):=⟨rfl⟩
instance:EncI 245 Dw:=⟨trivial⟩
noncomputable def Mr  : (List Int)->Option (Sum (List Int) (List Int)):=fun s0 =>
 jn (fun (s6:Bool) =>
 if s6=true then (gd (0<=(w64 (((((s0).length:Nat):Int))-1))/\(w64 (((((s0).length:Nat):Int))-1))<=(((s0).length:Nat):Int)) <|
 some (.inl (subl s0 0 (w64 (((((s0).length:Nat):Int))-1)))))
 else (some (.inr s0)))
 (fun j6=>if 0 < ((((s0).length:Nat):Int)) then (bnd (idx s0 (w64 (((((s0).length:Nat):Int))-1))) fun x0 =>
 j6 (decide (x0=0)))
 else (j6 false))
noncomputable def Fj (p0:List Int):Option (List Int) :=
 jn (fun (s2:List Int) =>
 some s2)
 (fun j2=>bnd (lfix (Mr) p0) fun t0 =>
 j2 t0)
instance:UndI Tryz.prog 185 (.int .u64):=⟨Tryz.underlying185⟩
instance:UndI Tryz.prog 245 (.int .u32):=⟨Tryz.underlying245⟩
noncomputable def Om (p0:Int):Option (List Int) :=
 bnd (Fj ([wu32 (p0),wu32 (shr_ .u64 p0 32)])) fun r3 =>
 some r3
noncomputable def Jq (p0:Int) (p1:Int) (p2:Int):Option (Int × Int) :=
 some (wu32 (wu64 ((wu64 ((wu64 (p0))+(wu64 (p1))))+(wu64 (p2)))),wu32 (shr_ .u64 (wu64 ((wu64 ((wu64 (p0))+(wu64 (p1))))+(wu64 (p2)))) 32))
noncomputable def Js (p0:Int) (p1:Int) (p2:Int):Option (Int × Int) :=
 some (wu32 ((wu32 (p0-p1))-p2),shr_ .u32 (Akx .u32 (Og .u32 (Xf .u32 (if IntKind.signed .u32 then -1 else IntKind.max .u32) p0) p1) (Og .u32 (Xf .u32 (if IntKind.signed .u32 then -1 else IntKind.max .u32) (Xf .u32 p0 p1)) (wu32 ((wu32 (p0-p1))-p2)))) 31)
instance:MkI Tryz.prog 193 245 1 4 Dw 0:=⟨Tryz.t245,.int .u32 (0),Tryz.underlying193,by kernel_rfl,by kernel_rfl,rfl,by kernel_rfl,by kernel_rfl⟩
noncomputable def Il (p1:List Int) (s0:(List Int) × Int) (x0:Int):((List Int) × Int × Int)->Option (Sum ((List Int) × Int × Int) ((List Int) × Int)):=fun s1 =>
 if s1.2.2 < ((((p1).length:Nat):Int)) then (bnd (idx p1 s1.2.2) fun x1 =>
 bnd (idx s1.1 (w64 (s0.2+s1.2.2))) fun x2 =>
 bnd (idx s1.1 (w64 (s0.2+s1.2.2))) fun x3 =>
 some (.inl (setI s1.1 (w64 (s0.2+s1.2.2)) (wu32 (wu64 ((wu64 ((wu64 ((wu64 (x0))*(wu64 (x1))))+(wu64 (x2))))+s1.2.1))),shr_ .u64 (wu64 ((wu64 ((wu64 ((wu64 (x0))*(wu64 (x1))))+(wu64 (x2))))+s1.2.1)) 32,w64 (s1.2.2+1))))
 else (some (.inr (s1.1,s1.2.1)))
noncomputable def Im (p0:List Int) (p1:List Int):((List Int) × Int)->Option (Sum ((List Int) × Int) (List Int)):=fun s0 =>
 if s0.2 < ((((p0).length:Nat):Int)) then (bnd (idx p0 s0.2) fun x0 =>
 jn (fun (s1:(List Int) × Int) =>
 bnd (idx s1.1 (w64 (s0.2+((((p1).length:Nat):Int))))) fun x1 =>
 some (.inl (setI s1.1 (w64 (s0.2+((((p1).length:Nat):Int)))) (wu32 (s1.2)),w64 (s0.2+1))))
 (fun j0=>bnd (lfix (Il p1 s0 x0) (s0.1,0,0)) fun t0 =>
 j0 t0))
 else (some (.inr s0.1))
noncomputable def Dl (p0:List Int) (p1:List Int):Option (List Int) :=
 gd ((0:Int)<=(w64 (((((p0).length:Nat):Int))+((((p1).length:Nat):Int))))/\4*Int.toNat (w64 (((((p0).length:Nat):Int))+((((p1).length:Nat):Int))))<=140737488355328) <|
 jn (fun (s3:List Int) =>
 bnd (Fj s3) fun r0 =>
 some r0)
 (fun j3=>bnd (lfix (Im p0 p1) (List.replicate (Int.toNat (w64 (((((p0).length:Nat):Int))+((((p1).length:Nat):Int))))) (0:Int),0)) fun t0 =>
 j3 t0)
noncomputable def Nj (p0:List Int) (p1:List Int):Int->Option (Sum Int (Sum Unit Int)):=fun s0 =>
 if 0<=s0 then (bnd (idx p0 s0) fun x0 =>
 bnd (idx p1 s0) fun x1 =>
 if x0=x1 then (some (.inl (w64 (s0-1))))
 else (bnd (idx p0 s0) fun x2 =>
 bnd (idx p1 s0) fun x3 =>
 if x2 < x3 then (some (.inr (.inr (-1))))
 else (some (.inr (.inr (1))))))
 else (some (.inr (.inl ())))
noncomputable def Ns (p0:List Int) (p1:List Int):Option Int :=
 if ((((p0).length:Nat):Int))=((((p1).length:Nat):Int)) then (jn (fun (s8:Unit) =>
 some 0)
 (fun j8=>bnd (lfix (Nj p0 p1) (w64 (((((p0).length:Nat):Int))-1))) fun t0 =>
 (match t0 with
 | (.inl z0)=>j8 z0
 | (.inr (z0))=>some z0
 )))
 else (if ((((p0).length:Nat):Int)) < ((((p1).length:Nat):Int)) then (some (-1))
 else (some 1))
noncomputable def Io (s2:(List Int) × (List Int)):((List Int) × Int × Int)->Option (Sum ((List Int) × Int × Int) ((List Int) × Int)):=fun s0 =>
 if s0.2.2 < ((((s2.1).length:Nat):Int)) then (jn (fun (s1:Int) =>
 bnd (idx s2.1 s0.2.2) fun x0 =>
 bnd (Jq x0 s1 s0.2.1) fun r0 =>
 bnd (idx s0.1 s0.2.2) fun x1 =>
 some (.inl (setI s0.1 s0.2.2 r0.1,r0.2,w64 (s0.2.2+1))))
 (fun j0=>if s0.2.2 < ((((s2.2).length:Nat):Int)) then (bnd (idx s2.2 s0.2.2) fun x2 =>
 j0 x2)
 else (j0 0)))
 else (some (.inr (s0.1,s0.2.1)))
noncomputable def Mg (p0:List Int) (p1:List Int):Option (List Int) :=
 jn (fun (s2:(List Int) × (List Int)) =>
 gd ((0:Int)<=(w64 (((((s2.1).length:Nat):Int))+1))/\4*Int.toNat (w64 (((((s2.1).length:Nat):Int))+1))<=140737488355328) <|
 jn (fun (s6:(List Int) × Int) =>
 bnd (idx s6.1 ((((s2.1).length:Nat):Int))) fun x0 =>
 bnd (Fj (setI s6.1 ((((s2.1).length:Nat):Int)) s6.2)) fun r0 =>
 some r0)
 (fun j6=>bnd (lfix (Io s2) (List.replicate (Int.toNat (w64 (((((s2.1).length:Nat):Int))+1))) (0:Int),0,0)) fun t0 =>
 j6 t0))
 (fun j2=>if ((((p0).length:Nat):Int)) < ((((p1).length:Nat):Int)) then (j2 (p1,p0))
 else (j2 (p0,p1)))
noncomputable def Ks (p0:List Int) (p1:List Int):((List Int) × Int × Int)->Option (Sum ((List Int) × Int × Int) (List Int)):=fun s0 =>
 if s0.2.2 < ((((p0).length:Nat):Int)) then (jn (fun (s1:Int) =>
 bnd (idx p0 s0.2.2) fun x0 =>
 bnd (Js x0 s1 s0.2.1) fun r0 =>
 bnd (idx s0.1 s0.2.2) fun x1 =>
 some (.inl (setI s0.1 s0.2.2 r0.1,r0.2,w64 (s0.2.2+1))))
 (fun j0=>if s0.2.2 < ((((p1).length:Nat):Int)) then (bnd (idx p1 s0.2.2) fun x2 =>
 j0 x2)
 else (j0 0)))
 else (some (.inr s0.1))
noncomputable def Ki (p0:List Int) (p1:List Int):Option (List Int) :=
 gd ((0:Int)<=((((p0).length:Nat):Int))/\4*Int.toNat ((((p0).length:Nat):Int))<=140737488355328) <|
 jn (fun (s4:List Int) =>
 bnd (Fj s4) fun r0 =>
 some r0)
 (fun j4=>bnd (lfix (Ks p0 p1) (List.replicate (Int.toNat ((((p0).length:Nat):Int))) (0:Int),0,0)) fun t0 =>
 j4 t0)
structure Bn where
 neg:Bool
 n:List Int
 d:List Int
instance:UndI Tryz.prog 4 (.bool):=⟨Tryz.underlying4⟩
noncomputable def Ig (p0:Bn) (p1:Bn):Option Bn :=
 bnd (Dl p0.n p1.n) fun r4 =>
 bnd (Dl p0.d p1.d) fun r0 =>
 some (⟨!((p0.neg) == (p1.neg)),r4,r0⟩:Bn)
noncomputable def Mh (p0:Bn) (p1:Bn):Option Bn :=
 bnd (Dl p0.n p1.d) fun r4 =>
 bnd (Dl p1.n p0.d) fun r0 =>
 bnd (Dl p0.d p1.d) fun r1 =>
 if ((p0.neg) == (p1.neg))=true then (bnd (Mg r4 r0) fun r2 =>
 some (⟨p0.neg,r2,r1⟩:Bn))
 else (bnd (Ns r4 r0) fun r3 =>
 if 0<=r3 then (bnd (Ki r4 r0) fun r5 =>
 some (⟨p0.neg,r5,r1⟩:Bn))
 else (bnd (Ki r0 r4) fun r6 =>
 some (⟨p1.neg,r6,r1⟩:Bn)))
noncomputable def Kt (p0:Bn):Option Int :=
 if ((((p0.n).length:Nat):Int))=0 then (some 0)
 else (if p0.neg=true then (some (-1))
 else (some 1))
instance:UndI Tryz.prog 3 (.int .i64):=⟨Tryz.underlying3⟩
noncomputable def Jt (p0:Int):Option Bn :=
 if p0 < 0 then (bnd (Om (wu64 ((wu64 (w64 (-(w64 (p0+1)))))+1))) fun r4 =>
 some (⟨true,r4,[1]⟩:Bn))
 else (bnd (Om (wu64 (p0))) fun r0 =>
 some (⟨false,r0,[1]⟩:Bn))
structure Ac where
 X:Int
 Y:Int
instance:UndI Tryz.prog 255 (.slice 73):=⟨Tryz.underlying255⟩
noncomputable def Ju (p0:List Ac):Int->Option (Sum Int (Sum Unit Bool)):=fun s0 =>
 if s0 < ((((p0).length:Nat):Int)) then (bnd (idx p0 s0) fun x0 =>
 jn (fun (s1:Bool) =>
 if s1=true then (some (.inr (.inr (false))))
 else (some (.inl (w64 (s0+1)))))
 (fun j0=>if x0.X < (-268435456) then (j0 true)
 else (if 268435456 < x0.X then (j0 true)
 else (if x0.Y < (-268435456) then (j0 true)
 else (j0 (decide (268435456 < x0.Y)))))))
 else (some (.inr (.inl ())))
noncomputable def Nk (p0:List Ac):Option Bool :=
 jn (fun (s2:Unit) =>
 some true)
 (fun j2=>bnd (lfix (Ju p0) 0) fun t0 =>
 (match t0 with
 | (.inl z0)=>j2 z0
 | (.inr (z0))=>some z0
 ))
def Ac5 (x:Ac):List Value:=[.int .i64 (x.X),.int .i64 (x.Y)]
instance (x0:Int) (x1:Int):DecI Ac5 [.int .i64 (x0),.int .i64 (x1)] (⟨x0,x1⟩):=⟨rfl⟩
instance:EncI 73 Ac5:=⟨trivial⟩
noncomputable def Jv (p0:Int):Option Int :=
 if p0 < 0 then (some (-1))
 else (if 0 < p0 then (some 1)
 else (some 0))
noncomputable def Kb (p0:Ac) (p1:Ac) (p2:Ac):Option Int :=
 some (w64 ((w64 ((w64 (p1.X-p0.X))*(w64 (p2.Y-p0.Y))))-(w64 ((w64 (p1.Y-p0.Y))*(w64 (p2.X-p0.X))))))
structure Ak where
 Lo:Int
 Hi:Int
structure Ab where
 X:Int
 Y:Int
 Z:Ak
structure Aaq where
 Neg:Bool
 L:List Int
structure Vh where
 N:Aaq
 D:List Int
structure S_lidarref06_Spot where
 X:Vh
 Y:Vh
noncomputable def Ps (p0:Ac) (p1:Ac) (p2:Ac):Option (Int × Int) :=
 bnd (Nk ([p0,p1,p2])) fun r6 =>
 if r6=true then (bnd (Kb p0 p1 p2) fun r0 =>
 bnd (Jv r0) fun r1 =>
 some (r1,0))
 else (some (0,11))
noncomputable def Oi (p0:Ac) (p1:Ac):Option Int :=
 some (w64 ((w64 ((w64 (p0.X-p1.X))*(w64 (p0.X-p1.X))))+(w64 ((w64 (p0.Y-p1.Y))*(w64 (p0.Y-p1.Y))))))
noncomputable def Ov (p0:Ac) (p1:Ac) (p2:Ac) (p3:Ac):Option (Int × Int) :=
 bnd (Nk ([p0,p1,p2,p3])) fun r7 =>
 if r7=true then (bnd (Kb p0 p1 p2) fun r0 =>
 bnd (Jv r0) fun r1 =>
 if r1=0 then (some (0,12))
 else (bnd (Oi p0 p3) fun r2 =>
 bnd (Jt r2) fun r3 =>
 bnd (Kb p3 p1 p2) fun r4 =>
 bnd (Jt r4) fun r5 =>
 bnd (Ig r3 r5) fun r6 =>
 bnd (Oi p1 p3) fun r8 =>
 bnd (Jt r8) fun r9 =>
 bnd (Kb p3 p2 p0) fun r81 =>
 bnd (Jt r81) fun r84 =>
 bnd (Ig r9 r84) fun r98 =>
 bnd (Mh r6 r98) fun r10 =>
 bnd (Oi p2 p3) fun r11 =>
 bnd (Jt r11) fun r12 =>
 bnd (Kb p3 p0 p1) fun r14 =>
 bnd (Jt r14) fun r15 =>
 bnd (Ig r12 r15) fun r17 =>
 bnd (Mh r10 r17) fun r18 =>
 bnd (Kt r18) fun r19 =>
 some (w64 (r1*r19),0)))
 else (some (0,11))
noncomputable def Sf (p0:Ak):Option Bool :=
 jn (fun (s2:Bool) =>
 some s2)
 (fun j2=>if (-1152921504606846976)<=p0.Lo then (if p0.Lo<=p0.Hi then (j2 (decide (p0.Hi<=1152921504606846976)))
 else (j2 false))
 else (j2 false))
noncomputable def Da (p0:Ab):Option Ac :=
 some (⟨p0.X,p0.Y⟩:Ac)
noncomputable def Ef (p0:Ac) (p1:Ac):Option Bool :=
 jn (fun (s2:Bool) =>
 some s2)
 (fun j2=>if p0.X < p1.X then (j2 true)
 else (if p0.X=p1.X then (j2 (decide (p0.Y < p1.Y)))
 else (j2 false)))
noncomputable def Hk (p0:Ac) (p1:Ac) (p2:Ac):Option Int :=
 bnd (Ps p0 p1 p2) fun r4 =>
 some r4.1
structure Aar where
 Neg:Bool
 Num:List Int
 Den:List Int
structure S_api_Stop where
 At:Aar
 In:Bool
 Lo:Aar
 Hi:Aar
noncomputable def Ta (p0:Ab):Option Bool :=
 bnd (Da (⟨p0.X,p0.Y,(⟨p0.Z.Lo,p0.Z.Hi⟩:Ak)⟩:Ab)) fun r2 =>
 bnd (Da (⟨p0.X,p0.Y,(⟨p0.Z.Lo,p0.Z.Hi⟩:Ak)⟩:Ab)) fun r5 =>
 bnd (Da (⟨p0.X,p0.Y,(⟨p0.Z.Lo,p0.Z.Hi⟩:Ak)⟩:Ab)) fun r8 =>
 bnd (Ps r2 r5 r8) fun r0 =>
 jn (fun (s3:Bool) =>
 some s3)
 (fun j3=>if r0.2=0 then (bnd (Sf (⟨p0.Z.Lo,p0.Z.Hi⟩:Ak)) fun r1 =>
 if r1=true then (if (-268435456)<=p0.Z.Lo then (j3 (decide (p0.Z.Hi<=268435456)))
 else (j3 false))
 else (j3 false))
 else (j3 false))
structure Aa where
 a0:Int
 a1:Int
noncomputable def Dn (p0:Int) (p1:Int):Option Aa :=
 some (⟨min p0 p1,max p0 p1⟩:Aa)
noncomputable def Rk (p0:Aa) (p1:Aa):Option Int :=
 if p0.a0=p1.a0 then (some (w64 (p0.a1-p1.a1)))
 else (some (w64 (p0.a0-p1.a0)))
theorem Av0 (x0:Int) (x1:Int) (x2:Int) (x3:Int) (x4:Int) (x5:Int):Agx Tryz.prog 271 [.int .i64 x0,.int .i64 x1,.int .i64 x2,.int .i64 x3,.int .i64 x4,.int .i64 x5] [.agg #[.int .i64 x0,.int .i64 x1],.agg #[.int .i64 x2,.int .i64 x3],.agg #[.int .i64 x4,.int .i64 x5]]:=by
 intro j h k w
 have h':j < 3:=h
 match j,h,h' with
 | 0,_,_=>exact (show (Instr.index 271 (.agg ([.int .i64 x0,.int .i64 x1,.int .i64 x2,.int .i64 x3,.int .i64 x4,.int .i64 x5]:List Value).toArray) (.int k ((0:Nat):Int))).run Tryz.prog w = .ok (.agg #[.int .i64 x0,.int .i64 x1]) w by kernel_rfl)
 | 1,_,_=>exact (show (Instr.index 271 (.agg ([.int .i64 x0,.int .i64 x1,.int .i64 x2,.int .i64 x3,.int .i64 x4,.int .i64 x5]:List Value).toArray) (.int k ((1:Nat):Int))).run Tryz.prog w = .ok (.agg #[.int .i64 x2,.int .i64 x3]) w by kernel_rfl)
 | 2,_,_=>exact (show (Instr.index 271 (.agg ([.int .i64 x0,.int .i64 x1,.int .i64 x2,.int .i64 x3,.int .i64 x4,.int .i64 x5]:List Value).toArray) (.int k ((2:Nat):Int))).run Tryz.prog w = .ok (.agg #[.int .i64 x4,.int .i64 x5]) w by kernel_rfl)
def Nt (x:Ac):Value:=.agg #[.int .i64 (x.X),.int .i64 (x.Y)]
theorem Zg (x y:Ac) (h:Nt x=Nt y):x=y:=by
 rcases x with ⟨_,_⟩;rcases y with ⟨_,_⟩;simp [Nt] at h;simp [h]
instance (x:Ac):UnfI Nt x (.agg #[.int .i64 (x.X),.int .i64 (x.Y)]):=⟨rfl⟩
instance (x0:Int) (x1:Int):Aaj Nt (.agg #[.int .i64 (x0),.int .i64 (x1)]) (⟨x0,x1⟩):=⟨rfl⟩
instance:ValI Tryz.prog 73 Nt ((⟨0,0⟩:Ac)):=⟨Zg,fun w=>by kernel_rfl⟩
instance (x0:Int) (x1:Int) (x2:Int) (x3:Int) (x4:Int) (x5:Int):Avp Tryz.prog 271 [.int .i64 x0,.int .i64 x1,.int .i64 x2,.int .i64 x3,.int .i64 x4,.int .i64 x5] Nt [(⟨x0,x1⟩:Ac),(⟨x2,x3⟩:Ac),(⟨x4,x5⟩:Ac)]:=⟨Av0 _ _ _ _ _ _⟩
noncomputable def Sr (p1:Ac) (p2:Ac) (p3:Ac):(Int × Int × Int)->Option (Sum (Int × Int × Int) (Int × Int)):=fun s0 =>
 if s0.2.2 < 3 then (jn (fun (s1:Int × Int) =>
 some (.inl (s1.1,s1.2,w64 (s0.2.2+1))))
 (fun j0=>bnd (idx [p1,p2,p3] s0.2.2) fun x0 =>
 bnd (Ef x0 (⟨s0.1,s0.2.1⟩:Ac)) fun r0 =>
 if r0=true then (j0 (x0.X,x0.Y))
 else (j0 (s0.1,s0.2.1))))
 else (some (.inr (s0.1,s0.2.1)))
noncomputable def Pu (p0:Ac) (p1:Ac) (p2:Ac) (p3:Ac):Option Bool :=
 bnd (Ov p0 p1 p2 p3) fun r5 =>
 if r5.1=0 then (jn (fun (s7:Int × Int) =>
 jn (fun (s0:Bool) =>
 some s0)
 (fun j0=>if ((((s7.1) == (p2.X)) && (((s7.2) == (p2.Y)) && true)))=true then (j0 true)
 else (j0 (((s7.1) == (p3.X)) && (((s7.2) == (p3.Y)) && true)))))
 (fun j7=>bnd (lfix (Sr p1 p2 p3) (p0.X,p0.Y,0)) fun t0 =>
 j7 t0))
 else (some (decide (r5.1 < 0)))
set_option maxHeartbeats 1000000 in
set_option maxRecDepth 100000 in
instance ratio_nat_norm_c (p0:List Int):ConB (Fj p0) Tryz.prog 215 (fun K vs=>∃ (A0_0:Option Addr) (c0_0:Nat),vs=[.slice (A0_0) ((p0).length) (c0_0)]/\Has K A0_0 (p0).length c0_0 1 Dw (p0)/\True) (fun K r=>fun v Ln=>∃ (A0:Option Addr) (c0:Nat) (e:Ent),v = .slice (A0) ((r).length) (c0)/\Ln=[e]/\Has (K++[e]) A0 (r).length c0 1 Dw (r)/\True):=⟨by
 rintro K _ r ⟨A0_0,c0_0,rfl,ha0,-⟩ hx w hK;unfold Fj at hx;refine CtS Tryz.ntmps215 Tryz.results215 ?_;try (refine pre ?_;intros;rename_i hx)
 refine Bw ?_;try (refine pre ?_;intros;rename_i hx)
 apply JrG (γ:=(Option Addr) × Nat) hx [] (fun s2 y2 f=>(0,.slice (y2.1) ((s2).length) (y2.2))::f) [999] (fun s2 y2 l=>l) (fun s2 y2=>Has K (y2.1) ((s2).length) (y2.2) 1 Dw (s2)/\True);exact kk
 ·intro s2 y2 hx hG;obtain ⟨_,-⟩:=hG;exact au
 ·intro _ hx;try (refine pre ?_;intros;rename_i hx)
  apply LrG (γ:=(Option Addr) × Nat) hx [] (fun s0 y0 f=>(0,.slice (y0.1) ((s0).length) (y0.2))::f) [999] (fun s0 y0 l=>l) (fun s0 y0=>Has K (y0.1) ((s0).length) (y0.2) 1 Dw (s0)/\True) (_,_);exact kk;exact sF2;exact gG;exact pK2;intro s0 y0 x0 hx _ hG;obtain ⟨_,-⟩:=hG;unfold Mr at hx
  exact au⟩

set_option maxRecDepth 100000 in
instance ratio_natOf_c (p0:Int):ConB (Om p0) Tryz.prog 211 (fun _ vs=>vs=[.int .u64 (p0)]) (fun K r=>fun v Ln=>∃ (A0:Option Addr) (c0:Nat) (e:Ent),v = .slice (A0) ((r).length) (c0)/\Ln=[e]/\Has (K++[e]) A0 (r).length c0 1 Dw (r)/\True):=⟨by
 rintro K _ r rfl hx w hK;unfold Om at hx;refine CtS Tryz.ntmps211 Tryz.results211 ?_;exact au⟩

set_option maxRecDepth 100000 in
instance math_bits_Add32_c (p0:Int) (p1:Int) (p2:Int):Con (Jq p0 p1 p2) Tryz.prog 290 (fun _ vs=>vs=[.int .u32 (p0),.int .u32 (p1),.int .u32 (p2)]) (fun _ r=>fun v Ln=>v = .tuple #[.int .u32 (r.1),.int .u32 (r.2)]/\Ln=[]/\True):=⟨by
 rintro _ _ r rfl hx w hK;unfold Jq at hx;refine CtS Tryz.ntmps290 Tryz.results290 ?_;exact au⟩
set_option maxRecDepth 100000 in
instance math_bits_Sub32_c (p0:Int) (p1:Int) (p2:Int):Con (Js p0 p1 p2) Tryz.prog 291 (fun _ vs=>vs=[.int .u32 (p0),.int .u32 (p1),.int .u32 (p2)]) (fun _ r=>fun v Ln=>v = .tuple #[.int .u32 (r.1),.int .u32 (r.2)]/\Ln=[]/\True):=⟨by
 rintro _ _ r rfl hx w hK;unfold Js at hx;refine CtS Tryz.ntmps291 Tryz.results291 ?_;exact au⟩
set_option maxHeartbeats 1000000 in
set_option maxRecDepth 100000 in
instance ratio_nat_mul_c (p0:List Int) (p1:List Int):ConB (Dl p0 p1) Tryz.prog 253 (fun K vs=>∃ (A0_0:Option Addr) (c0_0:Nat) (A0_1:Option Addr) (c0_1:Nat),vs=[.slice (A0_0) ((p0).length) (c0_0),.slice (A0_1) ((p1).length) (c0_1)]/\Has K A0_0 (p0).length c0_0 1 Dw (p0)/\Has K A0_1 (p1).length c0_1 1 Dw (p1)/\True) (fun K r=>fun v Ln=>∃ (A0:Option Addr) (c0:Nat) (e:Ent),v = .slice (A0) ((r).length) (c0)/\Ln=[e]/\Has (K++[e]) A0 (r).length c0 1 Dw (r)/\True):=⟨by
 rintro K _ r ⟨A0_0,c0_0,A0_1,c0_1,rfl,ha0,ha1,-⟩ hx w hK;unfold Dl at hx;refine CtS Tryz.ntmps253 Tryz.results253 ?_;try (refine pre ?_;intros;rename_i hx)
 apply Jr (γ:=(Option Addr) × Nat) hx [] (fun s3 y3 f=>(5,.slice (y3.1) ((s3).length) (y3.2))::f) [999] (fun s3 y3 l=>.r (y3.1) ((s3).length) (y3.2) 245 1 ((s3).flatMap Dw)::l);exact kk
 ·intro s3 y3 hx;exact au
 ·intro _ hx;try (refine pre ?_;intros;rename_i hx)
  apply Lr (γ:=(Option Addr) × Nat) hx [1,18,19] (fun s0 y0 f=>(5,.slice (y0.1) ((s0.1).length) (y0.2))::(20,.int .i64 (s0.2))::f) [999] (fun s0 y0 l=>.r (y0.1) ((s0.1).length) (y0.2) 245 1 ((s0.1).flatMap Dw)::l) (_,_);exact kk;exact sk;intro s0 y0 x0 hx _;unfold Im at hx
  try (refine pre ?_;intros;rename_i hx)
  refine Cq1 (s:=21) hx rfl (fun _ hx=>?_) (fun _ hx=>?_)
  ·try (refine pre ?_;intros;rename_i hx)
   refine Bw ?_;try (refine pre ?_;intros;rename_i hx)
   apply Jr (γ:=(Option Addr) × Nat) hx [1,6,18,19,20] (fun s1 y1 f=>(5,.slice (y1.1) ((s1.1).length) (y1.2))::(8,.int .u64 (s1.2))::f) [999] (fun s1 y1 l=>.r (y1.1) ((s1.1).length) (y1.2) 245 1 ((s1.1).flatMap Dw)::l);exact kk
   ·intro s1 y1 hx;exact au
   ·intro _ hx;try (refine pre ?_;intros;rename_i hx)
    apply Lr (γ:=(Option Addr) × Nat) hx [1,6,7,18,19,20,25,26] (fun s2 y2 f=>(5,.slice (y2.1) ((s2.1).length) (y2.2))::(8,.int .u64 (s2.2.1))::(27,.int .i64 (s2.2.2))::f) [999] (fun s2 y2 l=>.r (y2.1) ((s2.1).length) (y2.2) 245 1 ((s2.1).flatMap Dw)::l) (_,_);exact kk;exact sk;intro s2 y2 x1 hx _;unfold Il at hx
    exact au
  ·exact au⟩

set_option maxHeartbeats 1000000 in
set_option maxRecDepth 100000 in
instance ratio_nat_cmp_c (p0:List Int) (p1:List Int):Con (Ns p0 p1) Tryz.prog 255 (fun K vs=>∃ (A0_0:Option Addr) (c0_0:Nat) (A0_1:Option Addr) (c0_1:Nat),vs=[.slice (A0_0) ((p0).length) (c0_0),.slice (A0_1) ((p1).length) (c0_1)]/\Has K A0_0 (p0).length c0_0 1 Dw (p0)/\Has K A0_1 (p1).length c0_1 1 Dw (p1)/\True) (fun _ r=>fun v Ln=>v = .int .i64 (r)/\Ln=[]/\True):=⟨by
 rintro K _ r ⟨A0_0,c0_0,A0_1,c0_1,rfl,ha0,ha1,-⟩ hx w hK;replace ha0:=Has.lo ha0 hK;replace ha1:=Has.lo ha1 hK;unfold Ns at hx;have:=dl 8 [0,0,0,1,0,0,0,1,0] [0,1,2,3,4,5,6,7,8];have:=dl 9 [0,0,0,1,0,0,0,1,0] [0,1,2,3,4,5,6,7,8];refine CtS Tryz.ntmps255 Tryz.results255 ?_;try (refine pre ?_;intros;rename_i hx)
 refine Cq2 (s:=10) hx rfl (fun _ hx=>?_) (fun _ hx=>?_)
 ·exact au
 ·try (refine pre ?_;intros;rename_i hx)
  apply Jr (γ:=Unit) hx [] (fun s8 y8 f=>f) [999] (fun s8 y8 l=>l);exact kk
  ·intro s8 y8 hx;exact au
  ·intro _ hx;try (refine pre ?_;intros;rename_i hx)
   apply Lr (γ:=Unit) hx [0,1] (fun s61 y61 f=>(5,.int .i64 (s61))::f) [999] (fun s61 y61 l=>l) ();exact kk;exact sk;intro s61 y61 x61 hx _;unfold Nj at hx
   exact au⟩
set_option maxHeartbeats 1000000 in
set_option maxRecDepth 100000 in
instance ratio_nat_add_c (p0:List Int) (p1:List Int):ConB (Mg p0 p1) Tryz.prog 254 (fun K vs=>∃ (A0_0:Option Addr) (c0_0:Nat) (A0_1:Option Addr) (c0_1:Nat),vs=[.slice (A0_0) ((p0).length) (c0_0),.slice (A0_1) ((p1).length) (c0_1)]/\Has K A0_0 (p0).length c0_0 1 Dw (p0)/\Has K A0_1 (p1).length c0_1 1 Dw (p1)/\True) (fun K r=>fun v Ln=>∃ (A0:Option Addr) (c0:Nat) (e:Ent),v = .slice (A0) ((r).length) (c0)/\Ln=[e]/\Has (K++[e]) A0 (r).length c0 1 Dw (r)/\True):=⟨by
 rintro K _ r ⟨A0_0,c0_0,A0_1,c0_1,rfl,ha0,ha1,-⟩ hx w hK;unfold Mg at hx;refine CtS Tryz.ntmps254 Tryz.results254 ?_;try (refine pre ?_;intros;rename_i hx)
 refine Bw ?_;try (refine pre ?_;intros;rename_i hx)
 apply JrG (γ:=(Option Addr) × Nat × (Option Addr) × Nat) hx [] (fun s2 y2 f=>(0,.slice (y2.1) ((s2.1).length) (y2.2.1))::(1,.slice (y2.2.2.1) ((s2.2).length) (y2.2.2.2))::f) [999] (fun s2 y2 l=>l) (fun s2 y2=>Has K (y2.1) ((s2.1).length) (y2.2.1) 1 Dw (s2.1)/\Has K (y2.2.2.1) ((s2.2).length) (y2.2.2.2) 1 Dw (s2.2)/\True);exact kk
 ·intro s2 y2 hx hG;obtain ⟨_,_,-⟩:=hG;try (refine pre ?_;intros;rename_i hx)
  refine Bw ?_;try (refine pre ?_;intros;rename_i hx)
  apply Jr (γ:=(Option Addr) × Nat) hx [0] (fun s6 y6 f=>(5,.slice (y6.1) ((s6.1).length) (y6.2))::(6,.int .u32 (s6.2))::f) [999] (fun s6 y6 l=>.r (y6.1) ((s6.1).length) (y6.2) 245 1 ((s6.1).flatMap Dw)::l);exact kk
  ·intro s6 y6 hx;exact au
  ·intro _ hx;try (refine pre ?_;intros;rename_i hx)
   apply Lr (γ:=(Option Addr) × Nat) hx [0,1,21] (fun s0 y0 f=>(5,.slice (y0.1) ((s0.1).length) (y0.2))::(6,.int .u32 (s0.2.1))::(22,.int .i64 (s0.2.2))::f) [999] (fun s0 y0 l=>.r (y0.1) ((s0.1).length) (y0.2) 245 1 ((s0.1).flatMap Dw)::l) (_,_);exact kk;exact sk;intro s0 y0 x0 hx _;unfold Io at hx
   exact au
 ·intro _ hx;exact au⟩

set_option maxHeartbeats 1000000 in
set_option maxRecDepth 100000 in
instance ratio_nat_sub_c (p0:List Int) (p1:List Int):ConB (Ki p0 p1) Tryz.prog 256 (fun K vs=>∃ (A0_0:Option Addr) (c0_0:Nat) (A0_1:Option Addr) (c0_1:Nat),vs=[.slice (A0_0) ((p0).length) (c0_0),.slice (A0_1) ((p1).length) (c0_1)]/\Has K A0_0 (p0).length c0_0 1 Dw (p0)/\Has K A0_1 (p1).length c0_1 1 Dw (p1)/\True) (fun K r=>fun v Ln=>∃ (A0:Option Addr) (c0:Nat) (e:Ent),v = .slice (A0) ((r).length) (c0)/\Ln=[e]/\Has (K++[e]) A0 (r).length c0 1 Dw (r)/\True):=⟨by
 rintro K _ r ⟨A0_0,c0_0,A0_1,c0_1,rfl,ha0,ha1,-⟩ hx w hK;unfold Ki at hx;refine CtS Tryz.ntmps256 Tryz.results256 ?_;try (refine pre ?_;intros;rename_i hx)
 refine Bw ?_;try (refine pre ?_;intros;rename_i hx)
 apply Jr (γ:=(Option Addr) × Nat) hx [] (fun s4 y4 f=>(5,.slice (y4.1) ((s4).length) (y4.2))::f) [999] (fun s4 y4 l=>.r (y4.1) ((s4).length) (y4.2) 245 1 ((s4).flatMap Dw)::l);exact kk
 ·intro s4 y4 hx;exact au
 ·intro _ hx;try (refine pre ?_;intros;rename_i hx)
  apply Lr (γ:=(Option Addr) × Nat) hx [0,1,13] (fun s0 y0 f=>(5,.slice (y0.1) ((s0.1).length) (y0.2))::(6,.int .u32 (s0.2.1))::(14,.int .i64 (s0.2.2))::f) [999] (fun s0 y0 l=>.r (y0.1) ((s0.1).length) (y0.2) 245 1 ((s0.1).flatMap Dw)::l) (_,_);exact kk;exact sk;intro s0 y0 x0 hx _;unfold Ks at hx
  exact au⟩

set_option maxRecDepth 100000 in
instance ratio_Num_Mul_c (p0:Bn) (p1:Bn):ConB (Ig p0 p1) Tryz.prog 206 (fun K vs=>∃ (A0_0:Option Addr) (c0_0:Nat) (A0_1:Option Addr) (c0_1:Nat) (A0_2:Option Addr) (c0_2:Nat) (A0_3:Option Addr) (c0_3:Nat),vs=[.agg #[.bool (p0.neg),.slice (A0_0) ((p0.n).length) (c0_0),.slice (A0_1) ((p0.d).length) (c0_1)],.agg #[.bool (p1.neg),.slice (A0_2) ((p1.n).length) (c0_2),.slice (A0_3) ((p1.d).length) (c0_3)]]/\Has K A0_0 (p0.n).length c0_0 1 Dw (p0.n)/\Has K A0_1 (p0.d).length c0_1 1 Dw (p0.d)/\Has K A0_2 (p1.n).length c0_2 1 Dw (p1.n)/\Has K A0_3 (p1.d).length c0_3 1 Dw (p1.d)/\True) (fun K r=>fun v Ln=>∃ (A0:Option Addr) (c0:Nat) (A2:Option Addr) (c2:Nat) (e:Ent),v = .agg #[.bool (r.neg),.slice (A0) ((r.n).length) (c0),.slice (A2) ((r.d).length) (c2)]/\Ln=[e]/\Has (K++[e]) A0 (r.n).length c0 1 Dw (r.n)/\Has (K++[e]) A2 (r.d).length c2 1 Dw (r.d)/\True):=⟨by
 rintro K _ r ⟨A0_0,c0_0,A0_1,c0_1,A0_2,c0_2,A0_3,c0_3,rfl,ha0,ha1,ha2,ha3,-⟩ hx w hK;unfold Ig at hx;have:=dl 1 [0,1,0,1,0,0,1,0,1,2,0,1,0,1,2,0,3] [0,1,2,3,4,5,6,7,8,10,11,12,13,9,14,15,16];refine CtS Tryz.ntmps206 Tryz.results206 ?_;exact au⟩

set_option maxHeartbeats 1000000 in
set_option maxRecDepth 100000 in
instance ratio_Num_Add_c (p0:Bn) (p1:Bn):ConB (Mh p0 p1) Tryz.prog 205 (fun K vs=>∃ (A0_0:Option Addr) (c0_0:Nat) (A0_1:Option Addr) (c0_1:Nat) (A0_2:Option Addr) (c0_2:Nat) (A0_3:Option Addr) (c0_3:Nat),vs=[.agg #[.bool (p0.neg),.slice (A0_0) ((p0.n).length) (c0_0),.slice (A0_1) ((p0.d).length) (c0_1)],.agg #[.bool (p1.neg),.slice (A0_2) ((p1.n).length) (c0_2),.slice (A0_3) ((p1.d).length) (c0_3)]]/\Has K A0_0 (p0.n).length c0_0 1 Dw (p0.n)/\Has K A0_1 (p0.d).length c0_1 1 Dw (p0.d)/\Has K A0_2 (p1.n).length c0_2 1 Dw (p1.n)/\Has K A0_3 (p1.d).length c0_3 1 Dw (p1.d)/\True) (fun K r=>fun v Ln=>∃ (A0:Option Addr) (c0:Nat) (A2:Option Addr) (c2:Nat) (e:Ent),v = .agg #[.bool (r.neg),.slice (A0) ((r.n).length) (c0),.slice (A2) ((r.d).length) (c2)]/\Ln=[e]/\Has (K++[e]) A0 (r.n).length c0 1 Dw (r.n)/\Has (K++[e]) A2 (r.d).length c2 1 Dw (r.d)/\True):=⟨by
 rintro K _ r ⟨A0_0,c0_0,A0_1,c0_1,A0_2,c0_2,A0_3,c0_3,rfl,ha0,ha1,ha2,ha3,-⟩ hx w hK;unfold Mh at hx;have:=dl 1 [0,1,0,1,2,0,1,0,1,2,2,2] [0,1,2,3,5,6,7,8,4,9,10,11];have:=dl 4 [0,1,0,0,2,0,0,3] [0,1,2,3,5,4,6,7];have:=dl 6 [0,1,0,0,2,0,0,3] [0,1,2,3,5,4,6,7];have:=dl 7 [0,1,0,0,2,0,0,3] [0,1,2,3,5,4,6,7];refine CtS Tryz.ntmps205 Tryz.results205 ?_;try (refine pre ?_;intros;rename_i hx)
 refine Cq3 (s:=27) hx rfl (fun _ hx=>?_) (fun _ hx=>?_)
 ·exact au
 ·exact au⟩

set_option maxRecDepth 100000 in
instance ratio_Num_Sign_c (p0:Bn):Con (Kt p0) Tryz.prog 217 (fun K vs=>∃ (A0_0:Option Addr) (c0_0:Nat) (A0_1:Option Addr) (c0_1:Nat),vs=[.agg #[.bool (p0.neg),.slice (A0_0) ((p0.n).length) (c0_0),.slice (A0_1) ((p0.d).length) (c0_1)]]/\Has K A0_0 (p0.n).length c0_0 1 Dw (p0.n)/\Has K A0_1 (p0.d).length c0_1 1 Dw (p0.d)/\True) (fun _ r=>fun v Ln=>v = .int .i64 (r)/\Ln=[]/\True):=⟨by
 rintro K _ r ⟨A0_0,c0_0,A0_1,c0_1,rfl,ha0,ha1,-⟩ hx w hK;replace ha0:=Has.lo ha0 hK;replace ha1:=Has.lo ha1 hK;unfold Kt at hx;refine CtS Tryz.ntmps217 Tryz.results217 ?_;exact au⟩
set_option maxRecDepth 100000 in
instance ratio_Int_c (p0:Int):ConB (Jt p0) Tryz.prog 138 (fun _ vs=>vs=[.int .i64 (p0)]) (fun K r=>fun v Ln=>∃ (A0:Option Addr) (c0:Nat) (A2:Option Addr) (c2:Nat) (e:Ent),v = .agg #[.bool (r.neg),.slice (A0) ((r.n).length) (c0),.slice (A2) ((r.d).length) (c2)]/\Ln=[e]/\Has (K++[e]) A0 (r.n).length c0 1 Dw (r.n)/\Has (K++[e]) A2 (r.d).length c2 1 Dw (r.d)/\True):=⟨by
 rintro K _ r rfl hx w hK;unfold Jt at hx;refine CtS Tryz.ntmps138 Tryz.results138 ?_;exact au⟩

set_option maxHeartbeats 1000000 in
set_option maxRecDepth 100000 in
instance exact_inside_c (p0:List Ac):Con (Nk p0) Tryz.prog 134 (fun K vs=>∃ (A0_0:Option Addr) (c0_0:Nat),vs=[.slice (A0_0) ((p0).length) (c0_0)]/\Has K A0_0 (p0).length c0_0 2 Ac5 (p0)/\True) (fun _ r=>fun v Ln=>v = .bool (r)/\Ln=[]/\True):=⟨by
 rintro K _ r ⟨A0_0,c0_0,rfl,ha0,-⟩ hx w hK;replace ha0:=Has.lo ha0 hK;unfold Nk at hx;refine CtS Tryz.ntmps134 Tryz.results134 ?_;try (refine pre ?_;intros;rename_i hx)
 refine Bw ?_;try (refine pre ?_;intros;rename_i hx)
 apply Jr (γ:=Unit) hx [] (fun s2 y2 f=>f) [999] (fun s2 y2 l=>l);exact kk
 ·intro s2 y2 hx;exact au
 ·intro _ hx;try (refine pre ?_;intros;rename_i hx)
  apply Lr (γ:=Unit) hx [5,6] (fun s0 y0 f=>(7,.int .i64 (s0))::f) [999] (fun s0 y0 l=>l) ();exact kk;exact sk;intro s0 y0 x0 hx _;unfold Ju at hx
  try (refine pre ?_;intros;rename_i hx)
  refine Cq1 (s:=8) hx rfl (fun _ hx=>?_) (fun _ hx=>?_)
  ·try (refine pre ?_;intros;rename_i hx)
   apply Jr (γ:=Unit) hx [5,6,7] (fun s1 y1 f=>(28,.bool (s1))::f) [999] (fun s1 y1 l=>l);exact kk
   ·intro s1 y1 hx;exact au
   ·intro _ hx;exact au
  ·exact au⟩
set_option maxRecDepth 100000 in
instance exact_sign_int__c (p0:Int):Con (Jv p0) Tryz.prog 135 (fun _ vs=>vs=[.int .i64 (p0)]) (fun _ r=>fun v Ln=>v = .int .i64 (r)/\Ln=[]/\True):=⟨by
 rintro _ _ r rfl hx w hK;unfold Jv at hx;refine CtS Tryz.ntmps135 Tryz.results135 ?_;exact au⟩
set_option maxRecDepth 100000 in
instance exact_cross_c (p0:Ac) (p1:Ac) (p2:Ac):Con (Kb p0 p1 p2) Tryz.prog 136 (fun _ vs=>vs=[.agg #[.int .i64 (p0.X),.int .i64 (p0.Y)],.agg #[.int .i64 (p1.X),.int .i64 (p1.Y)],.agg #[.int .i64 (p2.X),.int .i64 (p2.Y)]]) (fun _ r=>fun v Ln=>v = .int .i64 (r)/\Ln=[]/\True):=⟨by
 rintro _ _ r rfl hx w hK;unfold Kb at hx;refine CtS Tryz.ntmps136 Tryz.results136 ?_;exact au⟩
set_option maxRecDepth 100000 in
instance exact_Turn_c (p0:Ac) (p1:Ac) (p2:Ac):Con (Ps p0 p1 p2) Tryz.prog 77 (fun _ vs=>vs=[.agg #[.int .i64 (p0.X),.int .i64 (p0.Y)],.agg #[.int .i64 (p1.X),.int .i64 (p1.Y)],.agg #[.int .i64 (p2.X),.int .i64 (p2.Y)]]) (fun _ r=>fun v Ln=>v = .tuple #[.int .i64 (r.1),.int .i64 (r.2)]/\Ln=[]/\True):=⟨by
 rintro _ _ r rfl hx w hK;unfold Ps at hx;refine CtS Tryz.ntmps77 Tryz.results77 ?_;exact au⟩
set_option maxRecDepth 100000 in
instance exact_lift_c (p0:Ac) (p1:Ac):Con (Oi p0 p1) Tryz.prog 279 (fun _ vs=>vs=[.agg #[.int .i64 (p0.X),.int .i64 (p0.Y)],.agg #[.int .i64 (p1.X),.int .i64 (p1.Y)]]) (fun _ r=>fun v Ln=>v = .int .i64 (r)/\Ln=[]/\True):=⟨by
 rintro _ _ r rfl hx w hK;unfold Oi at hx;have:=dl 1 [0,1,0,1,0,0,1,0,1,0,2,2] [0,1,2,3,4,5,6,7,8,9,10,11];refine CtS Tryz.ntmps279 Tryz.results279 ?_;exact au⟩
set_option maxHeartbeats 1000000 in
set_option maxRecDepth 100000 in
instance exact_Circle_c (p0:Ac) (p1:Ac) (p2:Ac) (p3:Ac):Con (Ov p0 p1 p2 p3) Tryz.prog 240 (fun _ vs=>vs=[.agg #[.int .i64 (p0.X),.int .i64 (p0.Y)],.agg #[.int .i64 (p1.X),.int .i64 (p1.Y)],.agg #[.int .i64 (p2.X),.int .i64 (p2.Y)],.agg #[.int .i64 (p3.X),.int .i64 (p3.Y)]]) (fun _ r=>fun v Ln=>v = .tuple #[.int .i64 (r.1),.int .i64 (r.2)]/\Ln=[]/\True):=⟨by
 rintro _ _ r rfl hx w hK;unfold Ov at hx;have:=dl 6 [1,1,2,2,1,1,1,2,2,2,4,3] [0,1,4,5,6,2,3,7,8,9,10,11] [10];have:=dl 7 [1,1,1,2,2,1,1,1,2,2,2,2,3] [0,1,2,5,6,7,3,4,8,9,10,11,12];have:=dl 8 [1,1,1,2,2,1,1,1,2,2,2,2,3] [0,1,2,5,6,7,3,4,8,9,10,11,12];refine CtS Tryz.ntmps240 Tryz.results240 ?_;try (refine pre ?_;intros;rename_i hx)
 refine Cq4 (s:=18) hx rfl (fun _ hx=>?_) (fun _ hx=>?_)
 ·exact au
 ·try (refine pre ?_;intros;rename_i hx)
  refine Cq1 (s:=25) hx rfl (fun _ hx=>?_) (fun _ hx=>?_)
  ·exact au
  ·exact au⟩
set_option maxRecDepth 100000 in
instance exact_Valid_c (p0:Ak):Con (Sf p0) Tryz.prog 236 (fun _ vs=>vs=[.agg #[.int .i64 (p0.Lo),.int .i64 (p0.Hi)]]) (fun _ r=>fun v Ln=>v = .bool (r)/\Ln=[]/\True):=⟨by
 rintro _ _ r rfl hx w hK;unfold Sf at hx;refine CtS Tryz.ntmps236 Tryz.results236 ?_;exact au⟩
set_option maxRecDepth 100000 in
instance Anc (p0:Ab):Con (Da p0) Tryz.prog 64 (fun _ vs=>vs=[.agg #[.int .i64 (p0.X),.int .i64 (p0.Y),.int .i64 (p0.Z.Lo),.int .i64 (p0.Z.Hi)]]) (fun _ r=>fun v Ln=>v = .agg #[.int .i64 (r.X),.int .i64 (r.Y)]/\Ln=[]/\True):=⟨by
 rintro _ _ r rfl hx w hK;unfold Da at hx;refine CtS Tryz.ntmps64 Tryz.results64 ?_;exact au⟩
theorem Uc (p0:Ab)  {r:Ac} (hx:Da p0=some r) (w:World):CtL Tryz.prog 64 [.agg #[.int .i64 (p0.X),.int .i64 (p0.Y),.int .i64 (p0.Z.Lo),.int .i64 (p0.Z.Hi)]] w fun v Ln=>v = .agg #[.int .i64 (r.X),.int .i64 (r.Y)]/\Ln=[]/\True:=(Anc p0).h [] _ _ rfl hx w (fun _ h=>absurd h List.not_mem_nil)
set_option maxRecDepth 100000 in
instance Ae3 (p0:Ac) (p1:Ac):Con (Ef p0 p1) Tryz.prog 172 (fun _ vs=>vs=[.agg #[.int .i64 (p0.X),.int .i64 (p0.Y)],.agg #[.int .i64 (p1.X),.int .i64 (p1.Y)]]) (fun _ r=>fun v Ln=>v = .bool (r)/\Ln=[]/\True):=⟨by
 rintro _ _ r rfl hx w hK;unfold Ef at hx;refine CtS Tryz.ntmps172 Tryz.results172 ?_;exact au⟩
theorem Vi (p0:Ac) (p1:Ac)  {r:Bool} (hx:Ef p0 p1=some r) (w:World):CtL Tryz.prog 172 [.agg #[.int .i64 (p0.X),.int .i64 (p0.Y)],.agg #[.int .i64 (p1.X),.int .i64 (p1.Y)]] w fun v Ln=>v = .bool (r)/\Ln=[]/\True:=(Ae3 p0 p1).h [] _ _ rfl hx w (fun _ h=>absurd h List.not_mem_nil)
set_option maxRecDepth 100000 in
instance mesh_turn_c (p0:Ac) (p1:Ac) (p2:Ac):Con (Hk p0 p1 p2) Tryz.prog 166 (fun _ vs=>vs=[.agg #[.int .i64 (p0.X),.int .i64 (p0.Y)],.agg #[.int .i64 (p1.X),.int .i64 (p1.Y)],.agg #[.int .i64 (p2.X),.int .i64 (p2.Y)]]) (fun _ r=>fun v Ln=>v = .int .i64 (r)/\Ln=[]/\True):=⟨by
 rintro _ _ r rfl hx w hK;unfold Hk at hx;refine CtS Tryz.ntmps166 Tryz.results166 ?_;exact au⟩
set_option maxHeartbeats 1000000 in
set_option maxRecDepth 100000 in
instance mesh_good_c (p0:Ab):Con (Ta p0) Tryz.prog 164 (fun _ vs=>vs=[.agg #[.int .i64 (p0.X),.int .i64 (p0.Y),.int .i64 (p0.Z.Lo),.int .i64 (p0.Z.Hi)]]) (fun _ r=>fun v Ln=>v = .bool (r)/\Ln=[]/\True):=⟨by
 rintro _ _ r rfl hx w hK;unfold Ta at hx;have:=dl 1 [1,2,1,2,1,2,2,0,0,0,2,2] [0,2,4,1,3,5,6,7,8,9,10,11];refine CtS Tryz.ntmps164 Tryz.results164 ?_;exact au⟩
set_option maxRecDepth 100000 in
instance Ahx (p0:Int) (p1:Int):Con (Dn p0 p1) Tryz.prog 118 (fun _ vs=>vs=[.int .i64 (p0),.int .i64 (p1)]) (fun _ r=>fun v Ln=>v = .agg #[.int .i64 (r.a0),.int .i64 (r.a1)]/\Ln=[]/\True):=⟨by
 rintro _ _ r rfl hx w hK;unfold Dn at hx;refine CtS Tryz.ntmps118 Tryz.results118 ?_;exact au⟩
theorem Zh (p0:Int) (p1:Int)  {r:Aa} (hx:Dn p0 p1=some r) (w:World):CtL Tryz.prog 118 [.int .i64 (p0),.int .i64 (p1)] w fun v Ln=>v = .agg #[.int .i64 (r.a0),.int .i64 (r.a1)]/\Ln=[]/\True:=(Ahx p0 p1).h [] _ _ rfl hx w (fun _ h=>absurd h List.not_mem_nil)
set_option maxRecDepth 100000 in
instance Agd (p0:Aa) (p1:Aa):Con (Rk p0 p1) Tryz.prog 51 (fun _ vs=>vs=[.agg #[.int .i64 (p0.a0),.int .i64 (p0.a1)],.agg #[.int .i64 (p1.a0),.int .i64 (p1.a1)]]) (fun _ r=>fun v Ln=>v = .int .i64 (r)/\Ln=[]/\True):=⟨by
 rintro _ _ r rfl hx w hK;unfold Rk at hx;refine CtS Tryz.ntmps51 Tryz.results51 ?_;exact au⟩
theorem Ss (p0:Aa) (p1:Aa)  {r:Int} (hx:Rk p0 p1=some r) (w:World):CtL Tryz.prog 51 [.agg #[.int .i64 (p0.a0),.int .i64 (p0.a1)],.agg #[.int .i64 (p1.a0),.int .i64 (p1.a1)]] w fun v Ln=>v = .int .i64 (r)/\Ln=[]/\True:=(Agd p0 p1).h [] _ _ rfl hx w (fun _ h=>absurd h List.not_mem_nil)
set_option maxHeartbeats 1000000 in
set_option maxRecDepth 100000 in
instance mesh_legal_c (p0:Ac) (p1:Ac) (p2:Ac) (p3:Ac):Con (Pu p0 p1 p2 p3) Tryz.prog 175 (fun _ vs=>vs=[.agg #[.int .i64 (p0.X),.int .i64 (p0.Y)],.agg #[.int .i64 (p1.X),.int .i64 (p1.Y)],.agg #[.int .i64 (p2.X),.int .i64 (p2.Y)],.agg #[.int .i64 (p3.X),.int .i64 (p3.Y)]]) (fun _ r=>fun v Ln=>v = .bool (r)/\Ln=[]/\True):=⟨by
 rintro _ _ r rfl hx w hK;unfold Pu at hx;refine CtS Tryz.ntmps175 Tryz.results175 ?_;try (refine pre ?_;intros;rename_i hx)
 refine Cq2 (s:=23) hx rfl (fun _ hx=>?_) (fun _ hx=>?_)
 ·exact au
 ·try (refine pre ?_;intros;rename_i hx)
  refine Bw ?_;try (refine pre ?_;intros;rename_i hx)
  apply Jr (γ:=(Nat)) hx [6,7] (fun s7 y7 f=>(11,.pointer (some ⟨y7,0,none⟩))::f) [1,2,999] (fun s7 y7 l=>.m y7 73 [.int .i64 (s7.1),.int .i64 (s7.2)]::l);exact kk
  ·intro s7 y7 hx;exact au
  ·intro _ hx;try (refine pre ?_;intros;rename_i hx)
   apply Lr (γ:=(Nat)) hx [6,7,30] (fun s0 y0 f=>(11,.pointer (some ⟨y0,0,none⟩))::(31,.int .i64 (s0.2.2))::f) [1,2,999] (fun s0 y0 l=>.m y0 73 [.int .i64 (s0.1),.int .i64 (s0.2.1)]::l) _;exact kk;exact sk;intro s0 y0 x0 hx _;unfold Sr at hx
   exact au⟩
end Go.Proofs.YtjfndjmabhbicaaGreat
