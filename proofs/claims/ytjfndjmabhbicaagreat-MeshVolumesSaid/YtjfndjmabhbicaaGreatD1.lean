/- Walks of the program, with their plain functions: numbers, turns, circles. -/
import Derived.Test.YtjfndjmabhbicaaGreatFlow19
import Derived.Test.YtjfndjmabhbicaaGreatProg
namespace Go.Proofs.YtjfndjmabhbicaaGreat
open Go Go.RowKit
theorem mixed:Tryz.prog.follows .mixedOrders=true:=by kernel_rfl
instance:MixI Tryz.prog:=⟨mixed⟩
theorem Aql:Kh Tryz.prog 193 245 1:=.mk Tryz.underlying193 (show Tryz.prog.info? 245=some Tryz.t245 from by kernel_rfl) (by kernel_rfl)
instance:Mj Tryz.prog 193 245 1:=⟨Aql⟩
theorem Adv:Qe Tryz.prog 245:=.mk Tryz.underlying245 rfl (show Tryz.prog.info? 245=some Tryz.t245 from by kernel_rfl) (by kernel_rfl)
instance:OneI Tryz.prog 245:=⟨Adv⟩
theorem Aar (x0:Int) (x1:Int):De Tryz.prog 193 2 [(0,.int .u32 x0),(1,.int .u32 x1)] 245 [.int .u32 x0,.int .u32 x1]:=fun w=>by kernel_rfl
instance (x0:Int) (x1:Int):Of Tryz.prog 193 2 [(0,.int .u32 x0),(1,.int .u32 x1)] 245 [.int .u32 x0,.int .u32 x1]:=⟨Aar _ _⟩
theorem Axm:Md Tryz.prog 195 [.bool (false),.slice (none) (0) (0),.slice (none) (0) (0)]:=⟨_,Tryz.zeroValue195,rfl⟩
instance:Tg Tryz.prog 195 [.bool (false),.slice (none) (0) (0),.slice (none) (0) (0)]:=⟨Axm⟩
theorem Ai5:Cw Tryz.prog 195 0 0:=.mk Tryz.underlying195 rfl rfl (show Tryz.prog.info? 4=some Tryz.t4 from by kernel_rfl) (show Tryz.t4.size=1 from by kernel_rfl) rfl
instance:Gd Tryz.prog 195 0 0:=⟨Ai5⟩
theorem one4:Qe Tryz.prog 4:=.mk Tryz.underlying4 rfl (show Tryz.prog.info? 4=some Tryz.t4 from by kernel_rfl) (by kernel_rfl)
instance:OneI Tryz.prog 4:=⟨one4⟩
theorem Aas:Cw Tryz.prog 195 1 1:=.mk Tryz.underlying195 rfl rfl (show Tryz.prog.info? 193=some Tryz.t193 from by kernel_rfl) (show Tryz.t193.size=1 from by kernel_rfl) rfl
instance:Gd Tryz.prog 195 1 1:=⟨Aas⟩
theorem Vo:Qe Tryz.prog 193:=.mk Tryz.underlying193 rfl (show Tryz.prog.info? 193=some Tryz.t193 from by kernel_rfl) (by kernel_rfl)
instance:OneI Tryz.prog 193:=⟨Vo⟩
theorem Un:Cw Tryz.prog 195 2 2:=.mk Tryz.underlying195 rfl rfl (show Tryz.prog.info? 193=some Tryz.t193 from by kernel_rfl) (show Tryz.t193.size=1 from by kernel_rfl) rfl
instance:Gd Tryz.prog 195 2 2:=⟨Un⟩
theorem Af2 (x0:Bool) (x1:Option Addr) (x2:Nat) (x3:Nat) (x4:Option Addr) (x5:Nat) (x6:Nat):Gs Tryz.prog 195 [(0,.bool x0),(1,.slice x1 x2 x3),(2,.slice x4 x5 x6)] [.bool x0,.slice x1 x2 x3,.slice x4 x5 x6]:=fun w=>by kernel_rfl
instance (x0:Bool) (x1:Option Addr) (x2:Nat) (x3:Nat) (x4:Option Addr) (x5:Nat) (x6:Nat):Lk Tryz.prog 195 [(0,.bool x0),(1,.slice x1 x2 x3),(2,.slice x4 x5 x6)] [.bool x0,.slice x1 x2 x3,.slice x4 x5 x6]:=⟨Af2 _ _ _ _ _ _ _⟩
theorem Ak5:Nf Tryz.prog 195 3:=.mk Tryz.underlying195 rfl (show Tryz.prog.info? 195=some Tryz.t195 from by kernel_rfl) (by kernel_rfl)
instance:AggI Tryz.prog 195 3:=⟨Ak5⟩
theorem Af3 (x0:Int):De Tryz.prog 193 1 [(0,.int .u32 x0)] 245 [.int .u32 x0]:=fun w=>by kernel_rfl
instance (x0:Int):Of Tryz.prog 193 1 [(0,.int .u32 x0)] 245 [.int .u32 x0]:=⟨Af3 _⟩
theorem Axn:Kh Tryz.prog 255 73 2:=.mk Tryz.underlying255 (show Tryz.prog.info? 73=some Tryz.t73 from by kernel_rfl) (by kernel_rfl)
instance:Mj Tryz.prog 255 73 2:=⟨Axn⟩
theorem Az9:Nf Tryz.prog 73 2:=.mk Tryz.underlying73 rfl (show Tryz.prog.info? 73=some Tryz.t73 from by kernel_rfl) (by kernel_rfl)
instance:AggI Tryz.prog 73 2:=⟨Az9⟩
theorem Baa:Md Tryz.prog 73 [.int .i64 (0),.int .i64 (0)]:=⟨_,Tryz.zeroValue73,rfl⟩
instance:Tg Tryz.prog 73 [.int .i64 (0),.int .i64 (0)]:=⟨Baa⟩
theorem Aud:Cw Tryz.prog 73 0 0:=.mk Tryz.underlying73 rfl rfl (show Tryz.prog.info? 3=some Tryz.t3 from by kernel_rfl) (show Tryz.t3.size=1 from by kernel_rfl) rfl
instance:Gd Tryz.prog 73 0 0:=⟨Aud⟩
theorem one3:Qe Tryz.prog 3:=.mk Tryz.underlying3 rfl (show Tryz.prog.info? 3=some Tryz.t3 from by kernel_rfl) (by kernel_rfl)
instance:OneI Tryz.prog 3:=⟨one3⟩
theorem Aue:Cw Tryz.prog 73 1 1:=.mk Tryz.underlying73 rfl rfl (show Tryz.prog.info? 3=some Tryz.t3 from by kernel_rfl) (show Tryz.t3.size=1 from by kernel_rfl) rfl
instance:Gd Tryz.prog 73 1 1:=⟨Aue⟩
theorem Ql (x0:Int) (x1:Int) (x2:Int) (x3:Int) (x4:Int) (x5:Int):De Tryz.prog 255 3 [(0,.agg #[.int .i64 x0,.int .i64 x1]),(1,.agg #[.int .i64 x2,.int .i64 x3]),(2,.agg #[.int .i64 x4,.int .i64 x5])] 73 [.int .i64 x0,.int .i64 x1,.int .i64 x2,.int .i64 x3,.int .i64 x4,.int .i64 x5]:=fun w=>by kernel_rfl
instance (x0:Int) (x1:Int) (x2:Int) (x3:Int) (x4:Int) (x5:Int):Of Tryz.prog 255 3 [(0,.agg #[.int .i64 x0,.int .i64 x1]),(1,.agg #[.int .i64 x2,.int .i64 x3]),(2,.agg #[.int .i64 x4,.int .i64 x5])] 73 [.int .i64 x0,.int .i64 x1,.int .i64 x2,.int .i64 x3,.int .i64 x4,.int .i64 x5]:=⟨Ql _ _ _ _ _ _⟩
theorem Nd (x0:Int) (x1:Int) (x2:Int) (x3:Int) (x4:Int) (x5:Int) (x6:Int) (x7:Int):De Tryz.prog 255 4 [(0,.agg #[.int .i64 x0,.int .i64 x1]),(1,.agg #[.int .i64 x2,.int .i64 x3]),(2,.agg #[.int .i64 x4,.int .i64 x5]),(3,.agg #[.int .i64 x6,.int .i64 x7])] 73 [.int .i64 x0,.int .i64 x1,.int .i64 x2,.int .i64 x3,.int .i64 x4,.int .i64 x5,.int .i64 x6,.int .i64 x7]:=fun w=>by kernel_rfl
instance (x0:Int) (x1:Int) (x2:Int) (x3:Int) (x4:Int) (x5:Int) (x6:Int) (x7:Int):Of Tryz.prog 255 4 [(0,.agg #[.int .i64 x0,.int .i64 x1]),(1,.agg #[.int .i64 x2,.int .i64 x3]),(2,.agg #[.int .i64 x4,.int .i64 x5]),(3,.agg #[.int .i64 x6,.int .i64 x7])] 73 [.int .i64 x0,.int .i64 x1,.int .i64 x2,.int .i64 x3,.int .i64 x4,.int .i64 x5,.int .i64 x6,.int .i64 x7]:=⟨Nd _ _ _ _ _ _ _ _⟩
theorem Auf:Cw Tryz.prog 68 0 0:=.mk Tryz.underlying68 rfl rfl (show Tryz.prog.info? 3=some Tryz.t3 from by kernel_rfl) (show Tryz.t3.size=1 from by kernel_rfl) rfl
instance:Gd Tryz.prog 68 0 0:=⟨Auf⟩
theorem Aug:Cw Tryz.prog 68 1 1:=.mk Tryz.underlying68 rfl rfl (show Tryz.prog.info? 3=some Tryz.t3 from by kernel_rfl) (show Tryz.t3.size=1 from by kernel_rfl) rfl
instance:Gd Tryz.prog 68 1 1:=⟨Aug⟩
theorem Auh:Cw Tryz.prog 70 0 0:=.mk Tryz.underlying70 rfl rfl (show Tryz.prog.info? 3=some Tryz.t3 from by kernel_rfl) (show Tryz.t3.size=1 from by kernel_rfl) rfl
instance:Gd Tryz.prog 70 0 0:=⟨Auh⟩
theorem Aui:Cw Tryz.prog 70 1 1:=.mk Tryz.underlying70 rfl rfl (show Tryz.prog.info? 3=some Tryz.t3 from by kernel_rfl) (show Tryz.t3.size=1 from by kernel_rfl) rfl
instance:Gd Tryz.prog 70 1 1:=⟨Aui⟩
theorem Adw (x0:Int) (x1:Int):Gs Tryz.prog 73 [(0,.int .i64 x0),(1,.int .i64 x1)] [.int .i64 x0,.int .i64 x1]:=fun w=>by kernel_rfl
instance (x0:Int) (x1:Int):Lk Tryz.prog 73 [(0,.int .i64 x0),(1,.int .i64 x1)] [.int .i64 x0,.int .i64 x1]:=⟨Adw _ _⟩
theorem Adx:Nf Tryz.prog 70 4:=.mk Tryz.underlying70 rfl (show Tryz.prog.info? 70=some Tryz.t70 from by kernel_rfl) (by kernel_rfl)
instance:AggI Tryz.prog 70 4:=⟨Adx⟩
theorem Auj:Cw Tryz.prog 70 2 2:=.mk Tryz.underlying70 rfl rfl (show Tryz.prog.info? 68=some Tryz.t68 from by kernel_rfl) (show Tryz.t68.size=2 from by kernel_rfl) rfl
instance:Gd Tryz.prog 70 2 2:=⟨Auj⟩
theorem Bab:Nf Tryz.prog 68 2:=.mk Tryz.underlying68 rfl (show Tryz.prog.info? 68=some Tryz.t68 from by kernel_rfl) (by kernel_rfl)
instance:AggI Tryz.prog 68 2:=⟨Bab⟩
theorem Ady:Md Tryz.prog 62 [.int .i64 (0),.int .i64 (0)]:=⟨_,Tryz.zeroValue62,rfl⟩
instance:Tg Tryz.prog 62 [.int .i64 (0),.int .i64 (0)]:=⟨Ady⟩
theorem Og (x0:Int) (x1:Int):Gs Tryz.prog 62 [(0,.int .i64 x0),(1,.int .i64 x1)] [.int .i64 x0,.int .i64 x1]:=fun w=>by kernel_rfl
instance (x0:Int) (x1:Int):Lk Tryz.prog 62 [(0,.int .i64 x0),(1,.int .i64 x1)] [.int .i64 x0,.int .i64 x1]:=⟨Og _ _⟩
theorem Re:Nf Tryz.prog 62 2:=.arr Tryz.underlying62 (show Tryz.prog.info? 62=some Tryz.t62 from by kernel_rfl) (by kernel_rfl)
instance:AggI Tryz.prog 62 2:=⟨Re⟩
theorem Qd:Acs Tryz.prog 62 2 1:=.mk Tryz.underlying62 (show Tryz.prog.info? 3=some Tryz.t3 from by kernel_rfl) (by kernel_rfl)
instance:ArrI Tryz.prog 62 2 1:=⟨Qd⟩
theorem Rd (x0:Int) (x1:Int) (x2:Int) (x3:Int) (x4:Int) (x5:Int):Gs Tryz.prog 271 [(0,.agg #[.int .i64 x0,.int .i64 x1]),(1,.agg #[.int .i64 x2,.int .i64 x3]),(2,.agg #[.int .i64 x4,.int .i64 x5])] [.int .i64 x0,.int .i64 x1,.int .i64 x2,.int .i64 x3,.int .i64 x4,.int .i64 x5]:=fun w=>by kernel_rfl
instance (x0:Int) (x1:Int) (x2:Int) (x3:Int) (x4:Int) (x5:Int):Lk Tryz.prog 271 [(0,.agg #[.int .i64 x0,.int .i64 x1]),(1,.agg #[.int .i64 x2,.int .i64 x3]),(2,.agg #[.int .i64 x4,.int .i64 x5])] [.int .i64 x0,.int .i64 x1,.int .i64 x2,.int .i64 x3,.int .i64 x4,.int .i64 x5]:=⟨Rd _ _ _ _ _ _⟩
theorem Bac (a0:Int) (a1:Int) (b0:Int) (b1:Int):∀ w,(Op.equalIn 10000 73 (.agg #[.int .i64 (a0),.int .i64 (a1)]) (.agg #[.int .i64 (b0),.int .i64 (b1)])).run Tryz.prog w = .ok ((((a0) == (b0)) && (((a1) == (b1)) && true))) w :=
 EqF.struct Tryz.underlying73 (by kernel_rfl) (.cons rfl (fun w=>by kernel_rfl) (fun w=>by kernel_rfl) (fun w=>run_equalIn_int w 9998 3 .i64 .i64 _ _ Tryz.underlying3) (.cons rfl (fun w=>by kernel_rfl) (fun w=>by kernel_rfl) (fun w=>run_equalIn_int w 9998 3 .i64 .i64 _ _ Tryz.underlying3) (EqF.nil)))
instance (a0:Int) (a1:Int) (b0:Int) (b1:Int):EqSI Tryz.prog 73 [.int .i64 (a0),.int .i64 (a1)] [.int .i64 (b0),.int .i64 (b1)] ((((a0) == (b0)) && (((a1) == (b1)) && true))):=⟨Bac _ _ _ _,by kernel_rfl⟩
instance:UndI Tryz.prog 193 (.slice 245):=⟨Tryz.underlying193⟩
def Ao (x:Int):List Value:=[.int .u32 (x)]
instance (x0:Int):DecI Ao [.int .u32 (x0)] (x0):=⟨rfl⟩
instance:EncI 245 Ao:=⟨trivial⟩
noncomputable def Oa  : (List Int)->Option (Sum (List Int) (List Int)):=fun s0=>
 jn (fun (s6:Bool)=>
 if s6=true then (gd (0<=(w64 (((((s0).length:Nat):Int))-1))/\(w64 (((((s0).length:Nat):Int))-1))<=(((s0).length:Nat):Int)) <|
 some (.inl (subl s0 0 (w64 (((((s0).length:Nat):Int))-1)))))
 else (some (.inr s0)))
 (fun j6=>if 0 < ((((s0).length:Nat):Int)) then (bnd (idx s0 (w64 (((((s0).length:Nat):Int))-1))) fun x0=>
 j6 (decide (x0=0)))
 else (j6 false))
noncomputable def Bz (p0:List Int):Option (List Int) :=
 jn (fun (s2:List Int)=>
 some s2)
 (fun j2=>bnd (lfix (Oa) p0) fun t0=>
 j2 t0)
instance:UndI Tryz.prog 185 (.int .u64):=⟨Tryz.underlying185⟩
instance:UndI Tryz.prog 245 (.int .u32):=⟨Tryz.underlying245⟩
noncomputable def Oh (p0:Int):Option (List Int) :=
 bnd (Bz ([wu32 (p0),wu32 (shr_ .u64 p0 32)])) fun r3=>
 some r3
noncomputable def Kn (p0:Int) (p1:Int) (p2:Int):Option (Int × Int) :=
 some (wu32 (wu64 ((wu64 ((wu64 (p0))+(wu64 (p1))))+(wu64 (p2)))),wu32 (shr_ .u64 (wu64 ((wu64 ((wu64 (p0))+(wu64 (p1))))+(wu64 (p2)))) 32))
noncomputable def Ko (p0:Int) (p1:Int) (p2:Int):Option (Int × Int) :=
 some (wu32 ((wu32 (p0-p1))-p2),shr_ .u32 (Aad .u32 (Px .u32 (Yr .u32 (if IntKind.signed .u32 then -1 else IntKind.max .u32) p0) p1) (Px .u32 (Yr .u32 (if IntKind.signed .u32 then -1 else IntKind.max .u32) (Yr .u32 p0 p1)) (wu32 ((wu32 (p0-p1))-p2)))) 31)
instance:MkI Tryz.prog 193 245 1 4 Ao 0:=⟨Tryz.t245,.int .u32 (0),Tryz.underlying193,by kernel_rfl,by kernel_rfl,rfl,by kernel_rfl,by kernel_rfl⟩
noncomputable def Jf (p1:List Int) (s0:(List Int) × Int) (x0:Int):((List Int) × Int × Int)->Option (Sum ((List Int) × Int × Int) ((List Int) × Int)):=fun s1=>
 if s1.2.2 < ((((p1).length:Nat):Int)) then (bnd (idx p1 s1.2.2) fun x1=>
 bnd (idx s1.1 (w64 (s0.2+s1.2.2))) fun x2=>
 bnd (idx s1.1 (w64 (s0.2+s1.2.2))) fun x3=>
 some (.inl (setI s1.1 (w64 (s0.2+s1.2.2)) (wu32 (wu64 ((wu64 ((wu64 ((wu64 (x0))*(wu64 (x1))))+(wu64 (x2))))+s1.2.1))),shr_ .u64 (wu64 ((wu64 ((wu64 ((wu64 (x0))*(wu64 (x1))))+(wu64 (x2))))+s1.2.1)) 32,w64 (s1.2.2+1))))
 else (some (.inr (s1.1,s1.2.1)))
noncomputable def Jg (p0:List Int) (p1:List Int):((List Int) × Int)->Option (Sum ((List Int) × Int) (List Int)):=fun s0=>
 if s0.2 < ((((p0).length:Nat):Int)) then (bnd (idx p0 s0.2) fun x0=>
 jn (fun (s1:(List Int) × Int)=>
 bnd (idx s1.1 (w64 (s0.2+((((p1).length:Nat):Int))))) fun x1=>
 some (.inl (setI s1.1 (w64 (s0.2+((((p1).length:Nat):Int)))) (wu32 (s1.2)),w64 (s0.2+1))))
 (fun j0=>bnd (lfix (Jf p1 s0 x0) (s0.1,0,0)) fun t0=>
 j0 t0))
 else (some (.inr s0.1))
noncomputable def Co (p0:List Int) (p1:List Int):Option (List Int) :=
 gd ((0:Int)<=(w64 (((((p0).length:Nat):Int))+((((p1).length:Nat):Int))))/\4*Int.toNat (w64 (((((p0).length:Nat):Int))+((((p1).length:Nat):Int))))<=140737488355328) <|
 jn (fun (s3:List Int)=>
 bnd (Bz s3) fun r0=>
 some r0)
 (fun j3=>bnd (lfix (Jg p0 p1) (List.replicate (Int.toNat (w64 (((((p0).length:Nat):Int))+((((p1).length:Nat):Int))))) (0:Int),0)) fun t0=>
 j3 t0)
noncomputable def Pb (p0:List Int) (p1:List Int):Int->Option (Sum Int (Sum Unit Int)):=fun s0=>
 if 0<=s0 then (bnd (idx p0 s0) fun x0=>
 bnd (idx p1 s0) fun x1=>
 if x0=x1 then (some (.inl (w64 (s0-1))))
 else (bnd (idx p0 s0) fun x2=>
 bnd (idx p1 s0) fun x3=>
 if x2 < x3 then (some (.inr (.inr (-1))))
 else (some (.inr (.inr (1))))))
 else (some (.inr (.inl ())))
noncomputable def Np (p0:List Int) (p1:List Int):Option Int :=
 if ((((p0).length:Nat):Int))=((((p1).length:Nat):Int)) then (jn (fun (s8:Unit)=>
 some 0)
 (fun j8=>bnd (lfix (Pb p0 p1) (w64 (((((p0).length:Nat):Int))-1))) fun t0=>
 (match t0 with
 | (.inl z0)=>j8 z0
 | (.inr (z0))=>some z0
 )))
 else (if ((((p0).length:Nat):Int)) < ((((p1).length:Nat):Int)) then (some (-1))
 else (some 1))
noncomputable def Jh (s2:(List Int) × (List Int)):((List Int) × Int × Int)->Option (Sum ((List Int) × Int × Int) ((List Int) × Int)):=fun s0=>
 if s0.2.2 < ((((s2.1).length:Nat):Int)) then (jn (fun (s1:Int)=>
 bnd (idx s2.1 s0.2.2) fun x0=>
 bnd (Kn x0 s1 s0.2.1) fun r0=>
 bnd (idx s0.1 s0.2.2) fun x1=>
 some (.inl (setI s0.1 s0.2.2 r0.1,r0.2,w64 (s0.2.2+1))))
 (fun j0=>if s0.2.2 < ((((s2.2).length:Nat):Int)) then (bnd (idx s2.2 s0.2.2) fun x2=>
 j0 x2)
 else (j0 0)))
 else (some (.inr (s0.1,s0.2.1)))
noncomputable def Nq (p0:List Int) (p1:List Int):Option (List Int) :=
 jn (fun (s2:(List Int) × (List Int))=>
 gd ((0:Int)<=(w64 (((((s2.1).length:Nat):Int))+1))/\4*Int.toNat (w64 (((((s2.1).length:Nat):Int))+1))<=140737488355328) <|
 jn (fun (s6:(List Int) × Int)=>
 bnd (idx s6.1 ((((s2.1).length:Nat):Int))) fun x0=>
 bnd (Bz (setI s6.1 ((((s2.1).length:Nat):Int)) s6.2)) fun r0=>
 some r0)
 (fun j6=>bnd (lfix (Jh s2) (List.replicate (Int.toNat (w64 (((((s2.1).length:Nat):Int))+1))) (0:Int),0,0)) fun t0=>
 j6 t0))
 (fun j2=>if ((((p0).length:Nat):Int)) < ((((p1).length:Nat):Int)) then (j2 (p1,p0))
 else (j2 (p0,p1)))
noncomputable def Lv (p0:List Int) (p1:List Int):((List Int) × Int × Int)->Option (Sum ((List Int) × Int × Int) (List Int)):=fun s0=>
 if s0.2.2 < ((((p0).length:Nat):Int)) then (jn (fun (s1:Int)=>
 bnd (idx p0 s0.2.2) fun x0=>
 bnd (Ko x0 s1 s0.2.1) fun r0=>
 bnd (idx s0.1 s0.2.2) fun x1=>
 some (.inl (setI s0.1 s0.2.2 r0.1,r0.2,w64 (s0.2.2+1))))
 (fun j0=>if s0.2.2 < ((((p1).length:Nat):Int)) then (bnd (idx p1 s0.2.2) fun x2=>
 j0 x2)
 else (j0 0)))
 else (some (.inr s0.1))
noncomputable def Li (p0:List Int) (p1:List Int):Option (List Int) :=
 gd ((0:Int)<=((((p0).length:Nat):Int))/\4*Int.toNat ((((p0).length:Nat):Int))<=140737488355328) <|
 jn (fun (s4:List Int)=>
 bnd (Bz s4) fun r0=>
 some r0)
 (fun j4=>bnd (lfix (Lv p0 p1) (List.replicate (Int.toNat ((((p0).length:Nat):Int))) (0:Int),0,0)) fun t0=>
 j4 t0)
structure Av where
 neg:Bool
 n:List Int
 d:List Int
instance:UndI Tryz.prog 4 (.bool):=⟨Tryz.underlying4⟩
noncomputable def Dv (p0:Av) (p1:Av):Option Av :=
 bnd (Co p0.n p1.n) fun r4=>
 bnd (Co p0.d p1.d) fun r0=>
 some (⟨!((p0.neg) == (p1.neg)),r4,r0⟩:Av)
noncomputable def Fv (p0:Av) (p1:Av):Option Av :=
 bnd (Co p0.n p1.d) fun r4=>
 bnd (Co p1.n p0.d) fun r0=>
 bnd (Co p0.d p1.d) fun r1=>
 if ((p0.neg) == (p1.neg))=true then (bnd (Nq r4 r0) fun r2=>
 some (⟨p0.neg,r2,r1⟩:Av))
 else (bnd (Np r4 r0) fun r3=>
 if 0<=r3 then (bnd (Li r4 r0) fun r5=>
 some (⟨p0.neg,r5,r1⟩:Av))
 else (bnd (Li r0 r4) fun r6=>
 some (⟨p1.neg,r6,r1⟩:Av)))
noncomputable def Lw (p0:Av):Option Int :=
 if ((((p0.n).length:Nat):Int))=0 then (some 0)
 else (if p0.neg=true then (some (-1))
 else (some 1))
instance:UndI Tryz.prog 3 (.int .i64):=⟨Tryz.underlying3⟩
noncomputable def Ji (p0:Int):Option Av :=
 if p0 < 0 then (bnd (Oh (wu64 ((wu64 (w64 (-(w64 (p0+1)))))+1))) fun r4=>
 some (⟨true,r4,[1]⟩:Av))
 else (bnd (Oh (wu64 (p0))) fun r0=>
 some (⟨false,r0,[1]⟩:Av))
structure Ac where
 X:Int
 Y:Int
instance:UndI Tryz.prog 255 (.slice 73):=⟨Tryz.underlying255⟩
noncomputable def Kq (p0:List Ac):Int->Option (Sum Int (Sum Unit Bool)):=fun s0=>
 if s0 < ((((p0).length:Nat):Int)) then (bnd (idx p0 s0) fun x0=>
 jn (fun (s1:Bool)=>
 if s1=true then (some (.inr (.inr (false))))
 else (some (.inl (w64 (s0+1)))))
 (fun j0=>if x0.X < (-268435456) then (j0 true)
 else (if 268435456 < x0.X then (j0 true)
 else (if x0.Y < (-268435456) then (j0 true)
 else (j0 (decide (268435456 < x0.Y)))))))
 else (some (.inr (.inl ())))
noncomputable def Pd (p0:List Ac):Option Bool :=
 jn (fun (s2:Unit)=>
 some true)
 (fun j2=>bnd (lfix (Kq p0) 0) fun t0=>
 (match t0 with
 | (.inl z0)=>j2 z0
 | (.inr (z0))=>some z0
 ))
def Adz (x:Ac):List Value:=[.int .i64 (x.X),.int .i64 (x.Y)]
instance (x0:Int) (x1:Int):DecI Adz [.int .i64 (x0),.int .i64 (x1)] (⟨x0,x1⟩):=⟨rfl⟩
instance:EncI 73 Adz:=⟨trivial⟩
noncomputable def Kr (p0:Int):Option Int :=
 if p0 < 0 then (some (-1))
 else (if 0 < p0 then (some 1)
 else (some 0))
noncomputable def Kw (p0:Ac) (p1:Ac) (p2:Ac):Option Int :=
 some (w64 ((w64 ((w64 (p1.X-p0.X))*(w64 (p2.Y-p0.Y))))-(w64 ((w64 (p1.Y-p0.Y))*(w64 (p2.X-p0.X))))))
structure Al where
 Lo:Int
 Hi:Int
structure Ab where
 X:Int
 Y:Int
 Z:Al
structure Ai where
 Neg:Bool
 L:List Int
structure Am where
 N:Ai
 D:List Int
structure S_lidarref06_Spot where
 X:Am
 Y:Am
noncomputable def Rg (p0:Ac) (p1:Ac) (p2:Ac):Option (Int × Int) :=
 bnd (Pd ([p0,p1,p2])) fun r6=>
 if r6=true then (bnd (Kw p0 p1 p2) fun r0=>
 bnd (Kr r0) fun r1=>
 some (r1,0))
 else (some (0,11))
noncomputable def Pz (p0:Ac) (p1:Ac):Option Int :=
 some (w64 ((w64 ((w64 (p0.X-p1.X))*(w64 (p0.X-p1.X))))+(w64 ((w64 (p0.Y-p1.Y))*(w64 (p0.Y-p1.Y))))))
noncomputable def Qm (p0:Ac) (p1:Ac) (p2:Ac) (p3:Ac):Option (Int × Int) :=
 bnd (Pd ([p0,p1,p2,p3])) fun r7=>
 if r7=true then (bnd (Kw p0 p1 p2) fun r0=>
 bnd (Kr r0) fun r1=>
 if r1=0 then (some (0,12))
 else (bnd (Pz p0 p3) fun r2=>
 bnd (Ji r2) fun r3=>
 bnd (Kw p3 p1 p2) fun r4=>
 bnd (Ji r4) fun r5=>
 bnd (Dv r3 r5) fun r6=>
 bnd (Pz p1 p3) fun r8=>
 bnd (Ji r8) fun r9=>
 bnd (Kw p3 p2 p0) fun r81=>
 bnd (Ji r81) fun r84=>
 bnd (Dv r9 r84) fun r98=>
 bnd (Fv r6 r98) fun r10=>
 bnd (Pz p2 p3) fun r11=>
 bnd (Ji r11) fun r12=>
 bnd (Kw p3 p0 p1) fun r14=>
 bnd (Ji r14) fun r15=>
 bnd (Dv r12 r15) fun r17=>
 bnd (Fv r10 r17) fun r18=>
 bnd (Lw r18) fun r19=>
 some (w64 (r1*r19),0)))
 else (some (0,11))
noncomputable def Tq (p0:Al):Option Bool :=
 jn (fun (s2:Bool)=>
 some s2)
 (fun j2=>if (-1152921504606846976)<=p0.Lo then (if p0.Lo<=p0.Hi then (j2 (decide (p0.Hi<=1152921504606846976)))
 else (j2 false))
 else (j2 false))
noncomputable def Cu (p0:Ab):Option Ac :=
 some (⟨p0.X,p0.Y⟩:Ac)
noncomputable def Eo (p0:Ac) (p1:Ac):Option Bool :=
 jn (fun (s2:Bool)=>
 some s2)
 (fun j2=>if p0.X < p1.X then (j2 true)
 else (if p0.X=p1.X then (j2 (decide (p0.Y < p1.Y)))
 else (j2 false)))
noncomputable def Ib (p0:Ac) (p1:Ac) (p2:Ac):Option Int :=
 bnd (Rg p0 p1 p2) fun r4=>
 some r4.1
structure As where
 Neg:Bool
 Num:List Int
 Den:List Int
structure S_api_Stop where
 At:As
 In:Bool
 Lo:As
 Hi:As
noncomputable def Uo (p0:Ab):Option Bool :=
 bnd (Cu (⟨p0.X,p0.Y,(⟨p0.Z.Lo,p0.Z.Hi⟩:Al)⟩:Ab)) fun r2=>
 bnd (Cu (⟨p0.X,p0.Y,(⟨p0.Z.Lo,p0.Z.Hi⟩:Al)⟩:Ab)) fun r5=>
 bnd (Cu (⟨p0.X,p0.Y,(⟨p0.Z.Lo,p0.Z.Hi⟩:Al)⟩:Ab)) fun r8=>
 bnd (Rg r2 r5 r8) fun r0=>
 jn (fun (s3:Bool)=>
 some s3)
 (fun j3=>if r0.2=0 then (bnd (Tq (⟨p0.Z.Lo,p0.Z.Hi⟩:Al)) fun r1=>
 if r1=true then (if (-268435456)<=p0.Z.Lo then (j3 (decide (p0.Z.Hi<=268435456)))
 else (j3 false))
 else (j3 false))
 else (j3 false))
structure Aa where
 a0:Int
 a1:Int
noncomputable def Fh (p0:Int) (p1:Int):Option Aa :=
 some (⟨min p0 p1,max p0 p1⟩:Aa)
noncomputable def Su (p0:Aa) (p1:Aa):Option Int :=
 if p0.a0=p1.a0 then (some (w64 (p0.a1-p1.a1)))
 else (some (w64 (p0.a0-p1.a0)))
theorem Axo (x0:Int) (x1:Int) (x2:Int) (x3:Int) (x4:Int) (x5:Int):Ah8 Tryz.prog 271 [.int .i64 x0,.int .i64 x1,.int .i64 x2,.int .i64 x3,.int .i64 x4,.int .i64 x5] [.agg #[.int .i64 x0,.int .i64 x1],.agg #[.int .i64 x2,.int .i64 x3],.agg #[.int .i64 x4,.int .i64 x5]]:=by
 intro j h k w
 have h':j < 3:=h
 match j,h,h' with
 | 0,_,_=>exact (show (Instr.index 271 (.agg ([.int .i64 x0,.int .i64 x1,.int .i64 x2,.int .i64 x3,.int .i64 x4,.int .i64 x5]:List Value).toArray) (.int k ((0:Nat):Int))).run Tryz.prog w = .ok (.agg #[.int .i64 x0,.int .i64 x1]) w by kernel_rfl)
 | 1,_,_=>exact (show (Instr.index 271 (.agg ([.int .i64 x0,.int .i64 x1,.int .i64 x2,.int .i64 x3,.int .i64 x4,.int .i64 x5]:List Value).toArray) (.int k ((1:Nat):Int))).run Tryz.prog w = .ok (.agg #[.int .i64 x2,.int .i64 x3]) w by kernel_rfl)
 | 2,_,_=>exact (show (Instr.index 271 (.agg ([.int .i64 x0,.int .i64 x1,.int .i64 x2,.int .i64 x3,.int .i64 x4,.int .i64 x5]:List Value).toArray) (.int k ((2:Nat):Int))).run Tryz.prog w = .ok (.agg #[.int .i64 x4,.int .i64 x5]) w by kernel_rfl)
def Pm (x:Ac):Value:=.agg #[.int .i64 (x.X),.int .i64 (x.Y)]
theorem Aat (x y:Ac) (h:Pm x=Pm y):x=y:=by
 rcases x with ⟨_,_⟩;rcases y with ⟨_,_⟩;simp[Pm] at h;simp[h]
instance (x:Ac):UnfI Pm x (.agg #[.int .i64 (x.X),.int .i64 (x.Y)]):=⟨rfl⟩
instance (x0:Int) (x1:Int):Abn Pm (.agg #[.int .i64 (x0),.int .i64 (x1)]) (⟨x0,x1⟩):=⟨rfl⟩
instance:ValI Tryz.prog 73 Pm ((⟨0,0⟩:Ac)):=⟨Aat,fun w=>by kernel_rfl⟩
instance (x0:Int) (x1:Int) (x2:Int) (x3:Int) (x4:Int) (x5:Int):Atf Tryz.prog 271 [.int .i64 x0,.int .i64 x1,.int .i64 x2,.int .i64 x3,.int .i64 x4,.int .i64 x5] Pm [(⟨x0,x1⟩:Ac),(⟨x2,x3⟩:Ac),(⟨x4,x5⟩:Ac)]:=⟨Axo _ _ _ _ _ _⟩
noncomputable def Ud (p1:Ac) (p2:Ac) (p3:Ac):(Int × Int × Int)->Option (Sum (Int × Int × Int) (Int × Int)):=fun s0=>
 if s0.2.2 < 3 then (jn (fun (s1:Int × Int)=>
 some (.inl (s1.1,s1.2,w64 (s0.2.2+1))))
 (fun j0=>bnd (idx [p1,p2,p3] s0.2.2) fun x0=>
 bnd (Eo x0 (⟨s0.1,s0.2.1⟩:Ac)) fun r0=>
 if r0=true then (j0 (x0.X,x0.Y))
 else (j0 (s0.1,s0.2.1))))
 else (some (.inr (s0.1,s0.2.1)))
noncomputable def Rh (p0:Ac) (p1:Ac) (p2:Ac) (p3:Ac):Option Bool :=
 bnd (Qm p0 p1 p2 p3) fun r5=>
 if r5.1=0 then (jn (fun (s7:Int × Int)=>
 jn (fun (s0:Bool)=>
 some s0)
 (fun j0=>if ((((s7.1) == (p2.X)) && (((s7.2) == (p2.Y)) && true)))=true then (j0 true)
 else (j0 (((s7.1) == (p3.X)) && (((s7.2) == (p3.Y)) && true)))))
 (fun j7=>bnd (lfix (Ud p1 p2 p3) (p0.X,p0.Y,0)) fun t0=>
 j7 t0))
 else (some (decide (r5.1 < 0)))
set_option maxHeartbeats 1000000 in
set_option maxRecDepth 100000 in
instance ratio_nat_norm_c (p0:List Int):ConB (Bz p0) Tryz.prog 215 (fun K vs=>∃ (A0_0:Option Addr) (c0_0:Nat),vs=[.slice (A0_0) ((p0).length) (c0_0)]/\Has K A0_0 (p0).length c0_0 1 Ao (p0)/\True) (fun K r=>fun v Ln=>∃ (A0:Option Addr) (c0:Nat) (e:Ent),v = .slice (A0) ((r).length) (c0)/\Ln=[e]/\Has (K++[e]) A0 (r).length c0 1 Ao (r)/\True):=⟨by
 rintro K _ r ⟨A0_0,c0_0,rfl,ha0,-⟩ hx w hK;unfold Bz at hx;refine CtS Tryz.ntmps215 Tryz.results215 ?_;try (refine pre ?_;intros;rename_i hx)
 refine Bn ?_;try (refine pre ?_;intros;rename_i hx)
 apply JrG (γ:=(Option Addr) × Nat) hx [] (fun s2 y2 f=>(0,.slice (y2.1) ((s2).length) (y2.2))::f) [999] (fun s2 y2 l=>l) (fun s2 y2=>Has K (y2.1) ((s2).length) (y2.2) 1 Ao (s2)/\True);exact kk
 ·intro s2 y2 hx hG;obtain ⟨_,-⟩:=hG;exact au
 ·intro _ hx;try (refine pre ?_;intros;rename_i hx)
  apply LrG (γ:=(Option Addr) × Nat) hx [] (fun s0 y0 f=>(0,.slice (y0.1) ((s0).length) (y0.2))::f) [999] (fun s0 y0 l=>l) (fun s0 y0=>Has K (y0.1) ((s0).length) (y0.2) 1 Ao (s0)/\True) (_,_);exact kk;exact sF2;exact gG;exact pK2;intro s0 y0 x0 hx _ hG;obtain ⟨_,-⟩:=hG;unfold Oa at hx
  exact au⟩

set_option maxRecDepth 100000 in
instance ratio_natOf_c (p0:Int):ConB (Oh p0) Tryz.prog 211 (fun _ vs=>vs=[.int .u64 (p0)]) (fun K r=>fun v Ln=>∃ (A0:Option Addr) (c0:Nat) (e:Ent),v = .slice (A0) ((r).length) (c0)/\Ln=[e]/\Has (K++[e]) A0 (r).length c0 1 Ao (r)/\True):=⟨by
 rintro K _ r rfl hx w hK;unfold Oh at hx;refine CtS Tryz.ntmps211 Tryz.results211 ?_;exact au⟩

set_option maxRecDepth 100000 in
instance math_bits_Add32_c (p0:Int) (p1:Int) (p2:Int):Con (Kn p0 p1 p2) Tryz.prog 290 (fun _ vs=>vs=[.int .u32 (p0),.int .u32 (p1),.int .u32 (p2)]) (fun _ r=>fun v Ln=>v = .tuple #[.int .u32 (r.1),.int .u32 (r.2)]/\Ln=[]/\True):=⟨by
 rintro _ _ r rfl hx w hK;unfold Kn at hx;refine CtS Tryz.ntmps290 Tryz.results290 ?_;exact au⟩
set_option maxRecDepth 100000 in
instance math_bits_Sub32_c (p0:Int) (p1:Int) (p2:Int):Con (Ko p0 p1 p2) Tryz.prog 291 (fun _ vs=>vs=[.int .u32 (p0),.int .u32 (p1),.int .u32 (p2)]) (fun _ r=>fun v Ln=>v = .tuple #[.int .u32 (r.1),.int .u32 (r.2)]/\Ln=[]/\True):=⟨by
 rintro _ _ r rfl hx w hK;unfold Ko at hx;refine CtS Tryz.ntmps291 Tryz.results291 ?_;exact au⟩
set_option maxHeartbeats 1000000 in
set_option maxRecDepth 100000 in
instance ratio_nat_mul_c (p0:List Int) (p1:List Int):ConB (Co p0 p1) Tryz.prog 253 (fun K vs=>∃ (A0_0:Option Addr) (c0_0:Nat) (A0_1:Option Addr) (c0_1:Nat),vs=[.slice (A0_0) ((p0).length) (c0_0),.slice (A0_1) ((p1).length) (c0_1)]/\Has K A0_0 (p0).length c0_0 1 Ao (p0)/\Has K A0_1 (p1).length c0_1 1 Ao (p1)/\True) (fun K r=>fun v Ln=>∃ (A0:Option Addr) (c0:Nat) (e:Ent),v = .slice (A0) ((r).length) (c0)/\Ln=[e]/\Has (K++[e]) A0 (r).length c0 1 Ao (r)/\True):=⟨by
 rintro K _ r ⟨A0_0,c0_0,A0_1,c0_1,rfl,ha0,ha1,-⟩ hx w hK;unfold Co at hx;refine CtS Tryz.ntmps253 Tryz.results253 ?_;try (refine pre ?_;intros;rename_i hx)
 apply Jr (γ:=(Option Addr) × Nat) hx [] (fun s3 y3 f=>(5,.slice (y3.1) ((s3).length) (y3.2))::f) [999] (fun s3 y3 l=>.r (y3.1) ((s3).length) (y3.2) 245 1 ((s3).flatMap Ao)::l);exact kk
 ·intro s3 y3 hx;exact au
 ·intro _ hx;try (refine pre ?_;intros;rename_i hx)
  apply Lr (γ:=(Option Addr) × Nat) hx [1,18,19] (fun s0 y0 f=>(5,.slice (y0.1) ((s0.1).length) (y0.2))::(20,.int .i64 (s0.2))::f) [999] (fun s0 y0 l=>.r (y0.1) ((s0.1).length) (y0.2) 245 1 ((s0.1).flatMap Ao)::l) (_,_);exact kk;exact sk;intro s0 y0 x0 hx _;unfold Jg at hx
  try (refine pre ?_;intros;rename_i hx)
  refine Cq1 (s:=21) hx rfl (fun _ hx=>?_) (fun _ hx=>?_)
  ·try (refine pre ?_;intros;rename_i hx)
   refine Bn ?_;try (refine pre ?_;intros;rename_i hx)
   apply Jr (γ:=(Option Addr) × Nat) hx [1,6,18,19,20] (fun s1 y1 f=>(5,.slice (y1.1) ((s1.1).length) (y1.2))::(8,.int .u64 (s1.2))::f) [999] (fun s1 y1 l=>.r (y1.1) ((s1.1).length) (y1.2) 245 1 ((s1.1).flatMap Ao)::l);exact kk
   ·intro s1 y1 hx;exact au
   ·intro _ hx;try (refine pre ?_;intros;rename_i hx)
    apply Lr (γ:=(Option Addr) × Nat) hx [1,6,7,18,19,20,25,26] (fun s2 y2 f=>(5,.slice (y2.1) ((s2.1).length) (y2.2))::(8,.int .u64 (s2.2.1))::(27,.int .i64 (s2.2.2))::f) [999] (fun s2 y2 l=>.r (y2.1) ((s2.1).length) (y2.2) 245 1 ((s2.1).flatMap Ao)::l) (_,_);exact kk;exact sk;intro s2 y2 x1 hx _;unfold Jf at hx
    exact au
  ·exact au⟩

set_option maxHeartbeats 1000000 in
set_option maxRecDepth 100000 in
instance ratio_nat_cmp_c (p0:List Int) (p1:List Int):Con (Np p0 p1) Tryz.prog 255 (fun K vs=>∃ (A0_0:Option Addr) (c0_0:Nat) (A0_1:Option Addr) (c0_1:Nat),vs=[.slice (A0_0) ((p0).length) (c0_0),.slice (A0_1) ((p1).length) (c0_1)]/\Has K A0_0 (p0).length c0_0 1 Ao (p0)/\Has K A0_1 (p1).length c0_1 1 Ao (p1)/\True) (fun _ r=>fun v Ln=>v = .int .i64 (r)/\Ln=[]/\True):=⟨by
 rintro K _ r ⟨A0_0,c0_0,A0_1,c0_1,rfl,ha0,ha1,-⟩ hx w hK;replace ha0:=Has.lo ha0 hK;replace ha1:=Has.lo ha1 hK;unfold Np at hx;have:=dl 8 [0,0,0,1,0,0,0,1,0] [0,1,2,3,4,5,6,7,8];have:=dl 9 [0,0,0,1,0,0,0,1,0] [0,1,2,3,4,5,6,7,8];refine CtS Tryz.ntmps255 Tryz.results255 ?_;try (refine pre ?_;intros;rename_i hx)
 refine Cq2 (s:=10) hx rfl (fun _ hx=>?_) (fun _ hx=>?_)
 ·exact au
 ·try (refine pre ?_;intros;rename_i hx)
  apply Jr (γ:=Unit) hx [] (fun s8 y8 f=>f) [999] (fun s8 y8 l=>l);exact kk
  ·intro s8 y8 hx;exact au
  ·intro _ hx;try (refine pre ?_;intros;rename_i hx)
   apply Lr (γ:=Unit) hx [0,1] (fun s61 y61 f=>(5,.int .i64 (s61))::f) [999] (fun s61 y61 l=>l) ();exact kk;exact sk;intro s61 y61 x61 hx _;unfold Pb at hx
   exact au⟩
set_option maxHeartbeats 1000000 in
set_option maxRecDepth 100000 in
instance ratio_nat_add_c (p0:List Int) (p1:List Int):ConB (Nq p0 p1) Tryz.prog 254 (fun K vs=>∃ (A0_0:Option Addr) (c0_0:Nat) (A0_1:Option Addr) (c0_1:Nat),vs=[.slice (A0_0) ((p0).length) (c0_0),.slice (A0_1) ((p1).length) (c0_1)]/\Has K A0_0 (p0).length c0_0 1 Ao (p0)/\Has K A0_1 (p1).length c0_1 1 Ao (p1)/\True) (fun K r=>fun v Ln=>∃ (A0:Option Addr) (c0:Nat) (e:Ent),v = .slice (A0) ((r).length) (c0)/\Ln=[e]/\Has (K++[e]) A0 (r).length c0 1 Ao (r)/\True):=⟨by
 rintro K _ r ⟨A0_0,c0_0,A0_1,c0_1,rfl,ha0,ha1,-⟩ hx w hK;unfold Nq at hx;refine CtS Tryz.ntmps254 Tryz.results254 ?_;try (refine pre ?_;intros;rename_i hx)
 refine Bn ?_;try (refine pre ?_;intros;rename_i hx)
 apply JrG (γ:=(Option Addr) × Nat × (Option Addr) × Nat) hx [] (fun s2 y2 f=>(0,.slice (y2.1) ((s2.1).length) (y2.2.1))::(1,.slice (y2.2.2.1) ((s2.2).length) (y2.2.2.2))::f) [999] (fun s2 y2 l=>l) (fun s2 y2=>Has K (y2.1) ((s2.1).length) (y2.2.1) 1 Ao (s2.1)/\Has K (y2.2.2.1) ((s2.2).length) (y2.2.2.2) 1 Ao (s2.2)/\True);exact kk
 ·intro s2 y2 hx hG;obtain ⟨_,_,-⟩:=hG;try (refine pre ?_;intros;rename_i hx)
  refine Bn ?_;try (refine pre ?_;intros;rename_i hx)
  apply Jr (γ:=(Option Addr) × Nat) hx [0] (fun s6 y6 f=>(5,.slice (y6.1) ((s6.1).length) (y6.2))::(6,.int .u32 (s6.2))::f) [999] (fun s6 y6 l=>.r (y6.1) ((s6.1).length) (y6.2) 245 1 ((s6.1).flatMap Ao)::l);exact kk
  ·intro s6 y6 hx;exact au
  ·intro _ hx;try (refine pre ?_;intros;rename_i hx)
   apply Lr (γ:=(Option Addr) × Nat) hx [0,1,21] (fun s0 y0 f=>(5,.slice (y0.1) ((s0.1).length) (y0.2))::(6,.int .u32 (s0.2.1))::(22,.int .i64 (s0.2.2))::f) [999] (fun s0 y0 l=>.r (y0.1) ((s0.1).length) (y0.2) 245 1 ((s0.1).flatMap Ao)::l) (_,_);exact kk;exact sk;intro s0 y0 x0 hx _;unfold Jh at hx
   exact au
 ·intro _ hx;exact au⟩

set_option maxHeartbeats 1000000 in
set_option maxRecDepth 100000 in
instance ratio_nat_sub_c (p0:List Int) (p1:List Int):ConB (Li p0 p1) Tryz.prog 256 (fun K vs=>∃ (A0_0:Option Addr) (c0_0:Nat) (A0_1:Option Addr) (c0_1:Nat),vs=[.slice (A0_0) ((p0).length) (c0_0),.slice (A0_1) ((p1).length) (c0_1)]/\Has K A0_0 (p0).length c0_0 1 Ao (p0)/\Has K A0_1 (p1).length c0_1 1 Ao (p1)/\True) (fun K r=>fun v Ln=>∃ (A0:Option Addr) (c0:Nat) (e:Ent),v = .slice (A0) ((r).length) (c0)/\Ln=[e]/\Has (K++[e]) A0 (r).length c0 1 Ao (r)/\True):=⟨by
 rintro K _ r ⟨A0_0,c0_0,A0_1,c0_1,rfl,ha0,ha1,-⟩ hx w hK;unfold Li at hx;refine CtS Tryz.ntmps256 Tryz.results256 ?_;try (refine pre ?_;intros;rename_i hx)
 refine Bn ?_;try (refine pre ?_;intros;rename_i hx)
 apply Jr (γ:=(Option Addr) × Nat) hx [] (fun s4 y4 f=>(5,.slice (y4.1) ((s4).length) (y4.2))::f) [999] (fun s4 y4 l=>.r (y4.1) ((s4).length) (y4.2) 245 1 ((s4).flatMap Ao)::l);exact kk
 ·intro s4 y4 hx;exact au
 ·intro _ hx;try (refine pre ?_;intros;rename_i hx)
  apply Lr (γ:=(Option Addr) × Nat) hx [0,1,13] (fun s0 y0 f=>(5,.slice (y0.1) ((s0.1).length) (y0.2))::(6,.int .u32 (s0.2.1))::(14,.int .i64 (s0.2.2))::f) [999] (fun s0 y0 l=>.r (y0.1) ((s0.1).length) (y0.2) 245 1 ((s0.1).flatMap Ao)::l) (_,_);exact kk;exact sk;intro s0 y0 x0 hx _;unfold Lv at hx
  exact au⟩

set_option maxRecDepth 100000 in
instance Adc (p0:Av) (p1:Av):ConB (Dv p0 p1) Tryz.prog 206 (fun K vs=>∃ (A0_0:Option Addr) (c0_0:Nat) (A0_1:Option Addr) (c0_1:Nat) (A0_2:Option Addr) (c0_2:Nat) (A0_3:Option Addr) (c0_3:Nat),vs=[.agg #[.bool (p0.neg),.slice (A0_0) ((p0.n).length) (c0_0),.slice (A0_1) ((p0.d).length) (c0_1)],.agg #[.bool (p1.neg),.slice (A0_2) ((p1.n).length) (c0_2),.slice (A0_3) ((p1.d).length) (c0_3)]]/\Has K A0_0 (p0.n).length c0_0 1 Ao (p0.n)/\Has K A0_1 (p0.d).length c0_1 1 Ao (p0.d)/\Has K A0_2 (p1.n).length c0_2 1 Ao (p1.n)/\Has K A0_3 (p1.d).length c0_3 1 Ao (p1.d)/\True) (fun K r=>fun v Ln=>∃ (A0:Option Addr) (c0:Nat) (A2:Option Addr) (c2:Nat) (e:Ent),v = .agg #[.bool (r.neg),.slice (A0) ((r.n).length) (c0),.slice (A2) ((r.d).length) (c2)]/\Ln=[e]/\Has (K++[e]) A0 (r.n).length c0 1 Ao (r.n)/\Has (K++[e]) A2 (r.d).length c2 1 Ao (r.d)/\True):=⟨by
 rintro K _ r ⟨A0_0,c0_0,A0_1,c0_1,A0_2,c0_2,A0_3,c0_3,rfl,ha0,ha1,ha2,ha3,-⟩ hx w hK;unfold Dv at hx;have:=dl 1 [0,1,0,1,0,0,1,0,1,2,0,1,0,1,2,0,3] [0,1,2,3,4,5,6,7,8,10,11,12,13,9,14,15,16];refine CtS Tryz.ntmps206 Tryz.results206 ?_;exact au⟩
theorem Abs (p0:Av) (p1:Av) {K:List Ent} {A0_0:Option Addr} {c0_0:Nat} {A0_1:Option Addr} {c0_1:Nat} {A0_2:Option Addr} {c0_2:Nat} {A0_3:Option Addr} {c0_3:Nat} (ha0:Has K A0_0 (p0.n).length c0_0 1 Ao (p0.n)) (ha1:Has K A0_1 (p0.d).length c0_1 1 Ao (p0.d)) (ha2:Has K A0_2 (p1.n).length c0_2 1 Ao (p1.n)) (ha3:Has K A0_3 (p1.d).length c0_3 1 Ao (p1.d)) {r:Av} (hx:Dv p0 p1=some r) (w:World) (hK:∀ e∈K,Ent.ok w e):CtL Tryz.prog 206 [.agg #[.bool (p0.neg),.slice (A0_0) ((p0.n).length) (c0_0),.slice (A0_1) ((p0.d).length) (c0_1)],.agg #[.bool (p1.neg),.slice (A0_2) ((p1.n).length) (c0_2),.slice (A0_3) ((p1.d).length) (c0_3)]] w fun v Ln=>∃ (A0:Option Addr) (c0:Nat) (A2:Option Addr) (c2:Nat) (e0:Ent) (e1:Ent),v = .agg #[.bool (r.neg),.slice (A0) ((r.n).length) (c0),.slice (A2) ((r.d).length) (c2)]/\Ln=[e0,e1]/\Has (K++[e0,e1]) A0 (r.n).length c0 1 Ao (r.n)/\Has (K++[e0,e1]) A2 (r.d).length c2 1 Ao (r.d)/\True:=CtL.pad 1 ((Adc p0 p1).h K _ _ ⟨A0_0,c0_0,A0_1,c0_1,A0_2,c0_2,A0_3,c0_3,rfl,ha0,ha1,ha2,ha3,trivial⟩ hx w hK) (by rintro _ _ ⟨_,_,_,_,_,rfl,rfl,h0,h1,-⟩;exact ⟨_,_,_,_,_,_,rfl,rfl,h0.padN 1,h1.padN 1,trivial⟩)

set_option maxHeartbeats 1000000 in
set_option maxRecDepth 100000 in
instance Add (p0:Av) (p1:Av):ConB (Fv p0 p1) Tryz.prog 205 (fun K vs=>∃ (A0_0:Option Addr) (c0_0:Nat) (A0_1:Option Addr) (c0_1:Nat) (A0_2:Option Addr) (c0_2:Nat) (A0_3:Option Addr) (c0_3:Nat),vs=[.agg #[.bool (p0.neg),.slice (A0_0) ((p0.n).length) (c0_0),.slice (A0_1) ((p0.d).length) (c0_1)],.agg #[.bool (p1.neg),.slice (A0_2) ((p1.n).length) (c0_2),.slice (A0_3) ((p1.d).length) (c0_3)]]/\Has K A0_0 (p0.n).length c0_0 1 Ao (p0.n)/\Has K A0_1 (p0.d).length c0_1 1 Ao (p0.d)/\Has K A0_2 (p1.n).length c0_2 1 Ao (p1.n)/\Has K A0_3 (p1.d).length c0_3 1 Ao (p1.d)/\True) (fun K r=>fun v Ln=>∃ (A0:Option Addr) (c0:Nat) (A2:Option Addr) (c2:Nat) (e:Ent),v = .agg #[.bool (r.neg),.slice (A0) ((r.n).length) (c0),.slice (A2) ((r.d).length) (c2)]/\Ln=[e]/\Has (K++[e]) A0 (r.n).length c0 1 Ao (r.n)/\Has (K++[e]) A2 (r.d).length c2 1 Ao (r.d)/\True):=⟨by
 rintro K _ r ⟨A0_0,c0_0,A0_1,c0_1,A0_2,c0_2,A0_3,c0_3,rfl,ha0,ha1,ha2,ha3,-⟩ hx w hK;unfold Fv at hx;have:=dl 1 [0,1,0,1,2,0,1,0,1,2,2,2] [0,1,2,3,5,6,7,8,4,9,10,11];have:=dl 4 [0,1,0,0,2,0,0,3] [0,1,2,3,5,4,6,7];have:=dl 6 [0,1,0,0,2,0,0,3] [0,1,2,3,5,4,6,7];have:=dl 7 [0,1,0,0,2,0,0,3] [0,1,2,3,5,4,6,7];refine CtS Tryz.ntmps205 Tryz.results205 ?_;try (refine pre ?_;intros;rename_i hx)
 refine Cq3 (s:=27) hx rfl (fun _ hx=>?_) (fun _ hx=>?_)
 ·exact au
 ·exact au⟩
theorem Abt (p0:Av) (p1:Av) {K:List Ent} {A0_0:Option Addr} {c0_0:Nat} {A0_1:Option Addr} {c0_1:Nat} {A0_2:Option Addr} {c0_2:Nat} {A0_3:Option Addr} {c0_3:Nat} (ha0:Has K A0_0 (p0.n).length c0_0 1 Ao (p0.n)) (ha1:Has K A0_1 (p0.d).length c0_1 1 Ao (p0.d)) (ha2:Has K A0_2 (p1.n).length c0_2 1 Ao (p1.n)) (ha3:Has K A0_3 (p1.d).length c0_3 1 Ao (p1.d)) {r:Av} (hx:Fv p0 p1=some r) (w:World) (hK:∀ e∈K,Ent.ok w e):CtL Tryz.prog 205 [.agg #[.bool (p0.neg),.slice (A0_0) ((p0.n).length) (c0_0),.slice (A0_1) ((p0.d).length) (c0_1)],.agg #[.bool (p1.neg),.slice (A0_2) ((p1.n).length) (c0_2),.slice (A0_3) ((p1.d).length) (c0_3)]] w fun v Ln=>∃ (A0:Option Addr) (c0:Nat) (A2:Option Addr) (c2:Nat) (e0:Ent) (e1:Ent) (e2:Ent) (e3:Ent),v = .agg #[.bool (r.neg),.slice (A0) ((r.n).length) (c0),.slice (A2) ((r.d).length) (c2)]/\Ln=[e0,e1,e2,e3]/\Has (K++[e0,e1,e2,e3]) A0 (r.n).length c0 1 Ao (r.n)/\Has (K++[e0,e1,e2,e3]) A2 (r.d).length c2 1 Ao (r.d)/\True:=CtL.pad 3 ((Add p0 p1).h K _ _ ⟨A0_0,c0_0,A0_1,c0_1,A0_2,c0_2,A0_3,c0_3,rfl,ha0,ha1,ha2,ha3,trivial⟩ hx w hK) (by rintro _ _ ⟨_,_,_,_,_,rfl,rfl,h0,h1,-⟩;exact ⟨_,_,_,_,_,_,_,_,rfl,rfl,h0.padN 3,h1.padN 3,trivial⟩)

set_option maxRecDepth 100000 in
instance ratio_Num_Sign_c (p0:Av):Con (Lw p0) Tryz.prog 217 (fun K vs=>∃ (A0_0:Option Addr) (c0_0:Nat) (A0_1:Option Addr) (c0_1:Nat),vs=[.agg #[.bool (p0.neg),.slice (A0_0) ((p0.n).length) (c0_0),.slice (A0_1) ((p0.d).length) (c0_1)]]/\Has K A0_0 (p0.n).length c0_0 1 Ao (p0.n)/\Has K A0_1 (p0.d).length c0_1 1 Ao (p0.d)/\True) (fun _ r=>fun v Ln=>v = .int .i64 (r)/\Ln=[]/\True):=⟨by
 rintro K _ r ⟨A0_0,c0_0,A0_1,c0_1,rfl,ha0,ha1,-⟩ hx w hK;replace ha0:=Has.lo ha0 hK;replace ha1:=Has.lo ha1 hK;unfold Lw at hx;refine CtS Tryz.ntmps217 Tryz.results217 ?_;exact au⟩
set_option maxRecDepth 100000 in
instance ratio_Int_c (p0:Int):ConB (Ji p0) Tryz.prog 138 (fun _ vs=>vs=[.int .i64 (p0)]) (fun K r=>fun v Ln=>∃ (A0:Option Addr) (c0:Nat) (A2:Option Addr) (c2:Nat) (e:Ent),v = .agg #[.bool (r.neg),.slice (A0) ((r.n).length) (c0),.slice (A2) ((r.d).length) (c2)]/\Ln=[e]/\Has (K++[e]) A0 (r.n).length c0 1 Ao (r.n)/\Has (K++[e]) A2 (r.d).length c2 1 Ao (r.d)/\True):=⟨by
 rintro K _ r rfl hx w hK;unfold Ji at hx;refine CtS Tryz.ntmps138 Tryz.results138 ?_;exact au⟩

set_option maxHeartbeats 1000000 in
set_option maxRecDepth 100000 in
instance exact_inside_c (p0:List Ac):Con (Pd p0) Tryz.prog 134 (fun K vs=>∃ (A0_0:Option Addr) (c0_0:Nat),vs=[.slice (A0_0) ((p0).length) (c0_0)]/\Has K A0_0 (p0).length c0_0 2 Adz (p0)/\True) (fun _ r=>fun v Ln=>v = .bool (r)/\Ln=[]/\True):=⟨by
 rintro K _ r ⟨A0_0,c0_0,rfl,ha0,-⟩ hx w hK;replace ha0:=Has.lo ha0 hK;unfold Pd at hx;refine CtS Tryz.ntmps134 Tryz.results134 ?_;try (refine pre ?_;intros;rename_i hx)
 refine Bn ?_;try (refine pre ?_;intros;rename_i hx)
 apply Jr (γ:=Unit) hx [] (fun s2 y2 f=>f) [999] (fun s2 y2 l=>l);exact kk
 ·intro s2 y2 hx;exact au
 ·intro _ hx;try (refine pre ?_;intros;rename_i hx)
  apply Lr (γ:=Unit) hx [5,6] (fun s0 y0 f=>(7,.int .i64 (s0))::f) [999] (fun s0 y0 l=>l) ();exact kk;exact sk;intro s0 y0 x0 hx _;unfold Kq at hx
  try (refine pre ?_;intros;rename_i hx)
  refine Cq1 (s:=8) hx rfl (fun _ hx=>?_) (fun _ hx=>?_)
  ·try (refine pre ?_;intros;rename_i hx)
   apply Jr (γ:=Unit) hx [5,6,7] (fun s1 y1 f=>(28,.bool (s1))::f) [999] (fun s1 y1 l=>l);exact kk
   ·intro s1 y1 hx;exact au
   ·intro _ hx;exact au
  ·exact au⟩
set_option maxRecDepth 100000 in
instance exact_sign_int__c (p0:Int):Con (Kr p0) Tryz.prog 135 (fun _ vs=>vs=[.int .i64 (p0)]) (fun _ r=>fun v Ln=>v = .int .i64 (r)/\Ln=[]/\True):=⟨by
 rintro _ _ r rfl hx w hK;unfold Kr at hx;refine CtS Tryz.ntmps135 Tryz.results135 ?_;exact au⟩
set_option maxRecDepth 100000 in
instance exact_cross_c (p0:Ac) (p1:Ac) (p2:Ac):Con (Kw p0 p1 p2) Tryz.prog 136 (fun _ vs=>vs=[.agg #[.int .i64 (p0.X),.int .i64 (p0.Y)],.agg #[.int .i64 (p1.X),.int .i64 (p1.Y)],.agg #[.int .i64 (p2.X),.int .i64 (p2.Y)]]) (fun _ r=>fun v Ln=>v = .int .i64 (r)/\Ln=[]/\True):=⟨by
 rintro _ _ r rfl hx w hK;unfold Kw at hx;refine CtS Tryz.ntmps136 Tryz.results136 ?_;exact au⟩
set_option maxRecDepth 100000 in
instance exact_Turn_c (p0:Ac) (p1:Ac) (p2:Ac):Con (Rg p0 p1 p2) Tryz.prog 77 (fun _ vs=>vs=[.agg #[.int .i64 (p0.X),.int .i64 (p0.Y)],.agg #[.int .i64 (p1.X),.int .i64 (p1.Y)],.agg #[.int .i64 (p2.X),.int .i64 (p2.Y)]]) (fun _ r=>fun v Ln=>v = .tuple #[.int .i64 (r.1),.int .i64 (r.2)]/\Ln=[]/\True):=⟨by
 rintro _ _ r rfl hx w hK;unfold Rg at hx;refine CtS Tryz.ntmps77 Tryz.results77 ?_;exact au⟩
set_option maxRecDepth 100000 in
instance exact_lift_c (p0:Ac) (p1:Ac):Con (Pz p0 p1) Tryz.prog 279 (fun _ vs=>vs=[.agg #[.int .i64 (p0.X),.int .i64 (p0.Y)],.agg #[.int .i64 (p1.X),.int .i64 (p1.Y)]]) (fun _ r=>fun v Ln=>v = .int .i64 (r)/\Ln=[]/\True):=⟨by
 rintro _ _ r rfl hx w hK;unfold Pz at hx;have:=dl 1 [0,1,0,1,0,0,1,0,1,0,2,2] [0,1,2,3,4,5,6,7,8,9,10,11];refine CtS Tryz.ntmps279 Tryz.results279 ?_;exact au⟩
set_option maxHeartbeats 1000000 in
set_option maxRecDepth 100000 in
instance exact_Circle_c (p0:Ac) (p1:Ac) (p2:Ac) (p3:Ac):Con (Qm p0 p1 p2 p3) Tryz.prog 240 (fun _ vs=>vs=[.agg #[.int .i64 (p0.X),.int .i64 (p0.Y)],.agg #[.int .i64 (p1.X),.int .i64 (p1.Y)],.agg #[.int .i64 (p2.X),.int .i64 (p2.Y)],.agg #[.int .i64 (p3.X),.int .i64 (p3.Y)]]) (fun _ r=>fun v Ln=>v = .tuple #[.int .i64 (r.1),.int .i64 (r.2)]/\Ln=[]/\True):=⟨by
 rintro _ _ r rfl hx w hK;unfold Qm at hx;have:=dl 6 [1,1,2,2,1,1,1,2,2,2,4,3] [0,1,4,5,6,2,3,7,8,9,10,11] [10];have:=dl 7 [1,1,1,2,2,1,1,1,2,2,2,2,3] [0,1,2,5,6,7,3,4,8,9,10,11,12];have:=dl 8 [1,1,1,2,2,1,1,1,2,2,2,2,3] [0,1,2,5,6,7,3,4,8,9,10,11,12];refine CtS Tryz.ntmps240 Tryz.results240 ?_;try (refine pre ?_;intros;rename_i hx)
 refine Cq4 (s:=18) hx rfl (fun _ hx=>?_) (fun _ hx=>?_)
 ·exact au
 ·try (refine pre ?_;intros;rename_i hx)
  refine Cq1 (s:=25) hx rfl (fun _ hx=>?_) (fun _ hx=>?_)
  ·exact au
  ·exact au⟩
set_option maxRecDepth 100000 in
instance exact_Valid_c (p0:Al):Con (Tq p0) Tryz.prog 236 (fun _ vs=>vs=[.agg #[.int .i64 (p0.Lo),.int .i64 (p0.Hi)]]) (fun _ r=>fun v Ln=>v = .bool (r)/\Ln=[]/\True):=⟨by
 rintro _ _ r rfl hx w hK;unfold Tq at hx;refine CtS Tryz.ntmps236 Tryz.results236 ?_;exact au⟩
set_option maxRecDepth 100000 in
instance Aoy (p0:Ab):Con (Cu p0) Tryz.prog 64 (fun _ vs=>vs=[.agg #[.int .i64 (p0.X),.int .i64 (p0.Y),.int .i64 (p0.Z.Lo),.int .i64 (p0.Z.Hi)]]) (fun _ r=>fun v Ln=>v = .agg #[.int .i64 (r.X),.int .i64 (r.Y)]/\Ln=[]/\True):=⟨by
 rintro _ _ r rfl hx w hK;unfold Cu at hx;refine CtS Tryz.ntmps64 Tryz.results64 ?_;exact au⟩
theorem Vp (p0:Ab)  {r:Ac} (hx:Cu p0=some r) (w:World):CtL Tryz.prog 64 [.agg #[.int .i64 (p0.X),.int .i64 (p0.Y),.int .i64 (p0.Z.Lo),.int .i64 (p0.Z.Hi)]] w fun v Ln=>v = .agg #[.int .i64 (r.X),.int .i64 (r.Y)]/\Ln=[]/\True:=(Aoy p0).h [] _ _ rfl hx w (fun _ h=>absurd h List.not_mem_nil)
set_option maxRecDepth 100000 in
instance Af4 (p0:Ac) (p1:Ac):Con (Eo p0 p1) Tryz.prog 172 (fun _ vs=>vs=[.agg #[.int .i64 (p0.X),.int .i64 (p0.Y)],.agg #[.int .i64 (p1.X),.int .i64 (p1.Y)]]) (fun _ r=>fun v Ln=>v = .bool (r)/\Ln=[]/\True):=⟨by
 rintro _ _ r rfl hx w hK;unfold Eo at hx;refine CtS Tryz.ntmps172 Tryz.results172 ?_;exact au⟩
theorem Xb (p0:Ac) (p1:Ac)  {r:Bool} (hx:Eo p0 p1=some r) (w:World):CtL Tryz.prog 172 [.agg #[.int .i64 (p0.X),.int .i64 (p0.Y)],.agg #[.int .i64 (p1.X),.int .i64 (p1.Y)]] w fun v Ln=>v = .bool (r)/\Ln=[]/\True:=(Af4 p0 p1).h [] _ _ rfl hx w (fun _ h=>absurd h List.not_mem_nil)
set_option maxRecDepth 100000 in
instance mesh_turn_c (p0:Ac) (p1:Ac) (p2:Ac):Con (Ib p0 p1 p2) Tryz.prog 166 (fun _ vs=>vs=[.agg #[.int .i64 (p0.X),.int .i64 (p0.Y)],.agg #[.int .i64 (p1.X),.int .i64 (p1.Y)],.agg #[.int .i64 (p2.X),.int .i64 (p2.Y)]]) (fun _ r=>fun v Ln=>v = .int .i64 (r)/\Ln=[]/\True):=⟨by
 rintro _ _ r rfl hx w hK;unfold Ib at hx;refine CtS Tryz.ntmps166 Tryz.results166 ?_;exact au⟩
set_option maxHeartbeats 1000000 in
set_option maxRecDepth 100000 in
instance mesh_good_c (p0:Ab):Con (Uo p0) Tryz.prog 164 (fun _ vs=>vs=[.agg #[.int .i64 (p0.X),.int .i64 (p0.Y),.int .i64 (p0.Z.Lo),.int .i64 (p0.Z.Hi)]]) (fun _ r=>fun v Ln=>v = .bool (r)/\Ln=[]/\True):=⟨by
 rintro _ _ r rfl hx w hK;unfold Uo at hx;have:=dl 1 [1,2,1,2,1,2,2,0,0,0,2,2] [0,2,4,1,3,5,6,7,8,9,10,11];refine CtS Tryz.ntmps164 Tryz.results164 ?_;exact au⟩
set_option maxRecDepth 100000 in
instance Ai6 (p0:Int) (p1:Int):Con (Fh p0 p1) Tryz.prog 118 (fun _ vs=>vs=[.int .i64 (p0),.int .i64 (p1)]) (fun _ r=>fun v Ln=>v = .agg #[.int .i64 (r.a0),.int .i64 (r.a1)]/\Ln=[]/\True):=⟨by
 rintro _ _ r rfl hx w hK;unfold Fh at hx;refine CtS Tryz.ntmps118 Tryz.results118 ?_;exact au⟩
theorem Aau (p0:Int) (p1:Int)  {r:Aa} (hx:Fh p0 p1=some r) (w:World):CtL Tryz.prog 118 [.int .i64 (p0),.int .i64 (p1)] w fun v Ln=>v = .agg #[.int .i64 (r.a0),.int .i64 (r.a1)]/\Ln=[]/\True:=(Ai6 p0 p1).h [] _ _ rfl hx w (fun _ h=>absurd h List.not_mem_nil)
set_option maxRecDepth 100000 in
instance Ahe (p0:Aa) (p1:Aa):Con (Su p0 p1) Tryz.prog 51 (fun _ vs=>vs=[.agg #[.int .i64 (p0.a0),.int .i64 (p0.a1)],.agg #[.int .i64 (p1.a0),.int .i64 (p1.a1)]]) (fun _ r=>fun v Ln=>v = .int .i64 (r)/\Ln=[]/\True):=⟨by
 rintro _ _ r rfl hx w hK;unfold Su at hx;refine CtS Tryz.ntmps51 Tryz.results51 ?_;exact au⟩
theorem Ue (p0:Aa) (p1:Aa)  {r:Int} (hx:Su p0 p1=some r) (w:World):CtL Tryz.prog 51 [.agg #[.int .i64 (p0.a0),.int .i64 (p0.a1)],.agg #[.int .i64 (p1.a0),.int .i64 (p1.a1)]] w fun v Ln=>v = .int .i64 (r)/\Ln=[]/\True:=(Ahe p0 p1).h [] _ _ rfl hx w (fun _ h=>absurd h List.not_mem_nil)
set_option maxHeartbeats 1000000 in
set_option maxRecDepth 100000 in
instance mesh_legal_c (p0:Ac) (p1:Ac) (p2:Ac) (p3:Ac):Con (Rh p0 p1 p2 p3) Tryz.prog 175 (fun _ vs=>vs=[.agg #[.int .i64 (p0.X),.int .i64 (p0.Y)],.agg #[.int .i64 (p1.X),.int .i64 (p1.Y)],.agg #[.int .i64 (p2.X),.int .i64 (p2.Y)],.agg #[.int .i64 (p3.X),.int .i64 (p3.Y)]]) (fun _ r=>fun v Ln=>v = .bool (r)/\Ln=[]/\True):=⟨by
 rintro _ _ r rfl hx w hK;unfold Rh at hx;refine CtS Tryz.ntmps175 Tryz.results175 ?_;try (refine pre ?_;intros;rename_i hx)
 refine Cq2 (s:=23) hx rfl (fun _ hx=>?_) (fun _ hx=>?_)
 ·exact au
 ·try (refine pre ?_;intros;rename_i hx)
  refine Bn ?_;try (refine pre ?_;intros;rename_i hx)
  apply Jr (γ:=(Nat)) hx [6,7] (fun s7 y7 f=>(11,.pointer (some ⟨y7,0,none⟩))::f) [1,2,999] (fun s7 y7 l=>.m y7 73 [.int .i64 (s7.1),.int .i64 (s7.2)]::l);exact kk
  ·intro s7 y7 hx;exact au
  ·intro _ hx;try (refine pre ?_;intros;rename_i hx)
   apply Lr (γ:=(Nat)) hx [6,7,30] (fun s0 y0 f=>(11,.pointer (some ⟨y0,0,none⟩))::(31,.int .i64 (s0.2.2))::f) [1,2,999] (fun s0 y0 l=>.m y0 73 [.int .i64 (s0.1),.int .i64 (s0.2.1)]::l) _;exact kk;exact sk;intro s0 y0 x0 hx _;unfold Ud at hx
   exact au⟩
end Go.Proofs.YtjfndjmabhbicaaGreat
