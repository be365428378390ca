/- Walks of the program, with their plain functions: points, rules, rings. -/
import Derived.Test.YtbkobeeileemjaaGreatFlow19
import Derived.Test.YtbkobeeileemjaaGreatProg
namespace Go.Proofs.YtbkobeeileemjaaGreat
open Go Go.RowKit
theorem mixed:Tryz.prog.follows .mixedOrders=true:=by kernel_rfl
instance:MixI Tryz.prog:=⟨mixed⟩
theorem Avo:Cd Tryz.prog 28 0 0:=.mk Tryz.underlying28 rfl rfl (show Tryz.prog.info? 3=some Tryz.t3 from by kernel_rfl) (show Tryz.t3.size=1 from by kernel_rfl) rfl
instance:Cx Tryz.prog 28 0 0:=⟨Avo⟩
theorem one3:Ml Tryz.prog 3:=.mk Tryz.underlying3 rfl (show Tryz.prog.info? 3=some Tryz.t3 from by kernel_rfl) (by kernel_rfl)
instance:OneI Tryz.prog 3:=⟨one3⟩
theorem Avp:Cd Tryz.prog 28 1 1:=.mk Tryz.underlying28 rfl rfl (show Tryz.prog.info? 3=some Tryz.t3 from by kernel_rfl) (show Tryz.t3.size=1 from by kernel_rfl) rfl
instance:Cx Tryz.prog 28 1 1:=⟨Avp⟩
theorem Ale:Ke Tryz.prog 28 [.int .i64 (0),.int .i64 (0)]:=⟨_,Tryz.zeroValue28,rfl⟩
instance:Td Tryz.prog 28 [.int .i64 (0),.int .i64 (0)]:=⟨Ale⟩
theorem Aom:Cd Tryz.prog 66 1 1:=.mk Tryz.underlying66 rfl rfl (show Tryz.prog.info? 3=some Tryz.t3 from by kernel_rfl) (show Tryz.t3.size=1 from by kernel_rfl) rfl
instance:Cx Tryz.prog 66 1 1:=⟨Aom⟩
theorem Aon:Cd Tryz.prog 66 2 2:=.mk Tryz.underlying66 rfl rfl (show Tryz.prog.info? 3=some Tryz.t3 from by kernel_rfl) (show Tryz.t3.size=1 from by kernel_rfl) rfl
instance:Cx Tryz.prog 66 2 2:=⟨Aon⟩
theorem Yi (x0:Int) (x1:Int):Gk Tryz.prog 28 [(0,.int .i64 x0),(1,.int .i64 x1)] [.int .i64 x0,.int .i64 x1]:=fun w=>by kernel_rfl
instance (x0:Int) (x1:Int):Ki Tryz.prog 28 [(0,.int .i64 x0),(1,.int .i64 x1)] [.int .i64 x0,.int .i64 x1]:=⟨Yi _ _⟩
theorem Er:Nk Tryz.prog 28 2:=.mk Tryz.underlying28 rfl (show Tryz.prog.info? 28=some Tryz.t28 from by kernel_rfl) (by kernel_rfl)
instance:AggI Tryz.prog 28 2:=⟨Er⟩
theorem Rd:Cd Tryz.prog 66 0 0:=.mk Tryz.underlying66 rfl rfl (show Tryz.prog.info? 3=some Tryz.t3 from by kernel_rfl) (show Tryz.t3.size=1 from by kernel_rfl) rfl
instance:Cx Tryz.prog 66 0 0:=⟨Rd⟩
theorem Fd:Nk Tryz.prog 66 9:=.mk Tryz.underlying66 rfl (show Tryz.prog.info? 66=some Tryz.t66 from by kernel_rfl) (by kernel_rfl)
instance:AggI Tryz.prog 66 9:=⟨Fd⟩
theorem Ajb:Cd Tryz.prog 66 3 3:=.mk Tryz.underlying66 rfl rfl (show Tryz.prog.info? 32=some Tryz.t32 from by kernel_rfl) (show Tryz.t32.size=2 from by kernel_rfl) rfl
instance:Cx Tryz.prog 66 3 3:=⟨Ajb⟩
theorem Wy:Cd Tryz.prog 32 0 0:=.mk Tryz.underlying32 rfl rfl (show Tryz.prog.info? 3=some Tryz.t3 from by kernel_rfl) (show Tryz.t3.size=1 from by kernel_rfl) rfl
instance:Cx Tryz.prog 32 0 0:=⟨Wy⟩
theorem Ui:Cd Tryz.prog 32 1 1:=.mk Tryz.underlying32 rfl rfl (show Tryz.prog.info? 3=some Tryz.t3 from by kernel_rfl) (show Tryz.t3.size=1 from by kernel_rfl) rfl
instance:Cx Tryz.prog 32 1 1:=⟨Ui⟩
theorem Avq:Cd Tryz.prog 66 4 5:=.mk Tryz.underlying66 rfl rfl (show Tryz.prog.info? 3=some Tryz.t3 from by kernel_rfl) (show Tryz.t3.size=1 from by kernel_rfl) rfl
instance:Cx Tryz.prog 66 4 5:=⟨Avq⟩
theorem Aoo:Cd Tryz.prog 66 5 6:=.mk Tryz.underlying66 rfl rfl (show Tryz.prog.info? 3=some Tryz.t3 from by kernel_rfl) (show Tryz.t3.size=1 from by kernel_rfl) rfl
instance:Cx Tryz.prog 66 5 6:=⟨Aoo⟩
theorem Ajc:Cd Tryz.prog 66 6 7:=.mk Tryz.underlying66 rfl rfl (show Tryz.prog.info? 3=some Tryz.t3 from by kernel_rfl) (show Tryz.t3.size=1 from by kernel_rfl) rfl
instance:Cx Tryz.prog 66 6 7:=⟨Ajc⟩
theorem Vr:Jj Tryz.prog 47 66 9:=.mk Tryz.underlying47 (show Tryz.prog.info? 66=some Tryz.t66 from by kernel_rfl) (by kernel_rfl)
instance:My Tryz.prog 47 66 9:=⟨Vr⟩
theorem Vs:Ke Tryz.prog 66 [.int .i64 (0),.int .i64 (0),.int .i64 (0),.int .i64 (0),.int .i64 (0),.int .i64 (0),.int .i64 (0),.int .i64 (0),.int .i64 (0)]:=⟨_,Tryz.zeroValue66,rfl⟩
instance:Td Tryz.prog 66 [.int .i64 (0),.int .i64 (0),.int .i64 (0),.int .i64 (0),.int .i64 (0),.int .i64 (0),.int .i64 (0),.int .i64 (0),.int .i64 (0)]:=⟨Vs⟩
theorem Avr:Cd Tryz.prog 54 1 1:=.mk Tryz.underlying54 rfl rfl (show Tryz.prog.info? 3=some Tryz.t3 from by kernel_rfl) (show Tryz.t3.size=1 from by kernel_rfl) rfl
instance:Cx Tryz.prog 54 1 1:=⟨Avr⟩
theorem Aop:Cd Tryz.prog 54 4 4:=.mk Tryz.underlying54 rfl rfl (show Tryz.prog.info? 3=some Tryz.t3 from by kernel_rfl) (show Tryz.t3.size=1 from by kernel_rfl) rfl
instance:Cx Tryz.prog 54 4 4:=⟨Aop⟩
theorem Aoq:Cd Tryz.prog 54 5 5:=.mk Tryz.underlying54 rfl rfl (show Tryz.prog.info? 3=some Tryz.t3 from by kernel_rfl) (show Tryz.t3.size=1 from by kernel_rfl) rfl
instance:Cx Tryz.prog 54 5 5:=⟨Aoq⟩
theorem Ajd:Cd Tryz.prog 54 6 6:=.mk Tryz.underlying54 rfl rfl (show Tryz.prog.info? 3=some Tryz.t3 from by kernel_rfl) (show Tryz.t3.size=1 from by kernel_rfl) rfl
instance:Cx Tryz.prog 54 6 6:=⟨Ajd⟩
theorem Aor:Cd Tryz.prog 54 7 7:=.mk Tryz.underlying54 rfl rfl (show Tryz.prog.info? 3=some Tryz.t3 from by kernel_rfl) (show Tryz.t3.size=1 from by kernel_rfl) rfl
instance:Cx Tryz.prog 54 7 7:=⟨Aor⟩
theorem Aos:Cd Tryz.prog 54 8 8:=.mk Tryz.underlying54 rfl rfl (show Tryz.prog.info? 3=some Tryz.t3 from by kernel_rfl) (show Tryz.t3.size=1 from by kernel_rfl) rfl
instance:Cx Tryz.prog 54 8 8:=⟨Aos⟩
theorem Qf (x0:Int) (x1:Int) (x2:Int) (x3:Int) (x4:Int) (x5:Int):Gk Tryz.prog 192 [(0,.int .i64 x0),(1,.int .i64 x1),(2,.int .i64 x2),(3,.int .i64 x3),(4,.int .i64 x4),(5,.int .i64 x5)] [.int .i64 x0,.int .i64 x1,.int .i64 x2,.int .i64 x3,.int .i64 x4,.int .i64 x5]:=fun w=>by kernel_rfl
instance (x0:Int) (x1:Int) (x2:Int) (x3:Int) (x4:Int) (x5:Int):Ki Tryz.prog 192 [(0,.int .i64 x0),(1,.int .i64 x1),(2,.int .i64 x2),(3,.int .i64 x3),(4,.int .i64 x4),(5,.int .i64 x5)] [.int .i64 x0,.int .i64 x1,.int .i64 x2,.int .i64 x3,.int .i64 x4,.int .i64 x5]:=⟨Qf _ _ _ _ _ _⟩
theorem Aje:Cd Tryz.prog 54 0 0:=.mk Tryz.underlying54 rfl rfl (show Tryz.prog.info? 3=some Tryz.t3 from by kernel_rfl) (show Tryz.t3.size=1 from by kernel_rfl) rfl
instance:Cx Tryz.prog 54 0 0:=⟨Aje⟩
theorem Avs:Cd Tryz.prog 54 2 2:=.mk Tryz.underlying54 rfl rfl (show Tryz.prog.info? 3=some Tryz.t3 from by kernel_rfl) (show Tryz.t3.size=1 from by kernel_rfl) rfl
instance:Cx Tryz.prog 54 2 2:=⟨Avs⟩
theorem Aot:Cd Tryz.prog 54 3 3:=.mk Tryz.underlying54 rfl rfl (show Tryz.prog.info? 3=some Tryz.t3 from by kernel_rfl) (show Tryz.t3.size=1 from by kernel_rfl) rfl
instance:Cx Tryz.prog 54 3 3:=⟨Aot⟩
theorem Aou:Cd Tryz.prog 54 9 9:=.mk Tryz.underlying54 rfl rfl (show Tryz.prog.info? 3=some Tryz.t3 from by kernel_rfl) (show Tryz.t3.size=1 from by kernel_rfl) rfl
instance:Cx Tryz.prog 54 9 9:=⟨Aou⟩
theorem Tg:Nk Tryz.prog 54 10:=.mk Tryz.underlying54 rfl (show Tryz.prog.info? 54=some Tryz.t54 from by kernel_rfl) (by kernel_rfl)
instance:AggI Tryz.prog 54 10:=⟨Tg⟩
theorem By (x0:Int) (x1:Int) (x2:Int) (x3:Int) (x4:Int) (x5:Int) (x6:Int) (x7:Int) (x8:Int):Da Tryz.prog 47 1 [(0,.agg #[.int .i64 x0,.int .i64 x1,.int .i64 x2,.int .i64 x3,.int .i64 x4,.int .i64 x5,.int .i64 x6,.int .i64 x7,.int .i64 x8])] 66 [.int .i64 x0,.int .i64 x1,.int .i64 x2,.int .i64 x3,.int .i64 x4,.int .i64 x5,.int .i64 x6,.int .i64 x7,.int .i64 x8]:=fun w=>by kernel_rfl
instance (x0:Int) (x1:Int) (x2:Int) (x3:Int) (x4:Int) (x5:Int) (x6:Int) (x7:Int) (x8:Int):Ky Tryz.prog 47 1 [(0,.agg #[.int .i64 x0,.int .i64 x1,.int .i64 x2,.int .i64 x3,.int .i64 x4,.int .i64 x5,.int .i64 x6,.int .i64 x7,.int .i64 x8])] 66 [.int .i64 x0,.int .i64 x1,.int .i64 x2,.int .i64 x3,.int .i64 x4,.int .i64 x5,.int .i64 x6,.int .i64 x7,.int .i64 x8]:=⟨By _ _ _ _ _ _ _ _ _⟩
theorem Ah0:Ux Tryz.prog 47 66 9 72:=⟨Tryz.underlying47,⟨Tryz.t66,.agg #[.int .i64 (0),.int .i64 (0),.int .i64 (0),.int .i64 (0),.int .i64 (0),.int .i64 (0),.int .i64 (0),.int .i64 (0),.int .i64 (0)],by kernel_rfl,by kernel_rfl,by kernel_rfl,by kernel_rfl,rfl⟩,by decide⟩
instance:Aah Tryz.prog 47 66 9 72:=⟨Ah0⟩
theorem Aw9:Jj Tryz.prog 82 28 2:=.mk Tryz.underlying82 (show Tryz.prog.info? 28=some Tryz.t28 from by kernel_rfl) (by kernel_rfl)
instance:My Tryz.prog 82 28 2:=⟨Aw9⟩
def Ba (x:Int):List Value:=[.int .i64 (x)]
instance (x0:Int):DecI Ba [.int .i64 (x0)] (x0):=⟨rfl⟩
instance:EncI 3 Ba:=⟨trivial⟩
noncomputable def Co (p0:Int) (p1:Int) (p2:Int):Option Bool :=
 jn (fun (s2:Bool) =>
 some s2)
 (fun j2=>if p0≤p1 then (j2 (decide (p1≤p2)))
 else (j2 false))
structure Ab where
 X:Int
 Y:Int
noncomputable def Gg (p0:Ab):Option Bool :=
 jn (fun (s2:Bool) =>
 some s2)
 (fun j2=>bnd (Co (-268435456) p0.X 268435456) fun r2 =>
 if r2=true then (bnd (Co (-268435456) p0.Y 268435456) fun r7 =>
 j2 r7)
 else (j2 false))
structure Bl where
 Lo:Int
 Hi:Int
structure Aa where
 Id:Int
 X:Int
 Y:Int
 Z:Bl
 Wide:Int
 Num:Int
 Of:Int
 Class:Int
structure Ae where
 X:Int
 Y:Int
 Z:Bl
structure Acw where
 Neg:Bool
 L:List Int
structure Yj where
 N:Acw
 D:List Int
structure S_lidarref06_Spot where
 X:Yj
 Y:Yj
noncomputable def Ch (p0:Aa):Option Ab :=
 some (⟨p0.X,p0.Y⟩:Ab)
noncomputable def Km (p0:Aa):Option Bool :=
 jn (fun (s2:Bool) =>
 some s2)
 (fun j2=>bnd (Co 0 p0.Id 1152921504606846976) fun r2 =>
 if r2=true then (bnd (Ch p0) fun r7 =>
 bnd (Gg r7) fun r0 =>
 if r0=true then (bnd (Co (-268435456) p0.Z.Lo p0.Z.Hi) fun r1 =>
 if r1=true then (if p0.Z.Hi≤268435456 then (bnd (Co 0 p0.Wide 268435456) fun r3 =>
 if r3=true then (bnd (Co 1 p0.Num p0.Of) fun r4 =>
 if r4=true then (j2 (decide (p0.Of≤15)))
 else (j2 false))
 else (j2 false))
 else (j2 false))
 else (j2 false))
 else (j2 false))
 else (j2 false))
instance:UndI Tryz.prog 47 (.slice 66):=⟨Tryz.underlying47⟩
def Bn (x:Int):Value:=.int .i64 (x)
theorem Fp (x y:Int) (h:Bn x=Bn y):x=y:=by simpa [Bn] using h
instance (x:Int):UnfI Bn x (.int .i64 (x)):=⟨rfl⟩
instance (x0:Int):Yg Bn (.int .i64 (x0)) (x0):=⟨rfl⟩
instance:ValI Tryz.prog 3 Bn 0:=⟨Fp,fun w=>by kernel_rfl⟩
theorem key3:Maps.Keyed Tryz.prog 3:=Maps.int_keyed Tryz.underlying3
theorem isk3 (x:Int) (h:(-9223372036854775808≤x∧x≤9223372036854775807)):(keyOf Tryz.prog 3 (Bn x)).isSome=true:=Axn Tryz.underlying3 (Afx h)
instance:KeyI Tryz.prog 3 Bn (fun x=>(-9223372036854775808≤x∧x≤9223372036854775807)):=⟨key3,Fp,isk3⟩
instance:UndI Tryz.prog 172 (.map 3 4):=⟨Tryz.underlying172⟩
def Bi (x:Bool):Value:=.bool (x)
theorem Anb (x y:Bool) (h:Bi x=Bi y):x=y:=by simpa [Bi] using h
instance (x:Bool):UnfI Bi x (.bool (x)):=⟨rfl⟩
instance (x0:Bool):Yg Bi (.bool (x0)) (x0):=⟨rfl⟩
instance:ValI Tryz.prog 4 Bi false:=⟨Anb,fun w=>by kernel_rfl⟩
noncomputable def Im (p0:List Aa):((List (Int × Bool)) × Int)→Option (Sum ((List (Int × Bool)) × Int) (Sum Unit Bool)):=fun s0 =>
 if s0.2 < ((((p0).length:Nat):Int)) then (bnd (idx p0 s0.2) fun x0 =>
 jn (fun (s1:Bool) =>
 if s1=true then (some (.inr (.inr (false))))
 else (gd ((-9223372036854775808≤x0.Id∧x0.Id≤9223372036854775807)) <|
 gd ((s0.1).length < 9223372036854775807) <|
 some (.inl (mput s0.1 x0.Id true,w64 (s0.2+1)))))
 (fun j0=>bnd (Km x0) fun r0 =>
 if r0=true then (gd ((-9223372036854775808≤x0.Id∧x0.Id≤9223372036854775807)) <|
 bnd (some ((mget s0.1 x0.Id).getD false)) fun x1 =>
 j0 x1)
 else (j0 true)))
 else (some (.inr (.inl ())))
noncomputable def Rm (p0:List Aa):Option Bool :=
 if 1024 < ((((p0).length:Nat):Int)) then (some false)
 else (jn (fun (_:Unit) =>
 some true)
 (fun j6=>bnd (lfix (Im p0) (([]:List (Int × Bool)),0)) fun t0 =>
 (match t0 with
 | (.inl z0)=>j6 z0
 | (.inr (z0))=>some z0
 )))
def Ag (x:Aa):List Value:=[.int .i64 (x.Id),.int .i64 (x.X),.int .i64 (x.Y),.int .i64 (x.Z.Lo),.int .i64 (x.Z.Hi),.int .i64 (x.Wide),.int .i64 (x.Num),.int .i64 (x.Of),.int .i64 (x.Class)]
instance (x0:Int) (x1:Int) (x2:Int) (x3:Int) (x4:Int) (x5:Int) (x6:Int) (x7:Int) (x8:Int):DecI Ag [.int .i64 (x0),.int .i64 (x1),.int .i64 (x2),.int .i64 (x3),.int .i64 (x4),.int .i64 (x5),.int .i64 (x6),.int .i64 (x7),.int .i64 (x8)] (⟨x0,x1,x2,⟨x3,x4⟩,x5,x6,x7,x8⟩):=⟨rfl⟩
instance:EncI 66 Ag:=⟨trivial⟩
structure Af where
 Cell:Int
 Reach:Int
 Slope:Int
 Link:Int
 Flat:Int
 Tall:Int
 High:Int
 Low:Int
 Brush:Int
 Few:Int
theorem As4 (x0:Int) (x1:Int) (x2:Int) (x3:Int) (x4:Int) (x5:Int):Ai2 Tryz.prog 192 [.int .i64 x0,.int .i64 x1,.int .i64 x2,.int .i64 x3,.int .i64 x4,.int .i64 x5]:=by
 intro j h k w
 have h':j < 6:=h
 match j,h,h' with
 | 0,_,_=>exact (show (Instr.index 192 (.agg ([.int .i64 x0,.int .i64 x1,.int .i64 x2,.int .i64 x3,.int .i64 x4,.int .i64 x5]:List Value).toArray) (.int k ((0:Nat):Int))).run Tryz.prog w = .ok (.int .i64 x0) w by kernel_rfl)
 | 1,_,_=>exact (show (Instr.index 192 (.agg ([.int .i64 x0,.int .i64 x1,.int .i64 x2,.int .i64 x3,.int .i64 x4,.int .i64 x5]:List Value).toArray) (.int k ((1:Nat):Int))).run Tryz.prog w = .ok (.int .i64 x1) w by kernel_rfl)
 | 2,_,_=>exact (show (Instr.index 192 (.agg ([.int .i64 x0,.int .i64 x1,.int .i64 x2,.int .i64 x3,.int .i64 x4,.int .i64 x5]:List Value).toArray) (.int k ((2:Nat):Int))).run Tryz.prog w = .ok (.int .i64 x2) w by kernel_rfl)
 | 3,_,_=>exact (show (Instr.index 192 (.agg ([.int .i64 x0,.int .i64 x1,.int .i64 x2,.int .i64 x3,.int .i64 x4,.int .i64 x5]:List Value).toArray) (.int k ((3:Nat):Int))).run Tryz.prog w = .ok (.int .i64 x3) w by kernel_rfl)
 | 4,_,_=>exact (show (Instr.index 192 (.agg ([.int .i64 x0,.int .i64 x1,.int .i64 x2,.int .i64 x3,.int .i64 x4,.int .i64 x5]:List Value).toArray) (.int k ((4:Nat):Int))).run Tryz.prog w = .ok (.int .i64 x4) w by kernel_rfl)
 | 5,_,_=>exact (show (Instr.index 192 (.agg ([.int .i64 x0,.int .i64 x1,.int .i64 x2,.int .i64 x3,.int .i64 x4,.int .i64 x5]:List Value).toArray) (.int k ((5:Nat):Int))).run Tryz.prog w = .ok (.int .i64 x5) w by kernel_rfl)
instance (x0:Int) (x1:Int) (x2:Int) (x3:Int) (x4:Int) (x5:Int):Asj Tryz.prog 192 [.int .i64 x0,.int .i64 x1,.int .i64 x2,.int .i64 x3,.int .i64 x4,.int .i64 x5]:=⟨As4 _ _ _ _ _ _⟩
instance (x0:Int) (x1:Int) (x2:Int) (x3:Int) (x4:Int) (x5:Int):Aoh Tryz.prog 192 [.int .i64 x0,.int .i64 x1,.int .i64 x2,.int .i64 x3,.int .i64 x4,.int .i64 x5] (Value.int .i64) [x0,x1,x2,x3,x4,x5]:=⟨As4 _ _ _ _ _ _⟩
noncomputable def Gz (p0:Af):Int→Option (Sum Int (Sum Unit Bool)):=fun s0 =>
 if s0 < 6 then (bnd (idx [p0.Reach,p0.Flat,p0.Tall,p0.High,p0.Low,p0.Brush] s0) fun x0 =>
 bnd (Co 0 x0 1000000) fun r0 =>
 if r0=true then (some (.inl (w64 (s0+1))))
 else (some (.inr (.inr (false)))))
 else (some (.inr (.inl ())))
noncomputable def Kn (p0:Af):Option Bool :=
 jn (fun (_:Unit) =>
 jn (fun (s0:Bool) =>
 some s0)
 (fun j0=>bnd (Co 1 p0.Cell 10000000) fun r0 =>
 if r0=true then (bnd (Co 0 p0.Slope 100000) fun r1 =>
 if r1=true then (bnd (Co 1 p0.Link 1000000) fun r2 =>
 if r2=true then (bnd (Co 1 p0.Few 1024) fun r3 =>
 j0 r3)
 else (j0 false))
 else (j0 false))
 else (j0 false)))
 (fun j2=>bnd (lfix (Gz p0) 0) fun t0 =>
 (match t0 with
 | (.inl z0)=>j2 z0
 | (.inr (z0))=>some z0
 ))
noncomputable def Nc (p0:Aa) (p1:Aa):Option Bool :=
 jn (fun (s2:Bool) =>
 some s2)
 (fun j2=>if p0.Z.Hi < p1.Z.Hi then (j2 true)
 else (if p0.Z.Hi=p1.Z.Hi then (j2 (decide (p0.Id < p1.Id)))
 else (j2 false)))
noncomputable def Io (p0:Ab) (p1:Ab):Option Int :=
 some (w64 ((w64 ((w64 (p0.X-p1.X))*(w64 (p0.X-p1.X))))+(w64 ((w64 (p0.Y-p1.Y))*(w64 (p0.Y-p1.Y))))))
noncomputable def Kz (p0:Aa) (p1:Aa) (p2:Int):Option Bool :=
 bnd (Ch p0) fun r3 =>
 bnd (Ch p1) fun r6 =>
 bnd (Io r3 r6) fun r9 =>
 some (decide (r9≤(w64 (p2*p2))))
noncomputable def Js (p0:List Aa) (p1:Af):Option Int :=
 bnd (Kn p1) fun r2 =>
 if r2=true then (bnd (Rm p0) fun r8 =>
 if r8=true then (some 0)
 else (some 70))
 else (some 71)
noncomputable def Lk (p0:List Aa) (p1:Int) (p2:Af):(Bool × Int)→Option (Sum (Bool × Int) (Sum Bool Bool)):=fun s0 =>
 if s0.2 < ((((p0).length:Nat):Int)) then (jn (fun (s1:Bool) =>
 some (.inl (s1,w64 (s0.2+1))))
 (fun j0=>bnd (idx p0 s0.2) fun x0 =>
 jn (fun (s2:Bool) =>
 if s2=true then (j0 s0.1)
 else (bnd (idx p0 p1) fun x1 =>
 if (w64 (x0.Z.Lo-x1.Z.Hi))≤p2.Low then (some (.inr (.inr (false))))
 else (j0 true)))
 (fun j1=>if s0.2=p1 then (j1 true)
 else (bnd (idx p0 p1) fun x2 =>
 bnd (Kz x2 x0 p2.Link) fun r0 =>
 j1 (!(r0))))))
 else (some (.inr (.inl s0.1)))
noncomputable def Pp (p0:List Aa) (p1:Int) (p2:Af):Option Bool :=
 jn (fun (s3:Bool) =>
 some s3)
 (fun j3=>bnd (lfix (Lk p0 p1 p2) (false,0)) fun t0 =>
 (match t0 with
 | (.inl z0)=>j3 z0
 | (.inr (z0))=>some z0
 ))
noncomputable def Jc (p0:List Aa) (p1:Af):((List Aa) × (List Aa) × Int)→Option (Sum ((List Aa) × (List Aa) × Int) ((List Aa) × (List Aa))):=fun s0 =>
 if s0.2.2 < ((((p0).length:Nat):Int)) then (jn (fun (s1:(List Aa) × (List Aa)) =>
 some (.inl (s1.1,s1.2,w64 (s0.2.2+1))))
 (fun j0=>bnd (idx p0 s0.2.2) fun x0 =>
 bnd (Pp p0 s0.2.2 p1) fun r0 =>
 if r0=true then (gd (((s0.2.1).length+1)*72≤140737488355328) <|
 j0 (s0.1,s0.2.1++[x0]))
 else (gd (((s0.1).length+1)*72≤140737488355328) <|
 j0 (s0.1++[x0],s0.2.1))))
 else (some (.inr (s0.1,s0.2.1)))
noncomputable def Ji (p0:List Aa) (p1:Af):Option ((List Aa) × (List Aa)) :=
 jn (fun (s2:(List Aa) × (List Aa)) =>
 some (s2.1,s2.2))
 (fun j2=>bnd (lfix (Jc p0 p1) (([]:List Aa),([]:List Aa),0)) fun t0 =>
 j2 t0)
noncomputable def Nd (p0:Int) (p1:Int):Option Int :=
 gd (p1≠0) <|
 jn (fun (s3:Int) =>
 some s3)
 (fun j3=>gd (p1≠0) <|
 if (Int.tmod p0 p1) < 0 then (j3 (w64 ((w64 (Int.tdiv p0 p1))-1)))
 else (j3 (w64 (Int.tdiv p0 p1))))
noncomputable def Ol (p0:Ab) (p1:Ab) (p2:Ab):Option Int :=
 if 0 < (w64 ((w64 ((w64 (p1.X-p0.X))*(w64 (p2.Y-p0.Y))))-(w64 ((w64 (p1.Y-p0.Y))*(w64 (p2.X-p0.X)))))) then (some 1)
 else (if (w64 ((w64 ((w64 (p1.X-p0.X))*(w64 (p2.Y-p0.Y))))-(w64 ((w64 (p1.Y-p0.Y))*(w64 (p2.X-p0.X)))))) < 0 then (some (-1))
 else (some 0))
noncomputable def Yk (p0:Ab) (p1:Ab) (p2:Ab):Option Bool :=
 jn (fun (s2:Bool) =>
 some s2)
 (fun j2=>bnd (Ol p0 p1 p2) fun r4 =>
 if r4=0 then (bnd (Co (min p0.X p1.X) p2.X (max p0.X p1.X)) fun r9 =>
 if r9=true then (bnd (Co (min p0.Y p1.Y) p2.Y (max p0.Y p1.Y)) fun r0 =>
 j2 r0)
 else (j2 false))
 else (j2 false))
instance:UndI Tryz.prog 4 (.bool):=⟨Tryz.underlying4⟩
noncomputable def Oa (p0:Ab) (p1:Ab) (p2:Ab):Option Bool :=
 if ((decide (p2.Y < p0.Y)) == (decide (p2.Y < p1.Y)))=true then (some false)
 else (if p0.Y < p1.Y then (bnd (Ol p0 p1 p2) fun r9 =>
 some (decide (0 < r9)))
 else (bnd (Ol p1 p0 p2) fun r0 =>
 some (decide (0 < r0))))
instance:UndI Tryz.prog 82 (.slice 28):=⟨Tryz.underlying82⟩
noncomputable def Jd (p0:List Ab) (p1:Ab):(Bool × Int × Int × Int)→Option (Sum (Bool × Int × Int × Int) (Sum Bool Bool)):=fun s0 =>
 if s0.2.2.2 < ((((p0).length:Nat):Int)) then (bnd (idx p0 s0.2.2.2) fun x0 =>
 bnd (Yk (⟨s0.2.1,s0.2.2.1⟩:Ab) x0 p1) fun r0 =>
 if r0=true then (some (.inr (.inr (true))))
 else (jn (fun (s1:Bool) =>
 some (.inl (s1,x0.X,x0.Y,w64 (s0.2.2.2+1))))
 (fun j0=>bnd (Oa (⟨s0.2.1,s0.2.2.1⟩:Ab) x0 p1) fun r1 =>
 if r1=true then (j0 (!(s0.1)))
 else (j0 s0.1))))
 else (some (.inr (.inl s0.1)))
noncomputable def Pq (p0:List Ab) (p1:Ab):Option Bool :=
 bnd (idx p0 (w64 (((((p0).length:Nat):Int))-1))) fun x2 =>
 jn (fun (s4:Bool) =>
 some s4)
 (fun j4=>bnd (lfix (Jd p0 p1) (false,x2.X,x2.Y,0)) fun t0 =>
 (match t0 with
 | (.inl z0)=>j4 z0
 | (.inr (z0))=>some z0
 ))
def Ha (x:Ab):List Value:=[.int .i64 (x.X),.int .i64 (x.Y)]
instance (x0:Int) (x1:Int):DecI Ha [.int .i64 (x0),.int .i64 (x1)] (⟨x0,x1⟩):=⟨rfl⟩
instance:EncI 28 Ha:=⟨trivial⟩
noncomputable def Ip (p0:List Ab):Int→Option (Sum Int (Sum Unit Bool)):=fun s0 =>
 if s0 < ((((p0).length:Nat):Int)) then (bnd (idx p0 s0) fun x0 =>
 bnd (Gg x0) fun r0 =>
 if r0=true then (some (.inl (w64 (s0+1))))
 else (some (.inr (.inr (false)))))
 else (some (.inr (.inl ())))
noncomputable def Ll (p0:List Ab):Option Bool :=
 bnd (Co 3 (((p0).length:Nat):Int) 64) fun r1 =>
 if r1=true then (jn (fun (_:Unit) =>
 some true)
 (fun j5=>bnd (lfix (Ip p0) 0) fun t0 =>
 (match t0 with
 | (.inl z0)=>j5 z0
 | (.inr (z0))=>some z0
 )))
 else (some false)
noncomputable def Gj (p0:List Ab) (p1:Ab):Option (Bool × Int) :=
 bnd (Ll p0) fun r2 =>
 if r2=true then (bnd (Gg p1) fun r8 =>
 if r8=true then (bnd (Pq p0 p1) fun r0 =>
 some (r0,0))
 else (some (false,11)))
 else (some (false,72))
set_option maxRecDepth 100000 in
instance Af1 (p0:Int) (p1:Int) (p2:Int):Con (Co p0 p1 p2) Tryz.prog 157 (fun _ vs=>vs=[.int .i64 (p0),.int .i64 (p1),.int .i64 (p2)]) (fun _ r=>fun v Ln=>v = .bool (r)∧Ln=[]∧True):=⟨by
 rintro _ _ r rfl hx w hK;unfold Co at hx;refine CtS Tryz.ntmps157 Tryz.results157 ?_;exact au⟩
theorem Aen (p0:Int) (p1:Int) (p2:Int)  {r:Bool} (hx:Co p0 p1 p2=some r) (w:World):CtL Tryz.prog 157 [.int .i64 (p0),.int .i64 (p1),.int .i64 (p2)] w fun v Ln=>v = .bool (r)∧Ln=[]∧True:=(Af1 p0 p1 p2).h [] _ _ rfl hx w (fun _ h=>absurd h List.not_mem_nil)
set_option maxRecDepth 100000 in
instance label_validPlace_c (p0:Ab):Con (Gg p0) Tryz.prog 131 (fun _ vs=>vs=[.agg #[.int .i64 (p0.X),.int .i64 (p0.Y)]]) (fun _ r=>fun v Ln=>v = .bool (r)∧Ln=[]∧True):=⟨by
 rintro _ _ r rfl hx w hK;unfold Gg at hx;refine CtS Tryz.ntmps131 Tryz.results131 ?_;exact au⟩
set_option maxRecDepth 100000 in
instance Ag9 (p0:Aa):Con (Ch p0) Tryz.prog 156 (fun _ vs=>vs=[.agg #[.int .i64 (p0.Id),.int .i64 (p0.X),.int .i64 (p0.Y),.int .i64 (p0.Z.Lo),.int .i64 (p0.Z.Hi),.int .i64 (p0.Wide),.int .i64 (p0.Num),.int .i64 (p0.Of),.int .i64 (p0.Class)]]) (fun _ r=>fun v Ln=>v = .agg #[.int .i64 (r.X),.int .i64 (r.Y)]∧Ln=[]∧True):=⟨by
 rintro _ _ r rfl hx w hK;unfold Ch at hx;refine CtS Tryz.ntmps156 Tryz.results156 ?_;exact au⟩
theorem Af2 (p0:Aa)  {r:Ab} (hx:Ch p0=some r) (w:World):CtL Tryz.prog 156 [.agg #[.int .i64 (p0.Id),.int .i64 (p0.X),.int .i64 (p0.Y),.int .i64 (p0.Z.Lo),.int .i64 (p0.Z.Hi),.int .i64 (p0.Wide),.int .i64 (p0.Num),.int .i64 (p0.Of),.int .i64 (p0.Class)]] w fun v Ln=>v = .agg #[.int .i64 (r.X),.int .i64 (r.Y)]∧Ln=[]∧True:=(Ag9 p0).h [] _ _ rfl hx w (fun _ h=>absurd h List.not_mem_nil)
set_option maxHeartbeats 1000000 in
set_option maxRecDepth 100000 in
instance label_validPoint_c (p0:Aa):Con (Km p0) Tryz.prog 83 (fun _ vs=>vs=[.agg #[.int .i64 (p0.Id),.int .i64 (p0.X),.int .i64 (p0.Y),.int .i64 (p0.Z.Lo),.int .i64 (p0.Z.Hi),.int .i64 (p0.Wide),.int .i64 (p0.Num),.int .i64 (p0.Of),.int .i64 (p0.Class)]]) (fun _ r=>fun v Ln=>v = .bool (r)∧Ln=[]∧True):=⟨by
 rintro _ _ r rfl hx w hK;unfold Km at hx;refine CtS Tryz.ntmps83 Tryz.results83 ?_;refine pre ?_;intros;rename_i hx
 refine Mq ?_;refine pre ?_;intros;rename_i hx
 apply Jr (γ:=Unit) hx [] (fun s2 y2 f=>(2,.bool (s2))::f) [999] (fun s2 y2 l=>l);exact kk
 ·intro s2 y2 hx;exact au
 ·intro _ hx;refine pre ?_;intros;rename_i hx
  refine Cq3 (s:=6) hx rfl (fun _ hx=>?_) (fun _ hx=>?_)
  ·refine pre ?_;intros;rename_i hx
   refine Cq3 (s:=11) hx rfl (fun _ hx=>?_) (fun _ hx=>?_)
   ·exact au
   ·exact au
  ·exact au⟩
set_option maxHeartbeats 1000000 in
set_option maxRecDepth 100000 in
instance label_Valid_c (p0:List Aa):Con (Rm p0) Tryz.prog 63 (fun K vs=>∃ (A0_0:Option Addr) (c0_0:Nat),vs=[.slice (A0_0) ((p0).length) (c0_0)]∧Has K A0_0 (p0).length c0_0 9 Ag (p0)∧True) (fun _ r=>fun v Ln=>v = .bool (r)∧Ln=[]∧True):=⟨by
 rintro K _ r ⟨A0_0,c0_0,rfl,ha0,-⟩ hx w hK;replace ha0:=Has.lo ha0 hK;unfold Rm at hx;refine CtS Tryz.ntmps63 Tryz.results63 ?_;refine pre ?_;intros;rename_i hx
 refine Cq1 (s:=8) hx rfl (fun _ hx=>?_) (fun _ hx=>?_)
 ·exact au
 ·refine pre ?_;intros;rename_i hx
  refine Mq ?_;refine pre ?_;intros;rename_i hx
  apply Jr (γ:=Unit) hx [] (fun s6 y6 f=>f) [999] (fun s6 y6 l=>l);exact kk
  ·intro s6 y6 hx;exact au
  ·intro _ hx;refine pre ?_;intros;rename_i hx
   apply Lr (γ:=(Nat)) hx [12,13] (fun s0 y0 f=>(3,.map (some y0))::(14,.int .i64 (s0.2))::f) [999] (fun s0 y0 l=>Ax Tryz.prog 3 Bn Bi y0 (s0.1)::l) _;exact kk;exact sk;intro s0 y0 x0 hx _;unfold Im at hx
   exact au⟩
set_option maxHeartbeats 1000000 in
set_option maxRecDepth 100000 in
instance label_ValidRules_c (p0:Af):Con (Kn p0) Tryz.prog 82 (fun _ vs=>vs=[.agg #[.int .i64 (p0.Cell),.int .i64 (p0.Reach),.int .i64 (p0.Slope),.int .i64 (p0.Link),.int .i64 (p0.Flat),.int .i64 (p0.Tall),.int .i64 (p0.High),.int .i64 (p0.Low),.int .i64 (p0.Brush),.int .i64 (p0.Few)]]) (fun _ r=>fun v Ln=>v = .bool (r)∧Ln=[]∧True):=⟨by
 rintro _ _ r rfl hx w hK;unfold Kn at hx;refine CtS Tryz.ntmps82 Tryz.results82 ?_;refine pre ?_;intros;rename_i hx
 refine Mq ?_;refine pre ?_;intros;rename_i hx
 apply Jr (γ:=Unit) hx [1] (fun s2 y2 f=>f) [0,999] (fun s2 y2 l=>l);exact kk
 ·intro s2 y2 hx;exact au
 ·intro _ hx;refine pre ?_;intros;rename_i hx
  apply Lr (γ:=Unit) hx [1,17] (fun s0 y0 f=>(18,.int .i64 (s0))::f) [0,999] (fun s0 y0 l=>l) ();exact kk;exact sk;intro s0 y0 x0 hx _;unfold Gz at hx
  exact au⟩
set_option maxRecDepth 100000 in
instance Aha (p0:Aa) (p1:Aa):Con (Nc p0 p1) Tryz.prog 138 (fun _ vs=>vs=[.agg #[.int .i64 (p0.Id),.int .i64 (p0.X),.int .i64 (p0.Y),.int .i64 (p0.Z.Lo),.int .i64 (p0.Z.Hi),.int .i64 (p0.Wide),.int .i64 (p0.Num),.int .i64 (p0.Of),.int .i64 (p0.Class)],.agg #[.int .i64 (p1.Id),.int .i64 (p1.X),.int .i64 (p1.Y),.int .i64 (p1.Z.Lo),.int .i64 (p1.Z.Hi),.int .i64 (p1.Wide),.int .i64 (p1.Num),.int .i64 (p1.Of),.int .i64 (p1.Class)]]) (fun _ r=>fun v Ln=>v = .bool (r)∧Ln=[]∧True):=⟨by
 rintro _ _ r rfl hx w hK;unfold Nc at hx;refine CtS Tryz.ntmps138 Tryz.results138 ?_;exact au⟩
theorem Yl (p0:Aa) (p1:Aa)  {r:Bool} (hx:Nc p0 p1=some r) (w:World):CtL Tryz.prog 138 [.agg #[.int .i64 (p0.Id),.int .i64 (p0.X),.int .i64 (p0.Y),.int .i64 (p0.Z.Lo),.int .i64 (p0.Z.Hi),.int .i64 (p0.Wide),.int .i64 (p0.Num),.int .i64 (p0.Of),.int .i64 (p0.Class)],.agg #[.int .i64 (p1.Id),.int .i64 (p1.X),.int .i64 (p1.Y),.int .i64 (p1.Z.Lo),.int .i64 (p1.Z.Hi),.int .i64 (p1.Wide),.int .i64 (p1.Num),.int .i64 (p1.Of),.int .i64 (p1.Class)]] w fun v Ln=>v = .bool (r)∧Ln=[]∧True:=(Aha p0 p1).h [] _ _ rfl hx w (fun _ h=>absurd h List.not_mem_nil)
set_option maxRecDepth 100000 in
instance surface_Square_c (p0:Ab) (p1:Ab):Con (Io p0 p1) Tryz.prog 164 (fun _ vs=>vs=[.agg #[.int .i64 (p0.X),.int .i64 (p0.Y)],.agg #[.int .i64 (p1.X),.int .i64 (p1.Y)]]) (fun _ r=>fun v Ln=>v = .int .i64 (r)∧Ln=[]∧True):=⟨by
 rintro _ _ r rfl hx w hK;unfold Io at hx;have:=dl 1 [0,1,0,1,0,0,1,0,1,0,2,2] [0,1,2,3,4,5,6,7,8,9,10,11];refine CtS Tryz.ntmps164 Tryz.results164 ?_;exact au⟩
set_option maxRecDepth 100000 in
instance Ajf (p0:Aa) (p1:Aa) (p2:Int):Con (Kz p0 p1 p2) Tryz.prog 217 (fun _ vs=>vs=[.agg #[.int .i64 (p0.Id),.int .i64 (p0.X),.int .i64 (p0.Y),.int .i64 (p0.Z.Lo),.int .i64 (p0.Z.Hi),.int .i64 (p0.Wide),.int .i64 (p0.Num),.int .i64 (p0.Of),.int .i64 (p0.Class)],.agg #[.int .i64 (p1.Id),.int .i64 (p1.X),.int .i64 (p1.Y),.int .i64 (p1.Z.Lo),.int .i64 (p1.Z.Hi),.int .i64 (p1.Wide),.int .i64 (p1.Num),.int .i64 (p1.Of),.int .i64 (p1.Class)],.int .i64 (p2)]) (fun _ r=>fun v Ln=>v = .bool (r)∧Ln=[]∧True):=⟨by
 rintro _ _ r rfl hx w hK;unfold Kz at hx;have:=dl 1 [1,2,1,2,2,0,0,0,0,2] [0,2,5,6,7,1,3,4,8,9];refine CtS Tryz.ntmps217 Tryz.results217 ?_;exact au⟩
theorem Ahb (p0:Aa) (p1:Aa) (p2:Int)  {r:Bool} (hx:Kz p0 p1 p2=some r) (w:World):CtL Tryz.prog 217 [.agg #[.int .i64 (p0.Id),.int .i64 (p0.X),.int .i64 (p0.Y),.int .i64 (p0.Z.Lo),.int .i64 (p0.Z.Hi),.int .i64 (p0.Wide),.int .i64 (p0.Num),.int .i64 (p0.Of),.int .i64 (p0.Class)],.agg #[.int .i64 (p1.Id),.int .i64 (p1.X),.int .i64 (p1.Y),.int .i64 (p1.Z.Lo),.int .i64 (p1.Z.Hi),.int .i64 (p1.Wide),.int .i64 (p1.Num),.int .i64 (p1.Of),.int .i64 (p1.Class)],.int .i64 (p2)] w fun v Ln=>v = .bool (r)∧Ln=[]∧True:=(Ajf p0 p1 p2).h [] _ _ rfl hx w (fun _ h=>absurd h List.not_mem_nil)
set_option maxRecDepth 100000 in
instance Aeo (p0:List Aa) (p1:Af):Con (Js p0 p1) Tryz.prog 66 (fun K vs=>∃ (A0_0:Option Addr) (c0_0:Nat),vs=[.slice (A0_0) ((p0).length) (c0_0),.agg #[.int .i64 (p1.Cell),.int .i64 (p1.Reach),.int .i64 (p1.Slope),.int .i64 (p1.Link),.int .i64 (p1.Flat),.int .i64 (p1.Tall),.int .i64 (p1.High),.int .i64 (p1.Low),.int .i64 (p1.Brush),.int .i64 (p1.Few)]]∧Has K A0_0 (p0).length c0_0 9 Ag (p0)∧True) (fun _ r=>fun v Ln=>v = .int .i64 (r)∧Ln=[]∧True):=⟨by
 rintro K _ r ⟨A0_0,c0_0,rfl,ha0,-⟩ hx w hK;replace ha0:=Has.lo ha0 hK;unfold Js at hx;refine CtS Tryz.ntmps66 Tryz.results66 ?_;exact au⟩
theorem Acx (p0:List Aa) (p1:Af) {K:List Ent} {A0_0:Option Addr} {c0_0:Nat} (ha0:Has K A0_0 (p0).length c0_0 9 Ag (p0)) {r:Int} (hx:Js p0 p1=some r) (w:World) (hK:∀ e∈K,Ent.ok w e):CtL Tryz.prog 66 [.slice (A0_0) ((p0).length) (c0_0),.agg #[.int .i64 (p1.Cell),.int .i64 (p1.Reach),.int .i64 (p1.Slope),.int .i64 (p1.Link),.int .i64 (p1.Flat),.int .i64 (p1.Tall),.int .i64 (p1.High),.int .i64 (p1.Low),.int .i64 (p1.Brush),.int .i64 (p1.Few)]] w fun v Ln=>v = .int .i64 (r)∧Ln=[]∧True:=(Aeo p0 p1).h K _ _ ⟨_,_,rfl,ha0,trivial⟩ hx w hK
set_option maxHeartbeats 1000000 in
set_option maxRecDepth 100000 in
instance label_isSunk_c (p0:List Aa) (p1:Int) (p2:Af):Con (Pp p0 p1 p2) Tryz.prog 154 (fun K vs=>∃ (A0_0:Option Addr) (c0_0:Nat),vs=[.slice (A0_0) ((p0).length) (c0_0),.int .i64 (p1),.agg #[.int .i64 (p2.Cell),.int .i64 (p2.Reach),.int .i64 (p2.Slope),.int .i64 (p2.Link),.int .i64 (p2.Flat),.int .i64 (p2.Tall),.int .i64 (p2.High),.int .i64 (p2.Low),.int .i64 (p2.Brush),.int .i64 (p2.Few)]]∧Has K A0_0 (p0).length c0_0 9 Ag (p0)∧True) (fun _ r=>fun v Ln=>v = .bool (r)∧Ln=[]∧True):=⟨by
 rintro K _ r ⟨A0_0,c0_0,rfl,ha0,-⟩ hx w hK;replace ha0:=Has.lo ha0 hK;unfold Pp at hx;have:=dl 5 [0,0,0,0,0,0,0,1,1,0,1,2,0,0] [0,1,2,3,4,5,6,7,8,9,10,11,12,13];have:=dl 6 [0,0,1,0,0,0,0,0,1,0,0,1,0] [0,1,2,3,4,5,6,7,8,9,10,11,12];refine CtS Tryz.ntmps154 Tryz.results154 ?_;refine pre ?_;intros;rename_i hx
 refine Mq ?_;refine pre ?_;intros;rename_i hx
 refine Mq ?_;refine pre ?_;intros;rename_i hx
 apply Jr (γ:=Unit) hx [] (fun s3 y3 f=>(7,.bool (s3))::f) [999] (fun s3 y3 l=>l);exact kk
 ·intro s3 y3 hx;exact au
 ·intro _ hx;refine pre ?_;intros;rename_i hx
  apply Lr (γ:=Unit) hx [0,1,5,10,11] (fun s0 y0 f=>(7,.bool (s0.1))::(12,.int .i64 (s0.2))::f) [0,999] (fun s0 y0 l=>l) ();exact kk;exact sk;intro s0 y0 x0 hx _;unfold Lk at hx
  refine pre ?_;intros;rename_i hx
  refine Cq1 (s:=13) hx rfl (fun _ hx=>?_) (fun _ hx=>?_)
  ·refine pre ?_;intros;rename_i hx
   apply Jr (γ:=Unit) hx [0,1,5,10,11,12] (fun s1 y1 f=>(7,.bool (s1))::f) [0,999] (fun s1 y1 l=>l);exact kk
   ·intro s1 y1 hx;exact au
   ·intro _ hx;refine pre ?_;intros;rename_i hx
    refine Mq ?_;refine pre ?_;intros;rename_i hx
    apply Jr (γ:=Unit) hx [0,1,5,7,9,10,11,12] (fun s2 y2 f=>(30,.bool (s2))::f) [0,1,999] (fun s2 y2 l=>l);exact kk
    ·intro s2 y2 hx;exact au
    ·intro _ hx;exact au
  ·exact au⟩
set_option maxHeartbeats 1000000 in
set_option maxRecDepth 100000 in
instance Af3 (p0:List Aa) (p1:Af):Con (Ji p0 p1) Tryz.prog 78 (fun K vs=>∃ (A0_0:Option Addr) (c0_0:Nat),vs=[.slice (A0_0) ((p0).length) (c0_0),.agg #[.int .i64 (p1.Cell),.int .i64 (p1.Reach),.int .i64 (p1.Slope),.int .i64 (p1.Link),.int .i64 (p1.Flat),.int .i64 (p1.Tall),.int .i64 (p1.High),.int .i64 (p1.Low),.int .i64 (p1.Brush),.int .i64 (p1.Few)]]∧Has K A0_0 (p0).length c0_0 9 Ag (p0)∧True) (fun _ r=>fun v Ln=>∃ (A0:Option Addr) (c0:Nat) (A2:Option Addr) (c2:Nat),v = .tuple #[.slice (A0) ((r.1).length) (c0),.slice (A2) ((r.2).length) (c2)]∧Ln=[.r A0 (r.1).length c0 66 9 ((r.1).flatMap Ag),.r A2 (r.2).length c2 66 9 ((r.2).flatMap Ag)]∧True):=⟨by
 rintro K _ r ⟨A0_0,c0_0,rfl,ha0,-⟩ hx w hK;replace ha0:=Has.lo ha0 hK;unfold Ji at hx;refine CtS Tryz.ntmps78 Tryz.results78 ?_;refine pre ?_;intros;rename_i hx
 refine Mq ?_;refine pre ?_;intros;rename_i hx
 apply Jr (γ:=(Option Addr) × Nat × (Option Addr) × Nat) hx [] (fun s2 y2 f=>(4,.slice (y2.1) ((s2.1).length) (y2.2.1))::(5,.slice (y2.2.2.1) ((s2.2).length) (y2.2.2.2))::f) [999] (fun s2 y2 l=>.r (y2.1) ((s2.1).length) (y2.2.1) 66 9 ((s2.1).flatMap Ag) :: .r (y2.2.2.1) ((s2.2).length) (y2.2.2.2) 66 9 ((s2.2).flatMap Ag)::l);exact kk
 ·intro s2 y2 hx;exact au
 ·intro _ hx;refine pre ?_;intros;rename_i hx
  refine Bq 66 9 ?_
  refine Bq 66 9 ?_
  apply Lr (γ:=(Option Addr) × Nat × (Option Addr) × Nat) hx [0,3,8,9] (fun s0 y0 f=>(4,.slice (y0.1) ((s0.1).length) (y0.2.1))::(5,.slice (y0.2.2.1) ((s0.2.1).length) (y0.2.2.2))::(10,.int .i64 (s0.2.2))::f) [2,999] (fun s0 y0 l=>.r (y0.1) ((s0.1).length) (y0.2.1) 66 9 ((s0.1).flatMap Ag) :: .r (y0.2.2.1) ((s0.2.1).length) (y0.2.2.2) 66 9 ((s0.2.1).flatMap Ag)::l) (_,_,_,_);exact kk;exact sk;intro s0 y0 x0 hx _;unfold Jc at hx
  exact au⟩
theorem Xo (p0:List Aa) (p1:Af) {K:List Ent} {A0_0:Option Addr} {c0_0:Nat} (ha0:Has K A0_0 (p0).length c0_0 9 Ag (p0)) {r:(List Aa) × (List Aa)} (hx:Ji p0 p1=some r) (w:World) (hK:∀ e∈K,Ent.ok w e):CtL Tryz.prog 78 [.slice (A0_0) ((p0).length) (c0_0),.agg #[.int .i64 (p1.Cell),.int .i64 (p1.Reach),.int .i64 (p1.Slope),.int .i64 (p1.Link),.int .i64 (p1.Flat),.int .i64 (p1.Tall),.int .i64 (p1.High),.int .i64 (p1.Low),.int .i64 (p1.Brush),.int .i64 (p1.Few)]] w fun v Ln=>∃ (A0:Option Addr) (c0:Nat) (A2:Option Addr) (c2:Nat),v = .tuple #[.slice (A0) ((r.1).length) (c0),.slice (A2) ((r.2).length) (c2)]∧Ln=[.r A0 (r.1).length c0 66 9 ((r.1).flatMap Ag),.r A2 (r.2).length c2 66 9 ((r.2).flatMap Ag)]∧True:=(Af3 p0 p1).h K _ _ ⟨_,_,rfl,ha0,trivial⟩ hx w hK
set_option maxRecDepth 100000 in
instance Ahc (p0:Int) (p1:Int):Con (Nd p0 p1) Tryz.prog 152 (fun _ vs=>vs=[.int .i64 (p0),.int .i64 (p1)]) (fun _ r=>fun v Ln=>v = .int .i64 (r)∧Ln=[]∧True):=⟨by
 rintro _ _ r rfl hx w hK;unfold Nd at hx;refine CtS Tryz.ntmps152 Tryz.results152 ?_;exact au⟩
theorem Ym (p0:Int) (p1:Int)  {r:Int} (hx:Nd p0 p1=some r) (w:World):CtL Tryz.prog 152 [.int .i64 (p0),.int .i64 (p1)] w fun v Ln=>v = .int .i64 (r)∧Ln=[]∧True:=(Ahc p0 p1).h [] _ _ rfl hx w (fun _ h=>absurd h List.not_mem_nil)
set_option maxHeartbeats 1000000 in
set_option maxRecDepth 100000 in
instance label_turn_c (p0:Ab) (p1:Ab) (p2:Ab):Con (Ol p0 p1 p2) Tryz.prog 284 (fun _ vs=>vs=[.agg #[.int .i64 (p0.X),.int .i64 (p0.Y)],.agg #[.int .i64 (p1.X),.int .i64 (p1.Y)],.agg #[.int .i64 (p2.X),.int .i64 (p2.Y)]]) (fun _ r=>fun v Ln=>v = .int .i64 (r)∧Ln=[]∧True):=⟨by
 rintro _ _ r rfl hx w hK;unfold Ol at hx;refine CtS Tryz.ntmps284 Tryz.results284 ?_;exact au⟩
set_option maxHeartbeats 1000000 in
set_option maxRecDepth 100000 in
instance label_on_c (p0:Ab) (p1:Ab) (p2:Ab):Con (Yk p0 p1 p2) Tryz.prog 204 (fun _ vs=>vs=[.agg #[.int .i64 (p0.X),.int .i64 (p0.Y)],.agg #[.int .i64 (p1.X),.int .i64 (p1.Y)],.agg #[.int .i64 (p2.X),.int .i64 (p2.Y)]]) (fun _ r=>fun v Ln=>v = .bool (r)∧Ln=[]∧True):=⟨by
 rintro _ _ r rfl hx w hK;unfold Yk at hx;refine CtS Tryz.ntmps204 Tryz.results204 ?_;exact au⟩
set_option maxHeartbeats 1000000 in
set_option maxRecDepth 100000 in
instance label_crosses_c (p0:Ab) (p1:Ab) (p2:Ab):Con (Oa p0 p1 p2) Tryz.prog 205 (fun _ vs=>vs=[.agg #[.int .i64 (p0.X),.int .i64 (p0.Y)],.agg #[.int .i64 (p1.X),.int .i64 (p1.Y)],.agg #[.int .i64 (p2.X),.int .i64 (p2.Y)]]) (fun _ r=>fun v Ln=>v = .bool (r)∧Ln=[]∧True):=⟨by
 rintro _ _ r rfl hx w hK;unfold Oa at hx;refine CtS Tryz.ntmps205 Tryz.results205 ?_;exact au⟩
set_option maxHeartbeats 1000000 in
set_option maxRecDepth 100000 in
instance label_inRing_c (p0:List Ab) (p1:Ab):Con (Pq p0 p1) Tryz.prog 132 (fun K vs=>∃ (A0_0:Option Addr) (c0_0:Nat),vs=[.slice (A0_0) ((p0).length) (c0_0),.agg #[.int .i64 (p1.X),.int .i64 (p1.Y)]]∧Has K A0_0 (p0).length c0_0 2 Ha (p0)∧True) (fun _ r=>fun v Ln=>v = .bool (r)∧Ln=[]∧True):=⟨by
 rintro K _ r ⟨A0_0,c0_0,rfl,ha0,-⟩ hx w hK;replace ha0:=Has.lo ha0 hK;unfold Pq at hx;refine CtS Tryz.ntmps132 Tryz.results132 ?_;refine pre ?_;intros;rename_i hx
 apply Jr (γ:=Unit) hx [] (fun s4 y4 f=>(5,.bool (s4))::f) [999] (fun s4 y4 l=>l);exact kk
 ·intro s4 y4 hx;exact au
 ·intro _ hx;refine pre ?_;intros;rename_i hx
  apply Lr (γ:=(Nat)) hx [3,15,16] (fun s44 y44 f=>(5,.bool (s44.1))::(6,.pointer (some ⟨y44,0,none⟩))::(17,.int .i64 (s44.2.2.2))::f) [1,999] (fun s44 y44 l=>.m y44 28 [.int .i64 (s44.2.1),.int .i64 (s44.2.2.1)]::l) _;exact kk;exact sk;intro s44 y44 x44 hx _;unfold Jd at hx
  exact au⟩
set_option maxHeartbeats 1000000 in
set_option maxRecDepth 100000 in
instance label_validRing_c (p0:List Ab):Con (Ll p0) Tryz.prog 130 (fun K vs=>∃ (A0_0:Option Addr) (c0_0:Nat),vs=[.slice (A0_0) ((p0).length) (c0_0)]∧Has K A0_0 (p0).length c0_0 2 Ha (p0)∧True) (fun _ r=>fun v Ln=>v = .bool (r)∧Ln=[]∧True):=⟨by
 rintro K _ r ⟨A0_0,c0_0,rfl,ha0,-⟩ hx w hK;replace ha0:=Has.lo ha0 hK;unfold Ll at hx;refine CtS Tryz.ntmps130 Tryz.results130 ?_;refine pre ?_;intros;rename_i hx
 refine Cq4 (s:=8) hx rfl (fun _ hx=>?_) (fun _ hx=>?_)
 ·exact au
 ·refine pre ?_;intros;rename_i hx
  apply Jr (γ:=Unit) hx [] (fun s5 y5 f=>f) [999] (fun s5 y5 l=>l);exact kk
  ·intro s5 y5 hx;exact au
  ·intro _ hx;refine pre ?_;intros;rename_i hx
   apply Lr (γ:=Unit) hx [9,10] (fun s29 y29 f=>(11,.int .i64 (s29))::f) [999] (fun s29 y29 l=>l) ();exact kk;exact sk;intro s29 y29 x29 hx _;unfold Ip at hx
   exact au⟩
set_option maxRecDepth 100000 in
instance label_Within_c (p0:List Ab) (p1:Ab):Con (Gj p0 p1) Tryz.prog 62 (fun K vs=>∃ (A0_0:Option Addr) (c0_0:Nat),vs=[.slice (A0_0) ((p0).length) (c0_0),.agg #[.int .i64 (p1.X),.int .i64 (p1.Y)]]∧Has K A0_0 (p0).length c0_0 2 Ha (p0)∧True) (fun _ r=>fun v Ln=>v = .tuple #[.bool (r.1),.int .i64 (r.2)]∧Ln=[]∧True):=⟨by
 rintro K _ r ⟨A0_0,c0_0,rfl,ha0,-⟩ hx w hK;replace ha0:=Has.lo ha0 hK;unfold Gj at hx;refine CtS Tryz.ntmps62 Tryz.results62 ?_;exact au⟩
end Go.Proofs.YtbkobeeileemjaaGreat
