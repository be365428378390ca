/- Walks of the program, with their plain functions: points, rules, rings. -/
import Derived.Test.YtbkobeeileemjaaGreatFlow19
import Derived.Test.YtbkobeeileemjaaGreatProg
namespace Go.Proofs.YtbkobeeileemjaaGreat
open Go Go.RowKit
set_option maxRecDepth 100000
set_option maxHeartbeats 1000000
theorem mixed:Tryz.prog.follows .mixedOrders=true:=by kernel_rfl
instance:MixI Tryz.prog:=⟨mixed⟩
theorem Awj:Ca Tryz.prog 28 0 0:=.mk Tryz.underlying28 rfl rfl (show Tryz.prog.info? 3=some Tryz.t3 from by kernel_rfl) (show Tryz.t3.size=1 from by kernel_rfl) rfl
instance:Cs Tryz.prog 28 0 0:=⟨Awj⟩
theorem one3:Lg Tryz.prog 3:=.mk Tryz.underlying3 rfl (show Tryz.prog.info? 3=some Tryz.t3 from by kernel_rfl) (by kernel_rfl)
instance:OneI Tryz.prog 3:=⟨one3⟩
theorem Awk:Ca Tryz.prog 28 1 1:=.mk Tryz.underlying28 rfl rfl (show Tryz.prog.info? 3=some Tryz.t3 from by kernel_rfl) (show Tryz.t3.size=1 from by kernel_rfl) rfl
instance:Cs Tryz.prog 28 1 1:=⟨Awk⟩
theorem Al1:Jd Tryz.prog 28 [.int .i64 (0),.int .i64 (0)]:=⟨_,Tryz.zeroValue28,rfl⟩
instance:Sn Tryz.prog 28 [.int .i64 (0),.int .i64 (0)]:=⟨Al1⟩
theorem Ape:Ca Tryz.prog 66 1 1:=.mk Tryz.underlying66 rfl rfl (show Tryz.prog.info? 3=some Tryz.t3 from by kernel_rfl) (show Tryz.t3.size=1 from by kernel_rfl) rfl
instance:Cs Tryz.prog 66 1 1:=⟨Ape⟩
theorem Apf:Ca Tryz.prog 66 2 2:=.mk Tryz.underlying66 rfl rfl (show Tryz.prog.info? 3=some Tryz.t3 from by kernel_rfl) (show Tryz.t3.size=1 from by kernel_rfl) rfl
instance:Cs Tryz.prog 66 2 2:=⟨Apf⟩
theorem Zk (x0:Int) (x1:Int):Gd Tryz.prog 28 [(0,.int .i64 x0),(1,.int .i64 x1)] [.int .i64 x0,.int .i64 x1]:=fun w=>by kernel_rfl
instance (x0:Int) (x1:Int):Kb Tryz.prog 28 [(0,.int .i64 x0),(1,.int .i64 x1)] [.int .i64 x0,.int .i64 x1]:=⟨Zk _ _⟩
theorem Fe:Nh Tryz.prog 28 2:=.mk Tryz.underlying28 rfl (show Tryz.prog.info? 28=some Tryz.t28 from by kernel_rfl) (by kernel_rfl)
instance:AggI Tryz.prog 28 2:=⟨Fe⟩
theorem My:Ca Tryz.prog 66 0 0:=.mk Tryz.underlying66 rfl rfl (show Tryz.prog.info? 3=some Tryz.t3 from by kernel_rfl) (show Tryz.t3.size=1 from by kernel_rfl) rfl
instance:Cs Tryz.prog 66 0 0:=⟨My⟩
theorem Cy:Nh Tryz.prog 66 9:=.mk Tryz.underlying66 rfl (show Tryz.prog.info? 66=some Tryz.t66 from by kernel_rfl) (by kernel_rfl)
instance:AggI Tryz.prog 66 9:=⟨Cy⟩
theorem Aj6:Ca Tryz.prog 66 3 3:=.mk Tryz.underlying66 rfl rfl (show Tryz.prog.info? 32=some Tryz.t32 from by kernel_rfl) (show Tryz.t32.size=2 from by kernel_rfl) rfl
instance:Cs Tryz.prog 66 3 3:=⟨Aj6⟩
theorem Xv:Ca Tryz.prog 32 0 0:=.mk Tryz.underlying32 rfl rfl (show Tryz.prog.info? 3=some Tryz.t3 from by kernel_rfl) (show Tryz.t3.size=1 from by kernel_rfl) rfl
instance:Cs Tryz.prog 32 0 0:=⟨Xv⟩
theorem Vl:Ca Tryz.prog 32 1 1:=.mk Tryz.underlying32 rfl rfl (show Tryz.prog.info? 3=some Tryz.t3 from by kernel_rfl) (show Tryz.t3.size=1 from by kernel_rfl) rfl
instance:Cs Tryz.prog 32 1 1:=⟨Vl⟩
theorem Awl:Ca Tryz.prog 66 4 5:=.mk Tryz.underlying66 rfl rfl (show Tryz.prog.info? 3=some Tryz.t3 from by kernel_rfl) (show Tryz.t3.size=1 from by kernel_rfl) rfl
instance:Cs Tryz.prog 66 4 5:=⟨Awl⟩
theorem Apg:Ca Tryz.prog 66 5 6:=.mk Tryz.underlying66 rfl rfl (show Tryz.prog.info? 3=some Tryz.t3 from by kernel_rfl) (show Tryz.t3.size=1 from by kernel_rfl) rfl
instance:Cs Tryz.prog 66 5 6:=⟨Apg⟩
theorem Aj7:Ca Tryz.prog 66 6 7:=.mk Tryz.underlying66 rfl rfl (show Tryz.prog.info? 3=some Tryz.t3 from by kernel_rfl) (show Tryz.t3.size=1 from by kernel_rfl) rfl
instance:Cs Tryz.prog 66 6 7:=⟨Aj7⟩
theorem Qm:Jb Tryz.prog 47 66 9:=.mk Tryz.underlying47 (show Tryz.prog.info? 66=some Tryz.t66 from by kernel_rfl) (by kernel_rfl)
instance:Mq Tryz.prog 47 66 9:=⟨Qm⟩
theorem Mz:Jd Tryz.prog 66 [.int .i64 (0),.int .i64 (0),.int .i64 (0),.int .i64 (0),.int .i64 (0),.int .i64 (0),.int .i64 (0),.int .i64 (0),.int .i64 (0)]:=⟨_,Tryz.zeroValue66,rfl⟩
instance:Sn Tryz.prog 66 [.int .i64 (0),.int .i64 (0),.int .i64 (0),.int .i64 (0),.int .i64 (0),.int .i64 (0),.int .i64 (0),.int .i64 (0),.int .i64 (0)]:=⟨Mz⟩
theorem Awm:Ca Tryz.prog 54 1 1:=.mk Tryz.underlying54 rfl rfl (show Tryz.prog.info? 3=some Tryz.t3 from by kernel_rfl) (show Tryz.t3.size=1 from by kernel_rfl) rfl
instance:Cs Tryz.prog 54 1 1:=⟨Awm⟩
theorem Aph:Ca Tryz.prog 54 4 4:=.mk Tryz.underlying54 rfl rfl (show Tryz.prog.info? 3=some Tryz.t3 from by kernel_rfl) (show Tryz.t3.size=1 from by kernel_rfl) rfl
instance:Cs Tryz.prog 54 4 4:=⟨Aph⟩
theorem Api:Ca Tryz.prog 54 5 5:=.mk Tryz.underlying54 rfl rfl (show Tryz.prog.info? 3=some Tryz.t3 from by kernel_rfl) (show Tryz.t3.size=1 from by kernel_rfl) rfl
instance:Cs Tryz.prog 54 5 5:=⟨Api⟩
theorem Aj8:Ca Tryz.prog 54 6 6:=.mk Tryz.underlying54 rfl rfl (show Tryz.prog.info? 3=some Tryz.t3 from by kernel_rfl) (show Tryz.t3.size=1 from by kernel_rfl) rfl
instance:Cs Tryz.prog 54 6 6:=⟨Aj8⟩
theorem Apj:Ca Tryz.prog 54 7 7:=.mk Tryz.underlying54 rfl rfl (show Tryz.prog.info? 3=some Tryz.t3 from by kernel_rfl) (show Tryz.t3.size=1 from by kernel_rfl) rfl
instance:Cs Tryz.prog 54 7 7:=⟨Apj⟩
theorem Apk:Ca Tryz.prog 54 8 8:=.mk Tryz.underlying54 rfl rfl (show Tryz.prog.info? 3=some Tryz.t3 from by kernel_rfl) (show Tryz.t3.size=1 from by kernel_rfl) rfl
instance:Cs Tryz.prog 54 8 8:=⟨Apk⟩
theorem Rd (x0:Int) (x1:Int) (x2:Int) (x3:Int) (x4:Int) (x5:Int):Gd Tryz.prog 192 [(0,.int .i64 x0),(1,.int .i64 x1),(2,.int .i64 x2),(3,.int .i64 x3),(4,.int .i64 x4),(5,.int .i64 x5)] [.int .i64 x0,.int .i64 x1,.int .i64 x2,.int .i64 x3,.int .i64 x4,.int .i64 x5]:=fun w=>by kernel_rfl
instance (x0:Int) (x1:Int) (x2:Int) (x3:Int) (x4:Int) (x5:Int):Kb Tryz.prog 192 [(0,.int .i64 x0),(1,.int .i64 x1),(2,.int .i64 x2),(3,.int .i64 x3),(4,.int .i64 x4),(5,.int .i64 x5)] [.int .i64 x0,.int .i64 x1,.int .i64 x2,.int .i64 x3,.int .i64 x4,.int .i64 x5]:=⟨Rd _ _ _ _ _ _⟩
theorem Aj9:Ca Tryz.prog 54 0 0:=.mk Tryz.underlying54 rfl rfl (show Tryz.prog.info? 3=some Tryz.t3 from by kernel_rfl) (show Tryz.t3.size=1 from by kernel_rfl) rfl
instance:Cs Tryz.prog 54 0 0:=⟨Aj9⟩
theorem Awn:Ca Tryz.prog 54 2 2:=.mk Tryz.underlying54 rfl rfl (show Tryz.prog.info? 3=some Tryz.t3 from by kernel_rfl) (show Tryz.t3.size=1 from by kernel_rfl) rfl
instance:Cs Tryz.prog 54 2 2:=⟨Awn⟩
theorem Apl:Ca Tryz.prog 54 3 3:=.mk Tryz.underlying54 rfl rfl (show Tryz.prog.info? 3=some Tryz.t3 from by kernel_rfl) (show Tryz.t3.size=1 from by kernel_rfl) rfl
instance:Cs Tryz.prog 54 3 3:=⟨Apl⟩
theorem Apm:Ca Tryz.prog 54 9 9:=.mk Tryz.underlying54 rfl rfl (show Tryz.prog.info? 3=some Tryz.t3 from by kernel_rfl) (show Tryz.t3.size=1 from by kernel_rfl) rfl
instance:Cs Tryz.prog 54 9 9:=⟨Apm⟩
theorem Om:Nh Tryz.prog 54 10:=.mk Tryz.underlying54 rfl (show Tryz.prog.info? 54=some Tryz.t54 from by kernel_rfl) (by kernel_rfl)
instance:AggI Tryz.prog 54 10:=⟨Om⟩
theorem Ci (x0:Int) (x1:Int) (x2:Int) (x3:Int) (x4:Int) (x5:Int) (x6:Int) (x7:Int) (x8:Int):Cx Tryz.prog 47 1 [(0,.agg #[.int .i64 x0,.int .i64 x1,.int .i64 x2,.int .i64 x3,.int .i64 x4,.int .i64 x5,.int .i64 x6,.int .i64 x7,.int .i64 x8])] 66 [.int .i64 x0,.int .i64 x1,.int .i64 x2,.int .i64 x3,.int .i64 x4,.int .i64 x5,.int .i64 x6,.int .i64 x7,.int .i64 x8]:=fun w=>by kernel_rfl
instance (x0:Int) (x1:Int) (x2:Int) (x3:Int) (x4:Int) (x5:Int) (x6:Int) (x7:Int) (x8:Int):Hl Tryz.prog 47 1 [(0,.agg #[.int .i64 x0,.int .i64 x1,.int .i64 x2,.int .i64 x3,.int .i64 x4,.int .i64 x5,.int .i64 x6,.int .i64 x7,.int .i64 x8])] 66 [.int .i64 x0,.int .i64 x1,.int .i64 x2,.int .i64 x3,.int .i64 x4,.int .i64 x5,.int .i64 x6,.int .i64 x7,.int .i64 x8]:=⟨Ci _ _ _ _ _ _ _ _ _⟩
theorem Ag0:Sz Tryz.prog 47 66 9 72:=⟨Tryz.underlying47,⟨Tryz.t66,.agg #[.int .i64 (0),.int .i64 (0),.int .i64 (0),.int .i64 (0),.int .i64 (0),.int .i64 (0),.int .i64 (0),.int .i64 (0),.int .i64 (0)],by kernel_rfl,by kernel_rfl,by kernel_rfl,by kernel_rfl,rfl⟩,by decide⟩
instance:Zh Tryz.prog 47 66 9 72:=⟨Ag0⟩
theorem Ax8:Jb Tryz.prog 82 28 2:=.mk Tryz.underlying82 (show Tryz.prog.info? 28=some Tryz.t28 from by kernel_rfl) (by kernel_rfl)
instance:Mq Tryz.prog 82 28 2:=⟨Ax8⟩
def Bd (x:Int):List Value:=[.int .i64 (x)]
instance (x0:Int):DecI Bd [.int .i64 (x0)] (x0):=⟨rfl⟩
instance:EncI 3 Bd:=⟨trivial⟩
noncomputable def Cz (p0:Int) (p1:Int) (p2:Int):Option Bool :=
 jn (fun (s2:Bool) =>
 some s2)
 (fun j2=>if p0≤p1 then (j2 (decide (p1≤p2)))
 else (j2 false))
structure Ab where
 X:Int
 Y:Int
noncomputable def Gl (p0:Ab):Option Bool :=
 jn (fun (s2:Bool) =>
 some s2)
 (fun j2=>bnd (Cz (-268435456) p0.X 268435456) fun r2 =>
 if r2=true then (bnd (Cz (-268435456) p0.Y 268435456) fun r7 =>
 j2 r7)
 else (j2 false))
structure Br where
 Lo:Int
 Hi:Int
structure Aa where
 Id:Int
 X:Int
 Y:Int
 Z:Br
 Wide:Int
 Num:Int
 Of:Int
 Class:Int
structure Ae where
 X:Int
 Y:Int
 Z:Br
structure Adt where
 Neg:Bool
 L:List Int
structure Zl where
 N:Adt
 D:List Int
structure S_lidarref06_Spot where
 X:Zl
 Y:Zl
noncomputable def Ck (p0:Aa):Option Ab :=
 some (⟨p0.X,p0.Y⟩:Ab)
noncomputable def Ky (p0:Aa):Option Bool :=
 jn (fun (s2:Bool) =>
 some s2)
 (fun j2=>bnd (Cz 0 p0.Id 1152921504606846976) fun r2 =>
 if r2=true then (bnd (Ck p0) fun r7 =>
 bnd (Gl r7) fun r0 =>
 if r0=true then (bnd (Cz (-268435456) p0.Z.Lo p0.Z.Hi) fun r1 =>
 if r1=true then (if p0.Z.Hi≤268435456 then (bnd (Cz 0 p0.Wide 268435456) fun r3 =>
 if r3=true then (bnd (Cz 1 p0.Num p0.Of) fun r4 =>
 if r4=true then (j2 (decide (p0.Of≤15)))
 else (j2 false))
 else (j2 false))
 else (j2 false))
 else (j2 false))
 else (j2 false))
 else (j2 false))
instance:UndI Tryz.prog 47 (.slice 66):=⟨Tryz.underlying47⟩
def Bx (x:Int):Value:=.int .i64 (x)
theorem Fw (x y:Int) (h:Bx x=Bx y):x=y:=by simpa [Bx] using h
instance (x:Int):UnfI Bx x (.int .i64 (x)):=⟨rfl⟩
instance (x0:Int):Zi Bx (.int .i64 (x0)) (x0):=⟨rfl⟩
instance:ValI Tryz.prog 3 Bx 0:=⟨Fw,fun w=>by kernel_rfl⟩
theorem key3:Maps.Keyed Tryz.prog 3:=Maps.int_keyed Tryz.underlying3
theorem isk3 (x:Int) (h:(-9223372036854775808≤x∧x≤9223372036854775807)):(keyOf Tryz.prog 3 (Bx x)).isSome=true:=Ayn Tryz.underlying3 (Agy h)
instance:KeyI Tryz.prog 3 Bx (fun x=>(-9223372036854775808≤x∧x≤9223372036854775807)):=⟨key3,Fw,isk3⟩
instance:UndI Tryz.prog 172 (.map 3 4):=⟨Tryz.underlying172⟩
def Bl (x:Bool):Value:=.bool (x)
theorem Anw (x y:Bool) (h:Bl x=Bl y):x=y:=by simpa [Bl] using h
instance (x:Bool):UnfI Bl x (.bool (x)):=⟨rfl⟩
instance (x0:Bool):Zi Bl (.bool (x0)) (x0):=⟨rfl⟩
instance:ValI Tryz.prog 4 Bl false:=⟨Anw,fun w=>by kernel_rfl⟩
noncomputable def It (p0:List Aa):((List (Int × Bool)) × Int)→Option (Sum ((List (Int × Bool)) × Int) (Sum Unit Bool)):=fun s0 =>
 if s0.2 < ((((p0).length:Nat):Int)) then (bnd (idx p0 s0.2) fun x0 =>
 jn (fun (s1:Bool) =>
 if s1=true then (some (.inr (.inr (false))))
 else (gd ((-9223372036854775808≤x0.Id∧x0.Id≤9223372036854775807)) <|
 gd ((s0.1).length < 9223372036854775807) <|
 some (.inl (mput s0.1 x0.Id true,w64 (s0.2+1)))))
 (fun j0=>bnd (Ky x0) fun r0 =>
 if r0=true then (gd ((-9223372036854775808≤x0.Id∧x0.Id≤9223372036854775807)) <|
 bnd (some ((mget s0.1 x0.Id).getD false)) fun x1 =>
 j0 x1)
 else (j0 true)))
 else (some (.inr (.inl ())))
noncomputable def Sp (p0:List Aa):Option Bool :=
 if 1024 < ((((p0).length:Nat):Int)) then (some false)
 else (jn (fun (_:Unit) =>
 some true)
 (fun j6=>bnd (lfix (It p0) (([]:List (Int × Bool)),0)) fun t0 =>
 (match t0 with
 | (.inl z0)=>j6 z0
 | (.inr (z0))=>some z0
 )))
def Af (x:Aa):List Value:=[.int .i64 (x.Id),.int .i64 (x.X),.int .i64 (x.Y),.int .i64 (x.Z.Lo),.int .i64 (x.Z.Hi),.int .i64 (x.Wide),.int .i64 (x.Num),.int .i64 (x.Of),.int .i64 (x.Class)]
instance (x0:Int) (x1:Int) (x2:Int) (x3:Int) (x4:Int) (x5:Int) (x6:Int) (x7:Int) (x8:Int):DecI Af [.int .i64 (x0),.int .i64 (x1),.int .i64 (x2),.int .i64 (x3),.int .i64 (x4),.int .i64 (x5),.int .i64 (x6),.int .i64 (x7),.int .i64 (x8)] (⟨x0,x1,x2,⟨x3,x4⟩,x5,x6,x7,x8⟩):=⟨rfl⟩
instance:EncI 66 Af:=⟨trivial⟩
structure Ag where
 Cell:Int
 Reach:Int
 Slope:Int
 Link:Int
 Flat:Int
 Tall:Int
 High:Int
 Low:Int
 Brush:Int
 Few:Int
theorem Atz (x0:Int) (x1:Int) (x2:Int) (x3:Int) (x4:Int) (x5:Int):Ajx Tryz.prog 192 [.int .i64 x0,.int .i64 x1,.int .i64 x2,.int .i64 x3,.int .i64 x4,.int .i64 x5]:=by
 intro j h k w
 have h':j < 6:=h
 match j,h,h' with
 | 0,_,_=>exact (show (Instr.index 192 (.agg ([.int .i64 x0,.int .i64 x1,.int .i64 x2,.int .i64 x3,.int .i64 x4,.int .i64 x5]:List Value).toArray) (.int k ((0:Nat):Int))).run Tryz.prog w = .ok (.int .i64 x0) w by kernel_rfl)
 | 1,_,_=>exact (show (Instr.index 192 (.agg ([.int .i64 x0,.int .i64 x1,.int .i64 x2,.int .i64 x3,.int .i64 x4,.int .i64 x5]:List Value).toArray) (.int k ((1:Nat):Int))).run Tryz.prog w = .ok (.int .i64 x1) w by kernel_rfl)
 | 2,_,_=>exact (show (Instr.index 192 (.agg ([.int .i64 x0,.int .i64 x1,.int .i64 x2,.int .i64 x3,.int .i64 x4,.int .i64 x5]:List Value).toArray) (.int k ((2:Nat):Int))).run Tryz.prog w = .ok (.int .i64 x2) w by kernel_rfl)
 | 3,_,_=>exact (show (Instr.index 192 (.agg ([.int .i64 x0,.int .i64 x1,.int .i64 x2,.int .i64 x3,.int .i64 x4,.int .i64 x5]:List Value).toArray) (.int k ((3:Nat):Int))).run Tryz.prog w = .ok (.int .i64 x3) w by kernel_rfl)
 | 4,_,_=>exact (show (Instr.index 192 (.agg ([.int .i64 x0,.int .i64 x1,.int .i64 x2,.int .i64 x3,.int .i64 x4,.int .i64 x5]:List Value).toArray) (.int k ((4:Nat):Int))).run Tryz.prog w = .ok (.int .i64 x4) w by kernel_rfl)
 | 5,_,_=>exact (show (Instr.index 192 (.agg ([.int .i64 x0,.int .i64 x1,.int .i64 x2,.int .i64 x3,.int .i64 x4,.int .i64 x5]:List Value).toArray) (.int k ((5:Nat):Int))).run Tryz.prog w = .ok (.int .i64 x5) w by kernel_rfl)
instance (x0:Int) (x1:Int) (x2:Int) (x3:Int) (x4:Int) (x5:Int):Atf Tryz.prog 192 [.int .i64 x0,.int .i64 x1,.int .i64 x2,.int .i64 x3,.int .i64 x4,.int .i64 x5]:=⟨Atz _ _ _ _ _ _⟩
instance (x0:Int) (x1:Int) (x2:Int) (x3:Int) (x4:Int) (x5:Int):Ao9 Tryz.prog 192 [.int .i64 x0,.int .i64 x1,.int .i64 x2,.int .i64 x3,.int .i64 x4,.int .i64 x5] (Value.int .i64) [x0,x1,x2,x3,x4,x5]:=⟨Atz _ _ _ _ _ _⟩
noncomputable def Hd (p0:Ag):Int→Option (Sum Int (Sum Unit Bool)):=fun s0 =>
 if s0 < 6 then (bnd (idx [p0.Reach,p0.Flat,p0.Tall,p0.High,p0.Low,p0.Brush] s0) fun x0 =>
 bnd (Cz 0 x0 1000000) fun r0 =>
 if r0=true then (some (.inl (w64 (s0+1))))
 else (some (.inr (.inr (false)))))
 else (some (.inr (.inl ())))
noncomputable def Kz (p0:Ag):Option Bool :=
 jn (fun (_:Unit) =>
 jn (fun (s0:Bool) =>
 some s0)
 (fun j0=>bnd (Cz 1 p0.Cell 10000000) fun r0 =>
 if r0=true then (bnd (Cz 0 p0.Slope 100000) fun r1 =>
 if r1=true then (bnd (Cz 1 p0.Link 1000000) fun r2 =>
 if r2=true then (bnd (Cz 1 p0.Few 1024) fun r3 =>
 j0 r3)
 else (j0 false))
 else (j0 false))
 else (j0 false)))
 (fun j2=>bnd (lfix (Hd p0) 0) fun t0 =>
 (match t0 with
 | (.inl z0)=>j2 z0
 | (.inr (z0))=>some z0
 ))
noncomputable def Nr (p0:Aa) (p1:Aa):Option Bool :=
 jn (fun (s2:Bool) =>
 some s2)
 (fun j2=>if p0.Z.Hi < p1.Z.Hi then (j2 true)
 else (if p0.Z.Hi=p1.Z.Hi then (j2 (decide (p0.Id < p1.Id)))
 else (j2 false)))
noncomputable def Iu (p0:Ab) (p1:Ab):Option Int :=
 some (w64 ((w64 ((w64 (p0.X-p1.X))*(w64 (p0.X-p1.X))))+(w64 ((w64 (p0.Y-p1.Y))*(w64 (p0.Y-p1.Y))))))
noncomputable def Pn (p0:Aa) (p1:Aa) (p2:Int):Option Bool :=
 bnd (Ck p0) fun r3 =>
 bnd (Ck p1) fun r6 =>
 bnd (Iu r3 r6) fun r9 =>
 some (decide (r9≤(w64 (p2*p2))))
noncomputable def Kd (p0:List Aa) (p1:Ag):Option Int :=
 bnd (Kz p1) fun r2 =>
 if r2=true then (bnd (Sp p0) fun r8 =>
 if r8=true then (some 0)
 else (some 70))
 else (some 71)
noncomputable def Lz (p0:List Aa) (p1:Int) (p2:Ag):(Bool × Int)→Option (Sum (Bool × Int) (Sum Bool Bool)):=fun s0 =>
 if s0.2 < ((((p0).length:Nat):Int)) then (jn (fun (s1:Bool) =>
 some (.inl (s1,w64 (s0.2+1))))
 (fun j0=>bnd (idx p0 s0.2) fun x0 =>
 jn (fun (s2:Bool) =>
 if s2=true then (j0 s0.1)
 else (bnd (idx p0 p1) fun x1 =>
 if (w64 (x0.Z.Lo-x1.Z.Hi))≤p2.Low then (some (.inr (.inr (false))))
 else (j0 true)))
 (fun j1=>if s0.2=p1 then (j1 true)
 else (bnd (idx p0 p1) fun x2 =>
 bnd (Pn x2 x0 p2.Link) fun r0 =>
 j1 (!(r0))))))
 else (some (.inr (.inl s0.1)))
noncomputable def Qn (p0:List Aa) (p1:Int) (p2:Ag):Option Bool :=
 jn (fun (s3:Bool) =>
 some s3)
 (fun j3=>bnd (lfix (Lz p0 p1 p2) (false,0)) fun t0 =>
 (match t0 with
 | (.inl z0)=>j3 z0
 | (.inr (z0))=>some z0
 ))
noncomputable def Jj (p0:List Aa) (p1:Ag):((List Aa) × (List Aa) × Int)→Option (Sum ((List Aa) × (List Aa) × Int) ((List Aa) × (List Aa))):=fun s0 =>
 if s0.2.2 < ((((p0).length:Nat):Int)) then (jn (fun (s1:(List Aa) × (List Aa)) =>
 some (.inl (s1.1,s1.2,w64 (s0.2.2+1))))
 (fun j0=>bnd (idx p0 s0.2.2) fun x0 =>
 bnd (Qn p0 s0.2.2 p1) fun r0 =>
 if r0=true then (gd (((s0.2.1).length+1)*72≤140737488355328) <|
 j0 (s0.1,s0.2.1++[x0]))
 else (gd (((s0.1).length+1)*72≤140737488355328) <|
 j0 (s0.1++[x0],s0.2.1))))
 else (some (.inr (s0.1,s0.2.1)))
noncomputable def Jv (p0:List Aa) (p1:Ag):Option ((List Aa) × (List Aa)) :=
 jn (fun (s2:(List Aa) × (List Aa)) =>
 some (s2.1,s2.2))
 (fun j2=>bnd (lfix (Jj p0 p1) (([]:List Aa),([]:List Aa),0)) fun t0 =>
 j2 t0)
noncomputable def Ns (p0:Int) (p1:Int):Option Int :=
 gd (p1≠0) <|
 jn (fun (s3:Int) =>
 some s3)
 (fun j3=>gd (p1≠0) <|
 if (Int.tmod p0 p1) < 0 then (j3 (w64 ((w64 (Int.tdiv p0 p1))-1)))
 else (j3 (w64 (Int.tdiv p0 p1))))
noncomputable def Po (p0:Ab) (p1:Ab) (p2:Ab):Option Int :=
 if 0 < (w64 ((w64 ((w64 (p1.X-p0.X))*(w64 (p2.Y-p0.Y))))-(w64 ((w64 (p1.Y-p0.Y))*(w64 (p2.X-p0.X)))))) then (some 1)
 else (if (w64 ((w64 ((w64 (p1.X-p0.X))*(w64 (p2.Y-p0.Y))))-(w64 ((w64 (p1.Y-p0.Y))*(w64 (p2.X-p0.X)))))) < 0 then (some (-1))
 else (some 0))
noncomputable def Zm (p0:Ab) (p1:Ab) (p2:Ab):Option Bool :=
 jn (fun (s2:Bool) =>
 some s2)
 (fun j2=>bnd (Po p0 p1 p2) fun r4 =>
 if r4=0 then (bnd (Cz (min p0.X p1.X) p2.X (max p0.X p1.X)) fun r9 =>
 if r9=true then (bnd (Cz (min p0.Y p1.Y) p2.Y (max p0.Y p1.Y)) fun r0 =>
 j2 r0)
 else (j2 false))
 else (j2 false))
instance:UndI Tryz.prog 4 (.bool):=⟨Tryz.underlying4⟩
noncomputable def Pd (p0:Ab) (p1:Ab) (p2:Ab):Option Bool :=
 if ((decide (p2.Y < p0.Y)) == (decide (p2.Y < p1.Y)))=true then (some false)
 else (if p0.Y < p1.Y then (bnd (Po p0 p1 p2) fun r9 =>
 some (decide (0 < r9)))
 else (bnd (Po p1 p0 p2) fun r0 =>
 some (decide (0 < r0))))
instance:UndI Tryz.prog 82 (.slice 28):=⟨Tryz.underlying82⟩
noncomputable def Jk (p0:List Ab) (p1:Ab):(Bool × Int × Int × Int)→Option (Sum (Bool × Int × Int × Int) (Sum Bool Bool)):=fun s0 =>
 if s0.2.2.2 < ((((p0).length:Nat):Int)) then (bnd (idx p0 s0.2.2.2) fun x0 =>
 bnd (Zm (⟨s0.2.1,s0.2.2.1⟩:Ab) x0 p1) fun r0 =>
 if r0=true then (some (.inr (.inr (true))))
 else (jn (fun (s1:Bool) =>
 some (.inl (s1,x0.X,x0.Y,w64 (s0.2.2.2+1))))
 (fun j0=>bnd (Pd (⟨s0.2.1,s0.2.2.1⟩:Ab) x0 p1) fun r1 =>
 if r1=true then (j0 (!(s0.1)))
 else (j0 s0.1))))
 else (some (.inr (.inl s0.1)))
noncomputable def Ll (p0:List Ab) (p1:Ab):Option Bool :=
 bnd (idx p0 (w64 (((((p0).length:Nat):Int))-1))) fun x2 =>
 jn (fun (s4:Bool) =>
 some s4)
 (fun j4=>bnd (lfix (Jk p0 p1) (false,x2.X,x2.Y,0)) fun t0 =>
 (match t0 with
 | (.inl z0)=>j4 z0
 | (.inr (z0))=>some z0
 ))
def Ej (x:Ab):List Value:=[.int .i64 (x.X),.int .i64 (x.Y)]
instance (x0:Int) (x1:Int):DecI Ej [.int .i64 (x0),.int .i64 (x1)] (⟨x0,x1⟩):=⟨rfl⟩
instance:EncI 28 Ej:=⟨trivial⟩
noncomputable def Iv (p0:List Ab):Int→Option (Sum Int (Sum Unit Bool)):=fun s0 =>
 if s0 < ((((p0).length:Nat):Int)) then (bnd (idx p0 s0) fun x0 =>
 bnd (Gl x0) fun r0 =>
 if r0=true then (some (.inl (w64 (s0+1))))
 else (some (.inr (.inr (false)))))
 else (some (.inr (.inl ())))
noncomputable def Gx (p0:List Ab):Option Bool :=
 bnd (Cz 3 (((p0).length:Nat):Int) 64) fun r1 =>
 if r1=true then (jn (fun (_:Unit) =>
 some true)
 (fun j5=>bnd (lfix (Iv p0) 0) fun t0 =>
 (match t0 with
 | (.inl z0)=>j5 z0
 | (.inr (z0))=>some z0
 )))
 else (some false)
noncomputable def Gn (p0:List Ab) (p1:Ab):Option (Bool × Int) :=
 bnd (Gx p0) fun r2 =>
 if r2=true then (bnd (Gl p1) fun r8 =>
 if r8=true then (bnd (Ll p0 p1) fun r0 =>
 some (r0,0))
 else (some (false,11)))
 else (some (false,72))
instance Ag1 (p0:Int) (p1:Int) (p2:Int):Con (Cz p0 p1 p2) Tryz.prog 157 (fun _ vs=>vs=[.int .i64 (p0),.int .i64 (p1),.int .i64 (p2)]) (fun _ r=>fun v Ln=>v = .bool (r)∧Ln=[]∧True):=⟨by
 rintro _ _ r rfl hx w hK;unfold Cz at hx;refine CtS Tryz.ntmps157 Tryz.results157 ?_;exact au⟩
theorem Afl (p0:Int) (p1:Int) (p2:Int)  {r:Bool} (hx:Cz p0 p1 p2=some r) (w:World):CtL Tryz.prog 157 [.int .i64 (p0),.int .i64 (p1),.int .i64 (p2)] w fun v Ln=>v = .bool (r)∧Ln=[]∧True:=(Ag1 p0 p1 p2).h [] _ _ rfl hx w (fun _ h=>absurd h List.not_mem_nil)
instance label_validPlace_c (p0:Ab):Con (Gl p0) Tryz.prog 131 (fun _ vs=>vs=[.agg #[.int .i64 (p0.X),.int .i64 (p0.Y)]]) (fun _ r=>fun v Ln=>v = .bool (r)∧Ln=[]∧True):=⟨by
 rintro _ _ r rfl hx w hK;unfold Gl at hx;refine CtS Tryz.ntmps131 Tryz.results131 ?_;exact au⟩
instance Ah8 (p0:Aa):Con (Ck p0) Tryz.prog 156 (fun _ vs=>vs=[.agg #[.int .i64 (p0.Id),.int .i64 (p0.X),.int .i64 (p0.Y),.int .i64 (p0.Z.Lo),.int .i64 (p0.Z.Hi),.int .i64 (p0.Wide),.int .i64 (p0.Num),.int .i64 (p0.Of),.int .i64 (p0.Class)]]) (fun _ r=>fun v Ln=>v = .agg #[.int .i64 (r.X),.int .i64 (r.Y)]∧Ln=[]∧True):=⟨by
 rintro _ _ r rfl hx w hK;unfold Ck at hx;refine CtS Tryz.ntmps156 Tryz.results156 ?_;exact au⟩
theorem Ag2 (p0:Aa)  {r:Ab} (hx:Ck p0=some r) (w:World):CtL Tryz.prog 156 [.agg #[.int .i64 (p0.Id),.int .i64 (p0.X),.int .i64 (p0.Y),.int .i64 (p0.Z.Lo),.int .i64 (p0.Z.Hi),.int .i64 (p0.Wide),.int .i64 (p0.Num),.int .i64 (p0.Of),.int .i64 (p0.Class)]] w fun v Ln=>v = .agg #[.int .i64 (r.X),.int .i64 (r.Y)]∧Ln=[]∧True:=(Ah8 p0).h [] _ _ rfl hx w (fun _ h=>absurd h List.not_mem_nil)
instance label_validPoint_c (p0:Aa):Con (Ky p0) Tryz.prog 83 (fun _ vs=>vs=[.agg #[.int .i64 (p0.Id),.int .i64 (p0.X),.int .i64 (p0.Y),.int .i64 (p0.Z.Lo),.int .i64 (p0.Z.Hi),.int .i64 (p0.Wide),.int .i64 (p0.Num),.int .i64 (p0.Of),.int .i64 (p0.Class)]]) (fun _ r=>fun v Ln=>v = .bool (r)∧Ln=[]∧True):=⟨by
 rintro _ _ r rfl hx w hK;unfold Ky at hx;refine CtS Tryz.ntmps83 Tryz.results83 ?_;refine pre ?_;intros;rename_i hx
 refine Lw ?_;refine pre ?_;intros;rename_i hx
 apply Jr (γ:=Unit) hx [] (fun s2 y2 f=>(2,.bool (s2))::f) [999] (fun s2 y2 l=>l);exact kk
 ·intro s2 y2 hx;exact au
 ·intro _ hx;refine pre ?_;intros;rename_i hx
  refine Cq3 (s:=6) hx rfl (fun _ hx=>?_) (fun _ hx=>?_)
  ·refine pre ?_;intros;rename_i hx
   refine Cq3 (s:=11) hx rfl (fun _ hx=>?_) (fun _ hx=>?_)
   ·exact au
   ·exact au
  ·exact au⟩
instance label_Valid_c (p0:List Aa):Con (Sp p0) Tryz.prog 63 (fun K vs=>∃ (A0_0:Option Addr) (c0_0:Nat),vs=[.slice (A0_0) ((p0).length) (c0_0)]∧Has K A0_0 (p0).length c0_0 9 Af (p0)∧True) (fun _ r=>fun v Ln=>v = .bool (r)∧Ln=[]∧True):=⟨by
 rintro K _ r ⟨A0_0,c0_0,rfl,ha0,-⟩ hx w hK;replace ha0:=Has.lo ha0 hK;unfold Sp at hx;refine CtS Tryz.ntmps63 Tryz.results63 ?_;refine pre ?_;intros;rename_i hx
 refine Cq1 (s:=8) hx rfl (fun _ hx=>?_) (fun _ hx=>?_)
 ·exact au
 ·refine pre ?_;intros;rename_i hx
  refine Lw ?_;refine pre ?_;intros;rename_i hx
  apply Jr (γ:=Unit) hx [] (fun s6 y6 f=>f) [999] (fun s6 y6 l=>l);exact kk
  ·intro s6 y6 hx;exact au
  ·intro _ hx;refine pre ?_;intros;rename_i hx
   apply Lr (γ:=(Nat)) hx [12,13] (fun s0 y0 f=>(3,.map (some y0))::(14,.int .i64 (s0.2))::f) [999] (fun s0 y0 l=>Bc Tryz.prog 3 Bx Bl y0 (s0.1)::l) _;exact kk;exact sk;intro s0 y0 x0 hx _;unfold It at hx
   exact au⟩
instance label_ValidRules_c (p0:Ag):Con (Kz p0) Tryz.prog 82 (fun _ vs=>vs=[.agg #[.int .i64 (p0.Cell),.int .i64 (p0.Reach),.int .i64 (p0.Slope),.int .i64 (p0.Link),.int .i64 (p0.Flat),.int .i64 (p0.Tall),.int .i64 (p0.High),.int .i64 (p0.Low),.int .i64 (p0.Brush),.int .i64 (p0.Few)]]) (fun _ r=>fun v Ln=>v = .bool (r)∧Ln=[]∧True):=⟨by
 rintro _ _ r rfl hx w hK;unfold Kz at hx;refine CtS Tryz.ntmps82 Tryz.results82 ?_;refine pre ?_;intros;rename_i hx
 refine Lw ?_;refine pre ?_;intros;rename_i hx
 apply Jr (γ:=Unit) hx [1] (fun s2 y2 f=>f) [0,999] (fun s2 y2 l=>l);exact kk
 ·intro s2 y2 hx;exact au
 ·intro _ hx;refine pre ?_;intros;rename_i hx
  apply Lr (γ:=Unit) hx [1,17] (fun s0 y0 f=>(18,.int .i64 (s0))::f) [0,999] (fun s0 y0 l=>l) ();exact kk;exact sk;intro s0 y0 x0 hx _;unfold Hd at hx
  exact au⟩
instance Ah9 (p0:Aa) (p1:Aa):Con (Nr p0 p1) Tryz.prog 138 (fun _ vs=>vs=[.agg #[.int .i64 (p0.Id),.int .i64 (p0.X),.int .i64 (p0.Y),.int .i64 (p0.Z.Lo),.int .i64 (p0.Z.Hi),.int .i64 (p0.Wide),.int .i64 (p0.Num),.int .i64 (p0.Of),.int .i64 (p0.Class)],.agg #[.int .i64 (p1.Id),.int .i64 (p1.X),.int .i64 (p1.Y),.int .i64 (p1.Z.Lo),.int .i64 (p1.Z.Hi),.int .i64 (p1.Wide),.int .i64 (p1.Num),.int .i64 (p1.Of),.int .i64 (p1.Class)]]) (fun _ r=>fun v Ln=>v = .bool (r)∧Ln=[]∧True):=⟨by
 rintro _ _ r rfl hx w hK;unfold Nr at hx;refine CtS Tryz.ntmps138 Tryz.results138 ?_;exact au⟩
theorem Zn (p0:Aa) (p1:Aa)  {r:Bool} (hx:Nr p0 p1=some r) (w:World):CtL Tryz.prog 138 [.agg #[.int .i64 (p0.Id),.int .i64 (p0.X),.int .i64 (p0.Y),.int .i64 (p0.Z.Lo),.int .i64 (p0.Z.Hi),.int .i64 (p0.Wide),.int .i64 (p0.Num),.int .i64 (p0.Of),.int .i64 (p0.Class)],.agg #[.int .i64 (p1.Id),.int .i64 (p1.X),.int .i64 (p1.Y),.int .i64 (p1.Z.Lo),.int .i64 (p1.Z.Hi),.int .i64 (p1.Wide),.int .i64 (p1.Num),.int .i64 (p1.Of),.int .i64 (p1.Class)]] w fun v Ln=>v = .bool (r)∧Ln=[]∧True:=(Ah9 p0 p1).h [] _ _ rfl hx w (fun _ h=>absurd h List.not_mem_nil)
instance surface_Square_c (p0:Ab) (p1:Ab):Con (Iu p0 p1) Tryz.prog 164 (fun _ vs=>vs=[.agg #[.int .i64 (p0.X),.int .i64 (p0.Y)],.agg #[.int .i64 (p1.X),.int .i64 (p1.Y)]]) (fun _ r=>fun v Ln=>v = .int .i64 (r)∧Ln=[]∧True):=⟨by
 rintro _ _ r rfl hx w hK;unfold Iu at hx;have:=dl 1 [0,1,0,1,0,0,1,0,1,0,2,2] [0,1,2,3,4,5,6,7,8,9,10,11];refine CtS Tryz.ntmps164 Tryz.results164 ?_;exact au⟩
instance Aka (p0:Aa) (p1:Aa) (p2:Int):Con (Pn p0 p1 p2) Tryz.prog 217 (fun _ vs=>vs=[.agg #[.int .i64 (p0.Id),.int .i64 (p0.X),.int .i64 (p0.Y),.int .i64 (p0.Z.Lo),.int .i64 (p0.Z.Hi),.int .i64 (p0.Wide),.int .i64 (p0.Num),.int .i64 (p0.Of),.int .i64 (p0.Class)],.agg #[.int .i64 (p1.Id),.int .i64 (p1.X),.int .i64 (p1.Y),.int .i64 (p1.Z.Lo),.int .i64 (p1.Z.Hi),.int .i64 (p1.Wide),.int .i64 (p1.Num),.int .i64 (p1.Of),.int .i64 (p1.Class)],.int .i64 (p2)]) (fun _ r=>fun v Ln=>v = .bool (r)∧Ln=[]∧True):=⟨by
 rintro _ _ r rfl hx w hK;unfold Pn at hx;have:=dl 1 [1,2,1,2,2,0,0,0,0,2] [0,2,5,6,7,1,3,4,8,9];refine CtS Tryz.ntmps217 Tryz.results217 ?_;exact au⟩
theorem Aia (p0:Aa) (p1:Aa) (p2:Int)  {r:Bool} (hx:Pn p0 p1 p2=some r) (w:World):CtL Tryz.prog 217 [.agg #[.int .i64 (p0.Id),.int .i64 (p0.X),.int .i64 (p0.Y),.int .i64 (p0.Z.Lo),.int .i64 (p0.Z.Hi),.int .i64 (p0.Wide),.int .i64 (p0.Num),.int .i64 (p0.Of),.int .i64 (p0.Class)],.agg #[.int .i64 (p1.Id),.int .i64 (p1.X),.int .i64 (p1.Y),.int .i64 (p1.Z.Lo),.int .i64 (p1.Z.Hi),.int .i64 (p1.Wide),.int .i64 (p1.Num),.int .i64 (p1.Of),.int .i64 (p1.Class)],.int .i64 (p2)] w fun v Ln=>v = .bool (r)∧Ln=[]∧True:=(Aka p0 p1 p2).h [] _ _ rfl hx w (fun _ h=>absurd h List.not_mem_nil)
instance Afm (p0:List Aa) (p1:Ag):Con (Kd p0 p1) Tryz.prog 66 (fun K vs=>∃ (A0_0:Option Addr) (c0_0:Nat),vs=[.slice (A0_0) ((p0).length) (c0_0),.agg #[.int .i64 (p1.Cell),.int .i64 (p1.Reach),.int .i64 (p1.Slope),.int .i64 (p1.Link),.int .i64 (p1.Flat),.int .i64 (p1.Tall),.int .i64 (p1.High),.int .i64 (p1.Low),.int .i64 (p1.Brush),.int .i64 (p1.Few)]]∧Has K A0_0 (p0).length c0_0 9 Af (p0)∧True) (fun _ r=>fun v Ln=>v = .int .i64 (r)∧Ln=[]∧True):=⟨by
 rintro K _ r ⟨A0_0,c0_0,rfl,ha0,-⟩ hx w hK;replace ha0:=Has.lo ha0 hK;unfold Kd at hx;refine CtS Tryz.ntmps66 Tryz.results66 ?_;exact au⟩
theorem Wu (p0:List Aa) (p1:Ag) {K:List Ent} {A0_0:Option Addr} {c0_0:Nat} (ha0:Has K A0_0 (p0).length c0_0 9 Af (p0)) {r:Int} (hx:Kd p0 p1=some r) (w:World) (hK:∀ e∈K,Ent.ok w e):CtL Tryz.prog 66 [.slice (A0_0) ((p0).length) (c0_0),.agg #[.int .i64 (p1.Cell),.int .i64 (p1.Reach),.int .i64 (p1.Slope),.int .i64 (p1.Link),.int .i64 (p1.Flat),.int .i64 (p1.Tall),.int .i64 (p1.High),.int .i64 (p1.Low),.int .i64 (p1.Brush),.int .i64 (p1.Few)]] w fun v Ln=>v = .int .i64 (r)∧Ln=[]∧True:=(Afm p0 p1).h K _ _ ⟨_,_,rfl,ha0,trivial⟩ hx w hK
instance label_isSunk_c (p0:List Aa) (p1:Int) (p2:Ag):Con (Qn p0 p1 p2) Tryz.prog 154 (fun K vs=>∃ (A0_0:Option Addr) (c0_0:Nat),vs=[.slice (A0_0) ((p0).length) (c0_0),.int .i64 (p1),.agg #[.int .i64 (p2.Cell),.int .i64 (p2.Reach),.int .i64 (p2.Slope),.int .i64 (p2.Link),.int .i64 (p2.Flat),.int .i64 (p2.Tall),.int .i64 (p2.High),.int .i64 (p2.Low),.int .i64 (p2.Brush),.int .i64 (p2.Few)]]∧Has K A0_0 (p0).length c0_0 9 Af (p0)∧True) (fun _ r=>fun v Ln=>v = .bool (r)∧Ln=[]∧True):=⟨by
 rintro K _ r ⟨A0_0,c0_0,rfl,ha0,-⟩ hx w hK;replace ha0:=Has.lo ha0 hK;unfold Qn at hx;have:=dl 5 [0,0,0,0,0,0,0,1,1,0,1,2,0,0] [0,1,2,3,4,5,6,7,8,9,10,11,12,13];have:=dl 6 [0,0,1,0,0,0,0,0,1,0,0,1,0] [0,1,2,3,4,5,6,7,8,9,10,11,12];refine CtS Tryz.ntmps154 Tryz.results154 ?_;refine pre ?_;intros;rename_i hx
 refine Lw ?_;refine pre ?_;intros;rename_i hx
 refine Lw ?_;refine pre ?_;intros;rename_i hx
 apply Jr (γ:=Unit) hx [] (fun s3 y3 f=>(7,.bool (s3))::f) [999] (fun s3 y3 l=>l);exact kk
 ·intro s3 y3 hx;exact au
 ·intro _ hx;refine pre ?_;intros;rename_i hx
  apply Lr (γ:=Unit) hx [0,1,5,10,11] (fun s0 y0 f=>(7,.bool (s0.1))::(12,.int .i64 (s0.2))::f) [0,999] (fun s0 y0 l=>l) ();exact kk;exact sk;intro s0 y0 x0 hx _;unfold Lz at hx
  refine pre ?_;intros;rename_i hx
  refine Cq1 (s:=13) hx rfl (fun _ hx=>?_) (fun _ hx=>?_)
  ·refine pre ?_;intros;rename_i hx
   apply Jr (γ:=Unit) hx [0,1,5,10,11,12] (fun s1 y1 f=>(7,.bool (s1))::f) [0,999] (fun s1 y1 l=>l);exact kk
   ·intro s1 y1 hx;exact au
   ·intro _ hx;refine pre ?_;intros;rename_i hx
    refine Lw ?_;refine pre ?_;intros;rename_i hx
    apply Jr (γ:=Unit) hx [0,1,5,7,9,10,11,12] (fun s2 y2 f=>(30,.bool (s2))::f) [0,1,999] (fun s2 y2 l=>l);exact kk
    ·intro s2 y2 hx;exact au
    ·intro _ hx;exact au
  ·exact au⟩
instance Ag3 (p0:List Aa) (p1:Ag):Con (Jv p0 p1) Tryz.prog 78 (fun K vs=>∃ (A0_0:Option Addr) (c0_0:Nat),vs=[.slice (A0_0) ((p0).length) (c0_0),.agg #[.int .i64 (p1.Cell),.int .i64 (p1.Reach),.int .i64 (p1.Slope),.int .i64 (p1.Link),.int .i64 (p1.Flat),.int .i64 (p1.Tall),.int .i64 (p1.High),.int .i64 (p1.Low),.int .i64 (p1.Brush),.int .i64 (p1.Few)]]∧Has K A0_0 (p0).length c0_0 9 Af (p0)∧True) (fun _ r=>fun v Ln=>∃ (A0:Option Addr) (c0:Nat) (A2:Option Addr) (c2:Nat),v = .tuple #[.slice (A0) ((r.1).length) (c0),.slice (A2) ((r.2).length) (c2)]∧Ln=[.r A0 (r.1).length c0 66 9 ((r.1).flatMap Af),.r A2 (r.2).length c2 66 9 ((r.2).flatMap Af)]∧True):=⟨by
 rintro K _ r ⟨A0_0,c0_0,rfl,ha0,-⟩ hx w hK;replace ha0:=Has.lo ha0 hK;unfold Jv at hx;refine CtS Tryz.ntmps78 Tryz.results78 ?_;refine pre ?_;intros;rename_i hx
 refine Lw ?_;refine pre ?_;intros;rename_i hx
 apply Jr (γ:=(Option Addr) × Nat × (Option Addr) × Nat) hx [] (fun s2 y2 f=>(4,.slice (y2.1) ((s2.1).length) (y2.2.1))::(5,.slice (y2.2.2.1) ((s2.2).length) (y2.2.2.2))::f) [999] (fun s2 y2 l=>.r (y2.1) ((s2.1).length) (y2.2.1) 66 9 ((s2.1).flatMap Af) :: .r (y2.2.2.1) ((s2.2).length) (y2.2.2.2) 66 9 ((s2.2).flatMap Af)::l);exact kk
 ·intro s2 y2 hx;exact au
 ·intro _ hx;refine pre ?_;intros;rename_i hx
  refine Bt 66 9 ?_
  refine Bt 66 9 ?_
  apply Lr (γ:=(Option Addr) × Nat × (Option Addr) × Nat) hx [0,3,8,9] (fun s0 y0 f=>(4,.slice (y0.1) ((s0.1).length) (y0.2.1))::(5,.slice (y0.2.2.1) ((s0.2.1).length) (y0.2.2.2))::(10,.int .i64 (s0.2.2))::f) [2,999] (fun s0 y0 l=>.r (y0.1) ((s0.1).length) (y0.2.1) 66 9 ((s0.1).flatMap Af) :: .r (y0.2.2.1) ((s0.2.1).length) (y0.2.2.2) 66 9 ((s0.2.1).flatMap Af)::l) (_,_,_,_);exact kk;exact sk;intro s0 y0 x0 hx _;unfold Jj at hx
  exact au⟩
theorem Yn (p0:List Aa) (p1:Ag) {K:List Ent} {A0_0:Option Addr} {c0_0:Nat} (ha0:Has K A0_0 (p0).length c0_0 9 Af (p0)) {r:(List Aa) × (List Aa)} (hx:Jv p0 p1=some r) (w:World) (hK:∀ e∈K,Ent.ok w e):CtL Tryz.prog 78 [.slice (A0_0) ((p0).length) (c0_0),.agg #[.int .i64 (p1.Cell),.int .i64 (p1.Reach),.int .i64 (p1.Slope),.int .i64 (p1.Link),.int .i64 (p1.Flat),.int .i64 (p1.Tall),.int .i64 (p1.High),.int .i64 (p1.Low),.int .i64 (p1.Brush),.int .i64 (p1.Few)]] w fun v Ln=>∃ (A0:Option Addr) (c0:Nat) (A2:Option Addr) (c2:Nat),v = .tuple #[.slice (A0) ((r.1).length) (c0),.slice (A2) ((r.2).length) (c2)]∧Ln=[.r A0 (r.1).length c0 66 9 ((r.1).flatMap Af),.r A2 (r.2).length c2 66 9 ((r.2).flatMap Af)]∧True:=(Ag3 p0 p1).h K _ _ ⟨_,_,rfl,ha0,trivial⟩ hx w hK
instance Aib (p0:Int) (p1:Int):Con (Ns p0 p1) Tryz.prog 152 (fun _ vs=>vs=[.int .i64 (p0),.int .i64 (p1)]) (fun _ r=>fun v Ln=>v = .int .i64 (r)∧Ln=[]∧True):=⟨by
 rintro _ _ r rfl hx w hK;unfold Ns at hx;refine CtS Tryz.ntmps152 Tryz.results152 ?_;exact au⟩
theorem Zo (p0:Int) (p1:Int)  {r:Int} (hx:Ns p0 p1=some r) (w:World):CtL Tryz.prog 152 [.int .i64 (p0),.int .i64 (p1)] w fun v Ln=>v = .int .i64 (r)∧Ln=[]∧True:=(Aib p0 p1).h [] _ _ rfl hx w (fun _ h=>absurd h List.not_mem_nil)
instance label_turn_c (p0:Ab) (p1:Ab) (p2:Ab):Con (Po p0 p1 p2) Tryz.prog 284 (fun _ vs=>vs=[.agg #[.int .i64 (p0.X),.int .i64 (p0.Y)],.agg #[.int .i64 (p1.X),.int .i64 (p1.Y)],.agg #[.int .i64 (p2.X),.int .i64 (p2.Y)]]) (fun _ r=>fun v Ln=>v = .int .i64 (r)∧Ln=[]∧True):=⟨by
 rintro _ _ r rfl hx w hK;unfold Po at hx;refine CtS Tryz.ntmps284 Tryz.results284 ?_;exact au⟩
instance label_on_c (p0:Ab) (p1:Ab) (p2:Ab):Con (Zm p0 p1 p2) Tryz.prog 204 (fun _ vs=>vs=[.agg #[.int .i64 (p0.X),.int .i64 (p0.Y)],.agg #[.int .i64 (p1.X),.int .i64 (p1.Y)],.agg #[.int .i64 (p2.X),.int .i64 (p2.Y)]]) (fun _ r=>fun v Ln=>v = .bool (r)∧Ln=[]∧True):=⟨by
 rintro _ _ r rfl hx w hK;unfold Zm at hx;refine CtS Tryz.ntmps204 Tryz.results204 ?_;exact au⟩
instance label_crosses_c (p0:Ab) (p1:Ab) (p2:Ab):Con (Pd p0 p1 p2) Tryz.prog 205 (fun _ vs=>vs=[.agg #[.int .i64 (p0.X),.int .i64 (p0.Y)],.agg #[.int .i64 (p1.X),.int .i64 (p1.Y)],.agg #[.int .i64 (p2.X),.int .i64 (p2.Y)]]) (fun _ r=>fun v Ln=>v = .bool (r)∧Ln=[]∧True):=⟨by
 rintro _ _ r rfl hx w hK;unfold Pd at hx;refine CtS Tryz.ntmps205 Tryz.results205 ?_;exact au⟩
instance label_inRing_c (p0:List Ab) (p1:Ab):Con (Ll p0 p1) Tryz.prog 132 (fun K vs=>∃ (A0_0:Option Addr) (c0_0:Nat),vs=[.slice (A0_0) ((p0).length) (c0_0),.agg #[.int .i64 (p1.X),.int .i64 (p1.Y)]]∧Has K A0_0 (p0).length c0_0 2 Ej (p0)∧True) (fun _ r=>fun v Ln=>v = .bool (r)∧Ln=[]∧True):=⟨by
 rintro K _ r ⟨A0_0,c0_0,rfl,ha0,-⟩ hx w hK;replace ha0:=Has.lo ha0 hK;unfold Ll at hx;refine CtS Tryz.ntmps132 Tryz.results132 ?_;refine pre ?_;intros;rename_i hx
 apply Jr (γ:=Unit) hx [] (fun s4 y4 f=>(5,.bool (s4))::f) [999] (fun s4 y4 l=>l);exact kk
 ·intro s4 y4 hx;exact au
 ·intro _ hx;refine pre ?_;intros;rename_i hx
  apply Lr (γ:=(Nat)) hx [3,15,16] (fun s44 y44 f=>(5,.bool (s44.1))::(6,.pointer (some ⟨y44,0,none⟩))::(17,.int .i64 (s44.2.2.2))::f) [1,999] (fun s44 y44 l=>.m y44 28 [.int .i64 (s44.2.1),.int .i64 (s44.2.2.1)]::l) _;exact kk;exact sk;intro s44 y44 x44 hx _;unfold Jk at hx
  exact au⟩
instance Aco (p0:List Ab):Con (Gx p0) Tryz.prog 130 (fun K vs=>∃ (A0_0:Option Addr) (c0_0:Nat),vs=[.slice (A0_0) ((p0).length) (c0_0)]∧Has K A0_0 (p0).length c0_0 2 Ej (p0)∧True) (fun _ r=>fun v Ln=>v = .bool (r)∧Ln=[]∧True):=⟨by
 rintro K _ r ⟨A0_0,c0_0,rfl,ha0,-⟩ hx w hK;replace ha0:=Has.lo ha0 hK;unfold Gx at hx;refine CtS Tryz.ntmps130 Tryz.results130 ?_;refine pre ?_;intros;rename_i hx
 refine Cq4 (s:=8) hx rfl (fun _ hx=>?_) (fun _ hx=>?_)
 ·exact au
 ·refine pre ?_;intros;rename_i hx
  apply Jr (γ:=Unit) hx [] (fun s5 y5 f=>f) [999] (fun s5 y5 l=>l);exact kk
  ·intro s5 y5 hx;exact au
  ·intro _ hx;refine pre ?_;intros;rename_i hx
   apply Lr (γ:=Unit) hx [9,10] (fun s29 y29 f=>(11,.int .i64 (s29))::f) [999] (fun s29 y29 l=>l) ();exact kk;exact sk;intro s29 y29 x29 hx _;unfold Iv at hx
   exact au⟩
theorem Abm (p0:List Ab) {K:List Ent} {A0_0:Option Addr} {c0_0:Nat} (ha0:Has K A0_0 (p0).length c0_0 2 Ej (p0)) {r:Bool} (hx:Gx p0=some r) (w:World) (hK:∀ e∈K,Ent.ok w e):CtL Tryz.prog 130 [.slice (A0_0) ((p0).length) (c0_0)] w fun v Ln=>v = .bool (r)∧Ln=[]∧True:=(Aco p0).h K _ _ ⟨_,_,rfl,ha0,trivial⟩ hx w hK
instance label_Within_c (p0:List Ab) (p1:Ab):Con (Gn p0 p1) Tryz.prog 62 (fun K vs=>∃ (A0_0:Option Addr) (c0_0:Nat),vs=[.slice (A0_0) ((p0).length) (c0_0),.agg #[.int .i64 (p1.X),.int .i64 (p1.Y)]]∧Has K A0_0 (p0).length c0_0 2 Ej (p0)∧True) (fun _ r=>fun v Ln=>v = .tuple #[.bool (r.1),.int .i64 (r.2)]∧Ln=[]∧True):=⟨by
 rintro K _ r ⟨A0_0,c0_0,rfl,ha0,-⟩ hx w hK;replace ha0:=Has.lo ha0 hK;unfold Gn at hx;refine CtS Tryz.ntmps62 Tryz.results62 ?_;exact au⟩
end Go.Proofs.YtbkobeeileemjaaGreat
