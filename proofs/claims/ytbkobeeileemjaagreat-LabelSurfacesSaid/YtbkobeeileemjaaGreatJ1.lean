/- Walks of the program, with their plain functions: points, rules, rings. -/
import Derived.Test.YtbkobeeileemjaaGreatFlow17
import Derived.Test.YtbkobeeileemjaaGreatProg
namespace Go.Proofs.YtbkobeeileemjaaGreat
open Go Go.RowKit
theorem mixed:Tryz.prog.follows .mixedOrders=true:=by kernel_rfl
theorem Cl:Cx Tryz.prog 28 0 0:=.mk Tryz.underlying28 rfl rfl (show Tryz.prog.info? 3=some Tryz.t3 from by kernel_rfl) (show Tryz.t3.size=1 from by kernel_rfl) rfl
theorem one3:Pq Tryz.prog 3:=.mk Tryz.underlying3 rfl (show Tryz.prog.info? 3=some Tryz.t3 from by kernel_rfl) (by kernel_rfl)
theorem Ck:Cx Tryz.prog 28 1 1:=.mk Tryz.underlying28 rfl rfl (show Tryz.prog.info? 3=some Tryz.t3 from by kernel_rfl) (show Tryz.t3.size=1 from by kernel_rfl) rfl
theorem Sb:Uh Tryz.prog 28 [.int .i64 (0),.int .i64 (0)]:=⟨_,Tryz.zeroValue28,rfl⟩
theorem Si:Cx Tryz.prog 66 1 1:=.mk Tryz.underlying66 rfl rfl (show Tryz.prog.info? 3=some Tryz.t3 from by kernel_rfl) (show Tryz.t3.size=1 from by kernel_rfl) rfl
theorem Sj:Cx Tryz.prog 66 2 2:=.mk Tryz.underlying66 rfl rfl (show Tryz.prog.info? 3=some Tryz.t3 from by kernel_rfl) (show Tryz.t3.size=1 from by kernel_rfl) rfl
theorem Dy (x0:Int) (x1:Int):Js Tryz.prog 28 [(0,.int .i64 x0),(1,.int .i64 x1)] [.int .i64 x0,.int .i64 x1]:=fun w=>by kernel_rfl
theorem Bv:Pp Tryz.prog 28 2:=.mk Tryz.underlying28 rfl (show Tryz.prog.info? 28=some Tryz.t28 from by kernel_rfl) (by kernel_rfl)
theorem Jz:Cx Tryz.prog 66 0 0:=.mk Tryz.underlying66 rfl rfl (show Tryz.prog.info? 3=some Tryz.t3 from by kernel_rfl) (show Tryz.t3.size=1 from by kernel_rfl) rfl
theorem Fc:Pp Tryz.prog 66 9:=.mk Tryz.underlying66 rfl (show Tryz.prog.info? 66=some Tryz.t66 from by kernel_rfl) (by kernel_rfl)
theorem Kz:Cx Tryz.prog 66 3 3:=.mk Tryz.underlying66 rfl rfl (show Tryz.prog.info? 32=some Tryz.t32 from by kernel_rfl) (show Tryz.t32.size=2 from by kernel_rfl) rfl
theorem Sk:Cx Tryz.prog 32 0 0:=.mk Tryz.underlying32 rfl rfl (show Tryz.prog.info? 3=some Tryz.t3 from by kernel_rfl) (show Tryz.t3.size=1 from by kernel_rfl) rfl
theorem Mk:Cx Tryz.prog 32 1 1:=.mk Tryz.underlying32 rfl rfl (show Tryz.prog.info? 3=some Tryz.t3 from by kernel_rfl) (show Tryz.t3.size=1 from by kernel_rfl) rfl
theorem Aky:Cx Tryz.prog 66 4 5:=.mk Tryz.underlying66 rfl rfl (show Tryz.prog.info? 3=some Tryz.t3 from by kernel_rfl) (show Tryz.t3.size=1 from by kernel_rfl) rfl
theorem Agt:Cx Tryz.prog 66 5 6:=.mk Tryz.underlying66 rfl rfl (show Tryz.prog.info? 3=some Tryz.t3 from by kernel_rfl) (show Tryz.t3.size=1 from by kernel_rfl) rfl
theorem Abb:Cx Tryz.prog 66 6 7:=.mk Tryz.underlying66 rfl rfl (show Tryz.prog.info? 3=some Tryz.t3 from by kernel_rfl) (show Tryz.t3.size=1 from by kernel_rfl) rfl
theorem Na:Ka Tryz.prog 47 66 9:=.mk Tryz.underlying47 (show Tryz.prog.info? 66=some Tryz.t66 from by kernel_rfl) (by kernel_rfl)
theorem Xn:Uh Tryz.prog 66 [.int .i64 (0),.int .i64 (0),.int .i64 (0),.int .i64 (0),.int .i64 (0),.int .i64 (0),.int .i64 (0),.int .i64 (0),.int .i64 (0)]:=⟨_,Tryz.zeroValue66,rfl⟩
theorem Aqa:Cx Tryz.prog 54 1 1:=.mk Tryz.underlying54 rfl rfl (show Tryz.prog.info? 3=some Tryz.t3 from by kernel_rfl) (show Tryz.t3.size=1 from by kernel_rfl) rfl
theorem Aqb:Cx Tryz.prog 54 4 4:=.mk Tryz.underlying54 rfl rfl (show Tryz.prog.info? 3=some Tryz.t3 from by kernel_rfl) (show Tryz.t3.size=1 from by kernel_rfl) rfl
theorem Aqc:Cx Tryz.prog 54 5 5:=.mk Tryz.underlying54 rfl rfl (show Tryz.prog.info? 3=some Tryz.t3 from by kernel_rfl) (show Tryz.t3.size=1 from by kernel_rfl) rfl
theorem Aqd:Cx Tryz.prog 54 6 6:=.mk Tryz.underlying54 rfl rfl (show Tryz.prog.info? 3=some Tryz.t3 from by kernel_rfl) (show Tryz.t3.size=1 from by kernel_rfl) rfl
theorem Akz:Cx Tryz.prog 54 7 7:=.mk Tryz.underlying54 rfl rfl (show Tryz.prog.info? 3=some Tryz.t3 from by kernel_rfl) (show Tryz.t3.size=1 from by kernel_rfl) rfl
theorem Aqe:Cx Tryz.prog 54 8 8:=.mk Tryz.underlying54 rfl rfl (show Tryz.prog.info? 3=some Tryz.t3 from by kernel_rfl) (show Tryz.t3.size=1 from by kernel_rfl) rfl
theorem Qq (x0:Int) (x1:Int) (x2:Int) (x3:Int) (x4:Int) (x5:Int):Js Tryz.prog 192 [(0,.int .i64 x0),(1,.int .i64 x1),(2,.int .i64 x2),(3,.int .i64 x3),(4,.int .i64 x4),(5,.int .i64 x5)] [.int .i64 x0,.int .i64 x1,.int .i64 x2,.int .i64 x3,.int .i64 x4,.int .i64 x5]:=fun w=>by kernel_rfl
theorem Agu:Cx Tryz.prog 54 0 0:=.mk Tryz.underlying54 rfl rfl (show Tryz.prog.info? 3=some Tryz.t3 from by kernel_rfl) (show Tryz.t3.size=1 from by kernel_rfl) rfl
theorem Aqf:Cx Tryz.prog 54 2 2:=.mk Tryz.underlying54 rfl rfl (show Tryz.prog.info? 3=some Tryz.t3 from by kernel_rfl) (show Tryz.t3.size=1 from by kernel_rfl) rfl
theorem Ak0:Cx Tryz.prog 54 3 3:=.mk Tryz.underlying54 rfl rfl (show Tryz.prog.info? 3=some Tryz.t3 from by kernel_rfl) (show Tryz.t3.size=1 from by kernel_rfl) rfl
theorem Aqg:Cx Tryz.prog 54 9 9:=.mk Tryz.underlying54 rfl rfl (show Tryz.prog.info? 3=some Tryz.t3 from by kernel_rfl) (show Tryz.t3.size=1 from by kernel_rfl) rfl
theorem Af6:Pp Tryz.prog 54 10:=.mk Tryz.underlying54 rfl (show Tryz.prog.info? 54=some Tryz.t54 from by kernel_rfl) (by kernel_rfl)
theorem Cf (x0:Int) (x1:Int) (x2:Int) (x3:Int) (x4:Int) (x5:Int) (x6:Int) (x7:Int) (x8:Int):Dn Tryz.prog 47 1 [(0,.agg #[.int .i64 x0,.int .i64 x1,.int .i64 x2,.int .i64 x3,.int .i64 x4,.int .i64 x5,.int .i64 x6,.int .i64 x7,.int .i64 x8])] 66 [.int .i64 x0,.int .i64 x1,.int .i64 x2,.int .i64 x3,.int .i64 x4,.int .i64 x5,.int .i64 x6,.int .i64 x7,.int .i64 x8]:=fun w=>by kernel_rfl
theorem Aeh:Ui Tryz.prog 47 66 9 72:=⟨Tryz.underlying47,⟨Tryz.t66,.agg #[.int .i64 (0),.int .i64 (0),.int .i64 (0),.int .i64 (0),.int .i64 (0),.int .i64 (0),.int .i64 (0),.int .i64 (0),.int .i64 (0)],by kernel_rfl,by kernel_rfl,by kernel_rfl,by kernel_rfl,rfl⟩,by decide⟩
theorem Ah7:Ka Tryz.prog 82 28 2:=.mk Tryz.underlying82 (show Tryz.prog.info? 28=some Tryz.t28 from by kernel_rfl) (by kernel_rfl)
def Bs (x:Int):List Value:=[.int .i64 (x)]
noncomputable def Da (p0:Int) (p1:Int) (p2:Int):Option Bool :=
 jn (fun (s2:Bool) =>
 some s2)
 (fun j2=>if p0≤p1 then (j2 (decide (p1≤p2)))
 else (j2 false))
structure Ad where
 X:Int
 Y:Int
noncomputable def Fu (p0:Ad):Option Bool :=
 jn (fun (s2:Bool) =>
 some s2)
 (fun j2=>bnd (Da (-268435456) p0.X 268435456) fun r2 =>
 if r2=true then (bnd (Da (-268435456) p0.Y 268435456) fun r7 =>
 j2 r7)
 else (j2 false))
structure Dj where
 Lo:Int
 Hi:Int
structure Aa where
 Id:Int
 X:Int
 Y:Int
 Z:Dj
 Wide:Int
 Num:Int
 Of:Int
 Class:Int
structure Ae where
 X:Int
 Y:Int
 Z:Dj
structure Ace where
 Neg:Bool
 L:List Int
structure Xo where
 N:Ace
 D:List Int
structure S_lidarref06_Spot where
 X:Xo
 Y:Xo
noncomputable def Fk (p0:Aa):Option Ad :=
 some (⟨p0.X,p0.Y⟩:Ad)
noncomputable def Kg (p0:Aa):Option Bool :=
 jn (fun (s2:Bool) =>
 some s2)
 (fun j2=>bnd (Da 0 p0.Id 1152921504606846976) fun r2 =>
 if r2=true then (bnd (Fk p0) fun r7 =>
 bnd (Fu r7) fun r0 =>
 if r0=true then (bnd (Da (-268435456) p0.Z.Lo p0.Z.Hi) fun r1 =>
 if r1=true then (if p0.Z.Hi≤268435456 then (bnd (Da 0 p0.Wide 268435456) fun r3 =>
 if r3=true then (bnd (Da 1 p0.Num p0.Of) fun r4 =>
 if r4=true then (j2 (decide (p0.Of≤15)))
 else (j2 false))
 else (j2 false))
 else (j2 false))
 else (j2 false))
 else (j2 false))
 else (j2 false))
def Cp (x:Int):Value:=.int .i64 (x)
theorem Pi (x y:Int) (h:Cp x=Cp y):x=y:=by simpa [Cp] using h
theorem key3:Maps.Keyed Tryz.prog 3:=Maps.int_keyed Tryz.underlying3
theorem isk3 (x:Int) (h:(-9223372036854775808≤x∧x≤9223372036854775807)):(keyOf Tryz.prog 3 (Cp x)).isSome=true:=Ar9 Tryz.underlying3 (Aec h)
def Cc (x:Bool):Value:=.bool (x)
noncomputable def Hy (p0:List Aa):((List (Int × Bool)) × Int)→Option (Sum ((List (Int × Bool)) × Int) (Sum Unit Bool)):=fun s0 =>
 if s0.2 < ((((p0).length:Nat):Int)) then (bnd (idx p0 s0.2) fun x0 =>
 jn (fun (s1:Bool) =>
 if s1=true then (some (.inr (.inr (false))))
 else (gd ((-9223372036854775808≤x0.Id∧x0.Id≤9223372036854775807)) <|
 gd ((s0.1).length < 9223372036854775807) <|
 some (.inl (mput s0.1 x0.Id true,w64 (s0.2+1)))))
 (fun j0=>bnd (Kg x0) fun r0 =>
 if r0=true then (gd ((-9223372036854775808≤x0.Id∧x0.Id≤9223372036854775807)) <|
 bnd (some ((mget s0.1 x0.Id).getD false)) fun x1 =>
 j0 x1)
 else (j0 true)))
 else (some (.inr (.inl ())))
noncomputable def Pj (p0:List Aa):Option Bool :=
 if 1024 < ((((p0).length:Nat):Int)) then (some false)
 else (jn (fun (s6:Unit) =>
 some true)
 (fun j6=>bnd (lfix (Hy p0) (([]:List (Int × Bool)),0)) fun t0 =>
 (match t0 with
 | (.inl z0)=>j6 z0
 | (.inr (z0))=>some z0
 )))
def Ao (x:Aa):List Value:=[.int .i64 (x.Id),.int .i64 (x.X),.int .i64 (x.Y),.int .i64 (x.Z.Lo),.int .i64 (x.Z.Hi),.int .i64 (x.Wide),.int .i64 (x.Num),.int .i64 (x.Of),.int .i64 (x.Class)]
structure Bi where
 Cell:Int
 Reach:Int
 Slope:Int
 Link:Int
 Flat:Int
 Tall:Int
 High:Int
 Low:Int
 Brush:Int
 Few:Int
theorem Asc (x0:Int) (x1:Int) (x2:Int) (x3:Int) (x4:Int) (x5:Int):An0 Tryz.prog 192 [.int .i64 x0,.int .i64 x1,.int .i64 x2,.int .i64 x3,.int .i64 x4,.int .i64 x5]:=by
 intro j h k w
 have h':j < 6:=h
 match j,h,h' with
 | 0,_,_=>exact (show (Instr.index 192 (.agg ([.int .i64 x0,.int .i64 x1,.int .i64 x2,.int .i64 x3,.int .i64 x4,.int .i64 x5]:List Value).toArray) (.int k ((0:Nat):Int))).run Tryz.prog w = .ok (.int .i64 x0) w by kernel_rfl)
 | 1,_,_=>exact (show (Instr.index 192 (.agg ([.int .i64 x0,.int .i64 x1,.int .i64 x2,.int .i64 x3,.int .i64 x4,.int .i64 x5]:List Value).toArray) (.int k ((1:Nat):Int))).run Tryz.prog w = .ok (.int .i64 x1) w by kernel_rfl)
 | 2,_,_=>exact (show (Instr.index 192 (.agg ([.int .i64 x0,.int .i64 x1,.int .i64 x2,.int .i64 x3,.int .i64 x4,.int .i64 x5]:List Value).toArray) (.int k ((2:Nat):Int))).run Tryz.prog w = .ok (.int .i64 x2) w by kernel_rfl)
 | 3,_,_=>exact (show (Instr.index 192 (.agg ([.int .i64 x0,.int .i64 x1,.int .i64 x2,.int .i64 x3,.int .i64 x4,.int .i64 x5]:List Value).toArray) (.int k ((3:Nat):Int))).run Tryz.prog w = .ok (.int .i64 x3) w by kernel_rfl)
 | 4,_,_=>exact (show (Instr.index 192 (.agg ([.int .i64 x0,.int .i64 x1,.int .i64 x2,.int .i64 x3,.int .i64 x4,.int .i64 x5]:List Value).toArray) (.int k ((4:Nat):Int))).run Tryz.prog w = .ok (.int .i64 x4) w by kernel_rfl)
 | 5,_,_=>exact (show (Instr.index 192 (.agg ([.int .i64 x0,.int .i64 x1,.int .i64 x2,.int .i64 x3,.int .i64 x4,.int .i64 x5]:List Value).toArray) (.int k ((5:Nat):Int))).run Tryz.prog w = .ok (.int .i64 x5) w by kernel_rfl)
noncomputable def Gx (p0:Bi):Int→Option (Sum Int (Sum Unit Bool)):=fun s0 =>
 if s0 < 6 then (bnd (idx [p0.Reach,p0.Flat,p0.Tall,p0.High,p0.Low,p0.Brush] s0) fun x0 =>
 bnd (Da 0 x0 1000000) fun r0 =>
 if r0=true then (some (.inl (w64 (s0+1))))
 else (some (.inr (.inr (false)))))
 else (some (.inr (.inl ())))
noncomputable def Kh (p0:Bi):Option Bool :=
 jn (fun (s2:Unit) =>
 jn (fun (s0:Bool) =>
 some s0)
 (fun j0=>bnd (Da 1 p0.Cell 10000000) fun r0 =>
 if r0=true then (bnd (Da 0 p0.Slope 100000) fun r1 =>
 if r1=true then (bnd (Da 1 p0.Link 1000000) fun r2 =>
 if r2=true then (bnd (Da 1 p0.Few 1024) fun r3 =>
 j0 r3)
 else (j0 false))
 else (j0 false))
 else (j0 false)))
 (fun j2=>bnd (lfix (Gx p0) 0) fun t0 =>
 (match t0 with
 | (.inl z0)=>j2 z0
 | (.inr (z0))=>some z0
 ))
noncomputable def Rq (p0:Aa) (p1:Aa):Option Bool :=
 jn (fun (s2:Bool) =>
 some s2)
 (fun j2=>if p0.Z.Hi < p1.Z.Hi then (j2 true)
 else (if p0.Z.Hi=p1.Z.Hi then (j2 (decide (p0.Id < p1.Id)))
 else (j2 false)))
noncomputable def Pz (p0:Ad) (p1:Ad):Option Int :=
 some (w64 ((w64 ((w64 (p0.X-p1.X))*(w64 (p0.X-p1.X))))+(w64 ((w64 (p0.Y-p1.Y))*(w64 (p0.Y-p1.Y))))))
noncomputable def Ta (p0:Aa) (p1:Aa) (p2:Int):Option Bool :=
 bnd (Fk p0) fun r3 =>
 bnd (Fk p1) fun r6 =>
 bnd (Pz r3 r6) fun r9 =>
 some (decide (r9≤(w64 (p2*p2))))
noncomputable def Oh (p0:List Aa) (p1:Bi):Option Int :=
 bnd (Kh p1) fun r2 =>
 if r2=true then (bnd (Pj p0) fun r8 =>
 if r8=true then (some 0)
 else (some 70))
 else (some 71)
noncomputable def Ll (p0:List Aa) (p1:Int) (p2:Bi):(Bool × Int)→Option (Sum (Bool × Int) (Sum Bool Bool)):=fun s0 =>
 if s0.2 < ((((p0).length:Nat):Int)) then (jn (fun (s1:Bool) =>
 some (.inl (s1,w64 (s0.2+1))))
 (fun j0=>bnd (idx p0 s0.2) fun x0 =>
 jn (fun (s2:Bool) =>
 if s2=true then (j0 s0.1)
 else (bnd (idx p0 p1) fun x1 =>
 if (w64 (x0.Z.Lo-x1.Z.Hi))≤p2.Low then (some (.inr (.inr (false))))
 else (j0 true)))
 (fun j1=>if s0.2=p1 then (j1 true)
 else (bnd (idx p0 p1) fun x2 =>
 bnd (Ta x2 x0 p2.Link) fun r0 =>
 j1 (!(r0))))))
 else (some (.inr (.inl s0.1)))
noncomputable def Qa (p0:List Aa) (p1:Int) (p2:Bi):Option Bool :=
 jn (fun (s3:Bool) =>
 some s3)
 (fun j3=>bnd (lfix (Ll p0 p1 p2) (false,0)) fun t0 =>
 (match t0 with
 | (.inl z0)=>j3 z0
 | (.inr (z0))=>some z0
 ))
noncomputable def Iv (p0:List Aa) (p1:Bi):((List Aa) × (List Aa) × Int)→Option (Sum ((List Aa) × (List Aa) × Int) ((List Aa) × (List Aa))):=fun s0 =>
 if s0.2.2 < ((((p0).length:Nat):Int)) then (jn (fun (s1:(List Aa) × (List Aa)) =>
 some (.inl (s1.1,s1.2,w64 (s0.2.2+1))))
 (fun j0=>bnd (idx p0 s0.2.2) fun x0 =>
 bnd (Qa p0 s0.2.2 p1) fun r0 =>
 if r0=true then (gd (((s0.2.1).length+1)*72≤140737488355328) <|
 j0 (s0.1,s0.2.1++[x0]))
 else (gd (((s0.1).length+1)*72≤140737488355328) <|
 j0 (s0.1++[x0],s0.2.1))))
 else (some (.inr (s0.1,s0.2.1)))
noncomputable def Qb (p0:List Aa) (p1:Bi):Option ((List Aa) × (List Aa)) :=
 jn (fun (s2:(List Aa) × (List Aa)) =>
 some (s2.1,s2.2))
 (fun j2=>bnd (lfix (Iv p0 p1) (([]:List Aa),([]:List Aa),0)) fun t0 =>
 j2 t0)
noncomputable def Pk (p0:Int) (p1:Int):Option Int :=
 gd (p1≠0) <|
 jn (fun (s3:Int) =>
 some s3)
 (fun j3=>gd (p1≠0) <|
 if (Int.tmod p0 p1) < 0 then (j3 (w64 ((w64 (Int.tdiv p0 p1))-1)))
 else (j3 (w64 (Int.tdiv p0 p1))))
noncomputable def Oz (p0:Ad) (p1:Ad) (p2:Ad):Option Int :=
 if 0 < (w64 ((w64 ((w64 (p1.X-p0.X))*(w64 (p2.Y-p0.Y))))-(w64 ((w64 (p1.Y-p0.Y))*(w64 (p2.X-p0.X)))))) then (some 1)
 else (if (w64 ((w64 ((w64 (p1.X-p0.X))*(w64 (p2.Y-p0.Y))))-(w64 ((w64 (p1.Y-p0.Y))*(w64 (p2.X-p0.X)))))) < 0 then (some (-1))
 else (some 0))
noncomputable def Xp (p0:Ad) (p1:Ad) (p2:Ad):Option Bool :=
 jn (fun (s2:Bool) =>
 some s2)
 (fun j2=>bnd (Oz p0 p1 p2) fun r4 =>
 if r4=0 then (bnd (Da (min p0.X p1.X) p2.X (max p0.X p1.X)) fun r9 =>
 if r9=true then (bnd (Da (min p0.Y p1.Y) p2.Y (max p0.Y p1.Y)) fun r0 =>
 j2 r0)
 else (j2 false))
 else (j2 false))
noncomputable def Oi (p0:Ad) (p1:Ad) (p2:Ad):Option Bool :=
 if ((decide (p2.Y < p0.Y)) == (decide (p2.Y < p1.Y)))=true then (some false)
 else (if p0.Y < p1.Y then (bnd (Oz p0 p1 p2) fun r9 =>
 some (decide (0 < r9)))
 else (bnd (Oz p1 p0 p2) fun r0 =>
 some (decide (0 < r0))))
noncomputable def Iw (p0:List Ad) (p1:Ad):(Bool × Int × Int × Int)→Option (Sum (Bool × Int × Int × Int) (Sum Bool Bool)):=fun s0 =>
 if s0.2.2.2 < ((((p0).length:Nat):Int)) then (bnd (idx p0 s0.2.2.2) fun x0 =>
 bnd (Xp (⟨s0.2.1,s0.2.2.1⟩:Ad) x0 p1) fun r0 =>
 if r0=true then (some (.inr (.inr (true))))
 else (jn (fun (s1:Bool) =>
 some (.inl (s1,x0.X,x0.Y,w64 (s0.2.2.2+1))))
 (fun j0=>bnd (Oi (⟨s0.2.1,s0.2.2.1⟩:Ad) x0 p1) fun r1 =>
 if r1=true then (j0 (!(s0.1)))
 else (j0 s0.1))))
 else (some (.inr (.inl s0.1)))
noncomputable def Qc (p0:List Ad) (p1:Ad):Option Bool :=
 bnd (idx p0 (w64 (((((p0).length:Nat):Int))-1))) fun x2 =>
 jn (fun (s4:Bool) =>
 some s4)
 (fun j4=>bnd (lfix (Iw p0 p1) (false,x2.X,x2.Y,0)) fun t0 =>
 (match t0 with
 | (.inl z0)=>j4 z0
 | (.inr (z0))=>some z0
 ))
def Gy (x:Ad):List Value:=[.int .i64 (x.X),.int .i64 (x.Y)]
noncomputable def Hz (p0:List Ad):Int→Option (Sum Int (Sum Unit Bool)):=fun s0 =>
 if s0 < ((((p0).length:Nat):Int)) then (bnd (idx p0 s0) fun x0 =>
 bnd (Fu x0) fun r0 =>
 if r0=true then (some (.inl (w64 (s0+1))))
 else (some (.inr (.inr (false)))))
 else (some (.inr (.inl ())))
noncomputable def Lm (p0:List Ad):Option Bool :=
 bnd (Da 3 (((p0).length:Nat):Int) 64) fun r1 =>
 if r1=true then (jn (fun (s5:Unit) =>
 some true)
 (fun j5=>bnd (lfix (Hz p0) 0) fun t0 =>
 (match t0 with
 | (.inl z0)=>j5 z0
 | (.inr (z0))=>some z0
 )))
 else (some false)
noncomputable def Ge (p0:List Ad) (p1:Ad):Option (Bool × Int) :=
 bnd (Lm p0) fun r2 =>
 if r2=true then (bnd (Fu p1) fun r8 =>
 if r8=true then (bnd (Qc p0 p1) fun r0 =>
 some (r0,0))
 else (some (false,11)))
 else (some (false,72))
set_option maxRecDepth 100000 in
theorem Cy (p0:Int) (p1:Int) (p2:Int)  {r:Bool} (hx:Da p0 p1 p2=some r) (w:World):CtL Tryz.prog 157 [.int .i64 (p0),.int .i64 (p1),.int .i64 (p2)] w fun v Ln=>v = .bool (r)∧Ln=[]∧True:=by
 refine CtL.mk 15 Tryz.func157 rfl Tryz.ntmps157 (by kernel_rfl) rfl ?_;show T 15 _ [(0,.int .i64 (p0)),(1,.int .i64 (p1)),(2,.int .i64 (p2))] _;unfold Da at hx;refine Y5 ?_;refine Tj (γ:=Unit) hx (fun s2 y2=>[(6,.bool (s2))]) (fun s2 y2=>[]++[.old w]) (fun s2 y2=>True) (fun s2 y2 hx4 hG5=>?_) (fun j2 hx=>?_)
 ·refine Y ?_;obtain rfl:=Option.some.inj hx4;exact Av (rs:=[.tmp 6]) Tryz.results157 (.tmp rfl (.nil)) (Ln:=[]) ⟨rfl,rfl,trivial⟩ (Ax) (by exact .refl)
 ·refine Y5 ?_;refine Ti hx (s:=10) rfl (fun h1 hx2=>?_) (fun h1 hx3=>?_)
  ·refine Y6 ?_;exact Mt (decide (p1≤p2)) () hx2 trivial (by exact .refl)
  ·refine Y6 ?_;exact Mt false () hx3 trivial (by exact .refl)
set_option maxRecDepth 100000 in
theorem Ob (p0:Ad)  {r:Bool} (hx:Fu p0=some r) (w:World):CtL Tryz.prog 131 [.agg #[.int .i64 (p0.X),.int .i64 (p0.Y)]] w fun v Ln=>v = .bool (r)∧Ln=[]∧True:=by
 refine CtL.mk 11 Tryz.func131 rfl Tryz.ntmps131 (by kernel_rfl) rfl ?_;show T 11 _ [(0,.agg #[.int .i64 (p0.X),.int .i64 (p0.Y)])] _;unfold Fu at hx;refine Y2 ?_;refine T_x (Bl rfl rfl rfl (fun g1=>?_));refine Y3 ?_;refine Tj (γ:=Unit) hx (fun s2 y2=>[(2,.bool (s2))]) (fun s2 y2=>[]++[.old w]) (fun s2 y2=>True) (fun s2 y2 hx0 hG0=>?_) (fun j2 hx=>?_)
 ·refine Y ?_;obtain rfl:=Option.some.inj hx0;exact Av (rs:=[.tmp 2]) Tryz.results131 (.tmp rfl (.nil)) (Ln:=[]) ⟨rfl,rfl,trivial⟩ (Ax) (by exact .refl)
 ·refine Y ?_;refine Af (Ah rfl Cl rfl) rfl ?_;refine Af (Ag rfl (i:=0) rfl rfl one3) rfl ?_;obtain ⟨r2,h3,hx4⟩:=Ac hx;refine Tc (fun w1 hw1=>Cy (-268435456) p0.X 268435456  h3 w1) ?_;refine Y ?_;refine By (s:=6) rfl (fun h5=>?_) (fun h5=>?_)
  ·have hx6:=Bx h5 hx4;refine Aq rfl rfl rfl (Ah rfl Ck rfl) rfl ?_;refine Aq rfl rfl rfl (Ag rfl (i:=0) rfl rfl one3) rfl ?_;obtain ⟨r7,h8,hx9⟩:=Ac hx6;refine T_xG rfl rfl rfl (Aw rfl (fun w1 hw1=>Cy (-268435456) p0.Y 268435456  h8 w1) rfl ?_);rintro _ _ hlo ⟨rfl,rfl,-⟩;refine Cs ?_;refine Y3 ?_;exact Mt r7 () hx9 trivial (by exact .drop 0 rfl (.refl))
  ·have hx1:=Bn h5 hx4;refine Y6 ?_;exact Mt false () hx1 trivial (by exact .drop 0 rfl (.refl))
set_option maxRecDepth 100000 in
theorem Qd (p0:Aa)  {r:Ad} (hx:Fk p0=some r) (w:World):CtL Tryz.prog 156 [.agg #[.int .i64 (p0.Id),.int .i64 (p0.X),.int .i64 (p0.Y),.int .i64 (p0.Z.Lo),.int .i64 (p0.Z.Hi),.int .i64 (p0.Wide),.int .i64 (p0.Num),.int .i64 (p0.Of),.int .i64 (p0.Class)]] w fun v Ln=>v = .agg #[.int .i64 (r.X),.int .i64 (r.Y)]∧Ln=[]∧True:=by
 refine CtL.mk 8 Tryz.func156 rfl Tryz.ntmps156 (by kernel_rfl) rfl ?_;show T 8 _ [(0,.agg #[.int .i64 (p0.Id),.int .i64 (p0.X),.int .i64 (p0.Y),.int .i64 (p0.Z.Lo),.int .i64 (p0.Z.Hi),.int .i64 (p0.Wide),.int .i64 (p0.Num),.int .i64 (p0.Of),.int .i64 (p0.Class)])] _;unfold Fk at hx;refine Y2 ?_;refine T_x (Bl rfl rfl rfl (fun g1=>?_));refine T_x (Bp Sb rfl (fun g2=>?_));refine Y4 ?_;refine Af (Ah rfl Si rfl) rfl ?_;refine Af (Ag rfl (i:=1) rfl rfl one3) rfl ?_;refine Af (Ah rfl Sj rfl) rfl ?_;refine Af (Ag rfl (i:=1) rfl rfl one3) rfl ?_;refine Af (Bt rfl (Dy _ _)) rfl ?_;refine T_h (Bc rfl rfl rfl (.here) (.put (.put (.done))) rfl (List.cons_ne_nil _ _) Bv.2 ?_);refine Y3 ?_;obtain rfl:=Option.some.inj hx;exact Av (rs:=[.cell 2 28]) Tryz.results156 (.cell rfl (i:=0) rfl rfl Bv (.nil)) (Ln:=[]) ⟨rfl,rfl,trivial⟩ (Ax) (by exact .drop 0 rfl (.drop 0 rfl (.refl)))
set_option maxRecDepth 100000 in
theorem Zb (p0:Aa)  {r:Bool} (hx:Kg p0=some r) (w:World):CtL Tryz.prog 83 [.agg #[.int .i64 (p0.Id),.int .i64 (p0.X),.int .i64 (p0.Y),.int .i64 (p0.Z.Lo),.int .i64 (p0.Z.Hi),.int .i64 (p0.Wide),.int .i64 (p0.Num),.int .i64 (p0.Of),.int .i64 (p0.Class)]] w fun v Ln=>v = .bool (r)∧Ln=[]∧True:=by
 refine CtL.mk 43 Tryz.func83 rfl Tryz.ntmps83 (by kernel_rfl) rfl ?_;show T 43 _ [(0,.agg #[.int .i64 (p0.Id),.int .i64 (p0.X),.int .i64 (p0.Y),.int .i64 (p0.Z.Lo),.int .i64 (p0.Z.Hi),.int .i64 (p0.Wide),.int .i64 (p0.Num),.int .i64 (p0.Of),.int .i64 (p0.Class)])] _;unfold Kg at hx;refine Y2 ?_;refine T_x (Bl rfl rfl rfl (fun g1=>?_));refine Y3 ?_;refine Tj (γ:=Unit) hx (fun s2 y2=>[(2,.bool (s2))]) (fun s2 y2=>[]++[.old w]) (fun s2 y2=>True) (fun s2 y2 hx0 hG0=>?_) (fun j2 hx=>?_)
 ·refine Y ?_;obtain rfl:=Option.some.inj hx0;exact Av (rs:=[.tmp 2]) Tryz.results83 (.tmp rfl (.nil)) (Ln:=[]) ⟨rfl,rfl,trivial⟩ (Ax) (by exact .refl)
 ·refine Y ?_;refine Af (Ah rfl Jz rfl) rfl ?_;refine Af (Ag rfl (i:=0) rfl rfl one3) rfl ?_;obtain ⟨r2,h3,hx4⟩:=Ac hx;refine Tc (fun w1 hw1=>Cy 0 p0.Id 1152921504606846976  h3 w1) ?_;refine Y ?_;refine By (s:=6) rfl (fun h5=>?_) (fun h5=>?_)
  ·have hx6:=Bx h5 hx4;refine Aq rfl rfl rfl (Au rfl (i:=0) rfl rfl Fc) rfl ?_;obtain ⟨r7,h8,hx9⟩:=Ac hx6;refine T_xG rfl rfl rfl (Aw rfl (fun w1 hw1=>Qd p0  h8 w1) rfl ?_);rintro _ _ hlo ⟨rfl,rfl,-⟩;refine Cs ?_;obtain ⟨r0,h0,hx1⟩:=Ac hx9;refine T_xG rfl rfl rfl (Aw rfl (fun w1 hw1=>Ob r7  h0 w1) rfl ?_);rintro _ _ hlo ⟨rfl,rfl,-⟩;refine Cs ?_;refine Y2 ?_;refine By (s:=11) rfl (fun h1=>?_) (fun h1=>?_)
   ·have hx2:=Bx h1 hx1;refine Aq rfl rfl rfl (Ah rfl Kz rfl) rfl ?_;refine Aq rfl rfl rfl (Ah rfl Sk rfl) rfl ?_;refine Aq rfl rfl rfl (Ag rfl (i:=0) rfl rfl one3) rfl ?_;refine Aq rfl rfl rfl (Ah rfl Kz rfl) rfl ?_;refine Aq rfl rfl rfl (Ah rfl Mk rfl) rfl ?_;refine Aq rfl rfl rfl (Ag rfl (i:=0) rfl rfl one3) rfl ?_;obtain ⟨r1,h2,hx3⟩:=Ac hx2;refine T_xG rfl rfl rfl (Aw rfl (fun w1 hw1=>Cy (-268435456) p0.Z.Lo p0.Z.Hi  h2 w1) rfl ?_);rintro _ _ hlo ⟨rfl,rfl,-⟩;refine Cs ?_;refine Y2 ?_;refine By (s:=20) rfl (fun h4=>?_) (fun h4=>?_)
    ·have hx5:=Bx h4 hx3;refine Aq rfl rfl rfl (Ah rfl Kz rfl) rfl ?_;refine Aq rfl rfl rfl (Ah rfl Mk rfl) rfl ?_;refine Aq rfl rfl rfl (Ag rfl (i:=0) rfl rfl one3) rfl ?_;refine Y3 ?_;refine Ti hx5 (s:=26) rfl (fun h6 hx7=>?_) (fun h6 hx8=>?_)
     ·refine Aq rfl rfl rfl (Ah rfl Aky rfl) rfl ?_;refine Aq rfl rfl rfl (Ag rfl (i:=0) rfl rfl one3) rfl ?_;obtain ⟨r3,h7,hx24⟩:=Ac hx7;refine T_xG rfl rfl rfl (Aw rfl (fun w1 hw1=>Cy 0 p0.Wide 268435456  h7 w1) rfl ?_);rintro _ _ hlo ⟨rfl,rfl,-⟩;refine Cs ?_;refine Y2 ?_;refine By (s:=31) rfl (fun h9=>?_) (fun h9=>?_)
      ·have hx26:=Bx h9 hx24;refine Aq rfl rfl rfl (Ah rfl Agt rfl) rfl ?_;refine Aq rfl rfl rfl (Ag rfl (i:=0) rfl rfl one3) rfl ?_;refine Aq rfl rfl rfl (Ah rfl Abb rfl) rfl ?_;refine Aq rfl rfl rfl (Ag rfl (i:=0) rfl rfl one3) rfl ?_;obtain ⟨r4,h28,hx29⟩:=Ac hx26;refine T_xG rfl rfl rfl (Aw rfl (fun w1 hw1=>Cy 1 p0.Num p0.Of  h28 w1) rfl ?_);rintro _ _ hlo ⟨rfl,rfl,-⟩;refine Cs ?_;refine Y2 ?_;refine By (s:=38) rfl (fun h30=>?_) (fun h30=>?_)
       ·have hx31:=Bx h30 hx29;refine Aq rfl rfl rfl (Ah rfl Abb rfl) rfl ?_;refine Aq rfl rfl rfl (Ag rfl (i:=0) rfl rfl one3) rfl ?_;refine Y4 ?_;exact Mt (decide (p0.Of≤15)) () hx31 trivial (by exact .drop 0 rfl (.refl))
       ·have hx32:=Bn h30 hx29;refine Y6 ?_;exact Mt false () hx32 trivial (by exact .drop 0 rfl (.refl))
      ·have hx33:=Bn h9 hx24;(iterate 13 refine Y ?_);exact Mt false () hx33 trivial (by exact .drop 0 rfl (.refl))
     ·(iterate 18 refine Y ?_);exact Mt false () hx8 trivial (by exact .drop 0 rfl (.refl))
    ·have hx35:=Bn h4 hx3;(iterate 24 refine Y ?_);exact Mt false () hx35 trivial (by exact .drop 0 rfl (.refl))
   ·have hx36:=Bn h1 hx1;(iterate 33 refine Y ?_);exact Mt false () hx36 trivial (by exact .drop 0 rfl (.refl))
  ·have hx37:=Bn h5 hx4;(iterate 38 refine Y ?_);exact Mt false () hx37 trivial (by exact .drop 0 rfl (.refl))
set_option maxRecDepth 100000 in
theorem Xq (p0:List Aa) {K:List Ent} {A0_0:Option Addr} {c0_0:Nat} (ha0:Has K A0_0 p0.length c0_0 9 Ao (p0)) {r:Bool} (hx:Pj p0=some r) (w:World) (hK:∀ e∈K,Ent.ok w e):CtL Tryz.prog 63 [.slice (A0_0) (p0.length) (c0_0)] w fun v Ln=>v = .bool (r)∧Ln=[]∧True:=by
 have ha0':=Has.up0 ha0;refine CtL.mk 31 Tryz.func63 rfl Tryz.ntmps63 (by kernel_rfl) rfl ?_;show T 31 _ [(0,.slice (A0_0) (p0.length) (c0_0))] _;unfold Pj at hx;refine Y9 ?_;refine Af (Bf rfl 66 Tryz.underlying47) rfl ?_;refine Y3 ?_;refine Ti hx (s:=8) rfl (fun h1 hx2=>?_) (fun h1 hx3=>?_)
 ·refine Y8 ?_;obtain rfl:=Option.some.inj hx2;exact Av (rs:=[.tmp 2]) Tryz.results63 (.tmp rfl (.nil)) (Ln:=[]) ⟨rfl,rfl,trivial⟩ (Ax) (by exact .refl)
 ·refine Y6 ?_;refine Af (Bf rfl 66 Tryz.underlying47) rfl ?_;refine T_x (Aa6 Tryz.prog 3 Cp Cc Tryz.underlying172 rfl rfl (fun g4=>?_));refine Y3 ?_;refine Tj (γ:=Unit) hx3 (fun s6 y6=>[]) (fun s6 y6=>[]++[.old w]) (fun s6 y6=>True) (fun s6 y6 hx0 hG0=>?_) (fun j6 hx3=>?_)
  ·refine Y6 ?_;obtain rfl:=Option.some.inj hx0;exact Av (rs:=[.tmp 2]) Tryz.results63 (.tmp rfl (.nil)) (Ln:=[]) ⟨rfl,rfl,trivial⟩ (Ax) (by exact .refl)
  ·refine Y3 ?_;refine Af (Bf rfl 66 Tryz.underlying47) rfl ?_;refine Y4 ?_;obtain ⟨t0,hl0,ho0⟩:=Ac hx3;refine Lp (σ:=(List (Int × Bool)) × Int) (γ:=Unit) hl0 (fun s0 y0=>[(3,.map (some g4)),(12,.slice (A0_0) (p0.length) (c0_0)),(13,.int .i64 (((p0.length:Nat):Int))),(14,.int .i64 (s0.2))]) (fun s0 y0=>[Bg Tryz.prog 3 Cp Cc g4 (s0.1)]++[.old w]) (fun s0 y0=>True) () trivial (by exact .pick 0 rfl (.refl)) ?_;intro s0 y0 hG1 x0 hx1 ht0;unfold Hy at hx1;refine Y6 ?_;refine Ti hx1 (s:=15) rfl (fun h0 hx4=>?_) (fun h0 hx5=>?_)
   ·refine Y7 ?_;obtain ⟨x1,h2,hx6⟩:=Ac hx4;have hw0:=Has.low (E:=[]) ha0' hK;obtain ⟨b0,o0,j0,hA0,hj0,hl1,hp0⟩:=Has.at_idx hw0 h2;refine Af (Az rfl rfl hA0 (j:=j0) hj0 hl1 Na) rfl ?_;refine Af (Cg rfl hp0 (sb 1) rfl Fc) rfl ?_;refine T_x (Bp Xn rfl (fun g0=>?_));refine T_h (Bc rfl rfl rfl (.here) (.put (.put (.put (.put (.put (.put (.put (.put (.put (.done)))))))))) rfl (List.cons_ne_nil _ _) Fc.2 ?_);refine Y3 ?_;refine Tj (γ:=Unit) hx6 (fun s1 y1=>[(3,.map (some g4)),(5,.pointer (some ⟨g0,0,none⟩)),(12,.slice (A0_0) (p0.length) (c0_0)),(13,.int .i64 (((p0.length:Nat):Int))),(14,.int .i64 (s0.2)),(26,.bool (s1))]) (fun s1 y1=>[.m g0 66 [.int .i64 (x1.Id),.int .i64 (x1.X),.int .i64 (x1.Y),.int .i64 (x1.Z.Lo),.int .i64 (x1.Z.Hi),.int .i64 (x1.Wide),.int .i64 (x1.Num),.int .i64 (x1.Of),.int .i64 (x1.Class)],Bg Tryz.prog 3 Cp Cc g4 (s0.1)]++[.old w]) (fun s1 y1=>True) (fun s1 y1 hx7 hG2=>?_) (fun j1 hx6=>?_)
    ·refine By (s:=26) rfl (fun h3=>?_) (fun h3=>?_)
     ·have hx8:=Bx h3 hx7;refine Y10 ?_;obtain rfl:=Bd ht0 hx8;refine Y3 ?_;obtain rfl:=Option.some.inj ho0;exact Av (rs:=[.tmp 2]) Tryz.results63 (.tmp rfl (.nil)) (Ln:=[]) ⟨rfl,rfl,trivial⟩ (Ax) (by exact .drop 0 rfl (.drop 0 rfl (.refl)))
     ·have hx9:=Bn h3 hx7;refine Y5 ?_;refine Af (Ah rfl Jz rfl) rfl ?_;refine Af (Ag rfl (i:=0) rfl rfl one3) rfl ?_;obtain ⟨h4,hx74⟩:=Bj hx9;obtain ⟨h5,hx76⟩:=Bj hx74;refine T_h (Kw (x:=x1.Id) (y:=true) key3 Pi Tryz.underlying172 rfl rfl rfl rfl rfl (.there (.here)) (isk3 x1.Id h4) h5 ?_);refine Y7 ?_;exact Rp (mput s0.1 x1.Id true,w64 (s0.2+1)) () hx76 trivial (by exact .pick 1 rfl (.drop 0 rfl (.refl)))
    ·refine Y ?_;refine Af (Au rfl (i:=0) rfl rfl Fc) rfl ?_;obtain ⟨r0,h6,hx59⟩:=Ac hx6;refine Tc (fun w1 hw1=>Zb x1  h6 w1) ?_;refine Y2 ?_;refine Cz (s:=21) rfl (fun h7=>?_) (fun h7=>?_)
     ·have hx61:=Bn h7 hx59;refine Y6 ?_;exact Mt true () hx61 trivial (by exact .pick 0 rfl (.pick 0 rfl (.refl)))
     ·have hx62:=Bx h7 hx59;refine Y ?_;refine Aq rfl rfl rfl (Ah rfl Jz rfl) rfl ?_;refine Aq rfl rfl rfl (Ag rfl (i:=0) rfl rfl one3) rfl ?_;obtain ⟨h8,hx64⟩:=Bj hx62;obtain ⟨x2,h9,hx67⟩:=Ac hx64;refine Aq rfl rfl rfl (Xj (x:=x1.Id) (i:=1) (vv:=.bool (x2)) key3 Tryz.underlying172 (fun w=>by kernel_rfl) Pi rfl rfl rfl rfl Fj (isk3 x1.Id h8) h9 rfl) rfl ?_;refine Y2 ?_;exact Mt x2 () hx67 trivial (by exact .pick 0 rfl (.pick 0 rfl (.refl)))
   ·refine Y3 ?_;obtain rfl:=Bd ht0 hx5;refine Y2 ?_;exact Mt () () ho0 trivial (by exact .drop 0 rfl (.refl))
set_option maxRecDepth 100000 in
theorem Zc (p0:Bi)  {r:Bool} (hx:Kh p0=some r) (w:World):CtL Tryz.prog 82 [.agg #[.int .i64 (p0.Cell),.int .i64 (p0.Reach),.int .i64 (p0.Slope),.int .i64 (p0.Link),.int .i64 (p0.Flat),.int .i64 (p0.Tall),.int .i64 (p0.High),.int .i64 (p0.Low),.int .i64 (p0.Brush),.int .i64 (p0.Few)]] w fun v Ln=>v = .bool (r)∧Ln=[]∧True:=by
 refine CtL.mk 43 Tryz.func82 rfl Tryz.ntmps82 (by kernel_rfl) rfl ?_;show T 43 _ [(0,.agg #[.int .i64 (p0.Cell),.int .i64 (p0.Reach),.int .i64 (p0.Slope),.int .i64 (p0.Link),.int .i64 (p0.Flat),.int .i64 (p0.Tall),.int .i64 (p0.High),.int .i64 (p0.Low),.int .i64 (p0.Brush),.int .i64 (p0.Few)])] _;unfold Kh at hx;refine Y2 ?_;refine T_x (Bl rfl rfl rfl (fun g1=>?_));refine Y3 ?_;refine Tj (γ:=Unit) hx (fun s2 y2=>[(1,.pointer (some ⟨g1,0,none⟩))]) (fun s2 y2=>[.m g1 54 [.int .i64 (p0.Cell),.int .i64 (p0.Reach),.int .i64 (p0.Slope),.int .i64 (p0.Link),.int .i64 (p0.Flat),.int .i64 (p0.Tall),.int .i64 (p0.High),.int .i64 (p0.Low),.int .i64 (p0.Brush),.int .i64 (p0.Few)]]++[.old w]) (fun s2 y2=>True) (fun s2 y2 hx0 hG0=>?_) (fun j2 hx=>?_)
 ·refine Tj (γ:=Unit) hx0 (fun s0 y0=>[(2,.bool (s0))]) (fun s0 y0=>[]++[.old w]) (fun s0 y0=>True) (fun s0 y0 hx1 hG1=>?_) (fun j0 hx0=>?_)
  ·refine Y ?_;obtain rfl:=Option.some.inj hx1;exact Av (rs:=[.tmp 2]) Tryz.results82 (.tmp rfl (.nil)) (Ln:=[]) ⟨rfl,rfl,trivial⟩ (Ax) (by exact .refl)
  ·refine Y ?_;refine Af (Ah rfl Agu rfl) rfl ?_;refine Af (Ag rfl (i:=0) rfl rfl one3) rfl ?_;obtain ⟨r0,h0,hx2⟩:=Ac hx0;refine Tc (fun w1 hw1=>Cy 1 p0.Cell 10000000  h0 w1) ?_;refine Y ?_;refine By (s:=28) rfl (fun h1=>?_) (fun h1=>?_)
   ·have hx3:=Bx h1 hx2;refine Aq rfl rfl rfl (Ah rfl Aqf rfl) rfl ?_;refine Aq rfl rfl rfl (Ag rfl (i:=0) rfl rfl one3) rfl ?_;obtain ⟨r1,h2,hx4⟩:=Ac hx3;refine T_xG rfl rfl rfl (Aw rfl (fun w1 hw1=>Cy 0 p0.Slope 100000  h2 w1) rfl ?_);rintro _ _ hlo ⟨rfl,rfl,-⟩;refine Cs ?_;refine Y2 ?_;refine By (s:=33) rfl (fun h3=>?_) (fun h3=>?_)
    ·have hx5:=Bx h3 hx4;refine Aq rfl rfl rfl (Ah rfl Ak0 rfl) rfl ?_;refine Aq rfl rfl rfl (Ag rfl (i:=0) rfl rfl one3) rfl ?_;obtain ⟨r2,h4,hx6⟩:=Ac hx5;refine T_xG rfl rfl rfl (Aw rfl (fun w1 hw1=>Cy 1 p0.Link 1000000  h4 w1) rfl ?_);rintro _ _ hlo ⟨rfl,rfl,-⟩;refine Cs ?_;refine Y2 ?_;refine By (s:=38) rfl (fun h5=>?_) (fun h5=>?_)
     ·have hx7:=Bx h5 hx6;refine Aq rfl rfl rfl (Ah rfl Aqg rfl) rfl ?_;refine Aq rfl rfl rfl (Ag rfl (i:=0) rfl rfl one3) rfl ?_;obtain ⟨r3,h6,hx8⟩:=Ac hx7;refine T_xG rfl rfl rfl (Aw rfl (fun w1 hw1=>Cy 1 p0.Few 1024  h6 w1) rfl ?_);rintro _ _ hlo ⟨rfl,rfl,-⟩;refine Cs ?_;refine Y3 ?_;exact Mt r3 () hx8 trivial (by exact .drop 0 rfl (.refl))
     ·have hx9:=Bn h5 hx6;refine Y6 ?_;exact Mt false () hx9 trivial (by exact .drop 0 rfl (.refl))
    ·have hx49:=Bn h3 hx4;refine Y11 ?_;exact Mt false () hx49 trivial (by exact .drop 0 rfl (.refl))
   ·have hx50:=Bn h1 hx2;(iterate 16 refine Y ?_);exact Mt false () hx50 trivial (by exact .drop 0 rfl (.refl))
 ·refine Y2 ?_;refine Af (Ah rfl Aqa rfl) rfl ?_;refine Af (Ag rfl (i:=0) rfl rfl one3) rfl ?_;refine Af (Ah rfl Aqb rfl) rfl ?_;refine Af (Ag rfl (i:=0) rfl rfl one3) rfl ?_;refine Af (Ah rfl Aqc rfl) rfl ?_;refine Af (Ag rfl (i:=0) rfl rfl one3) rfl ?_;refine Af (Ah rfl Aqd rfl) rfl ?_;refine Af (Ag rfl (i:=0) rfl rfl one3) rfl ?_;refine Af (Ah rfl Akz rfl) rfl ?_;refine Af (Ag rfl (i:=0) rfl rfl one3) rfl ?_;refine Af (Ah rfl Aqe rfl) rfl ?_;refine Af (Ag rfl (i:=0) rfl rfl one3) rfl ?_;refine Af (Bt rfl (Qq _ _ _ _ _ _)) rfl ?_;refine Y4 ?_;obtain ⟨t0,hl0,ho0⟩:=Ac hx;refine Lp (σ:=Int) (γ:=Unit) hl0 (fun s1 y1=>[(1,.pointer (some ⟨g1,0,none⟩)),(17,.agg #[.int .i64 (p0.Reach),.int .i64 (p0.Flat),.int .i64 (p0.Tall),.int .i64 (p0.High),.int .i64 (p0.Low),.int .i64 (p0.Brush)]),(18,.int .i64 (s1))]) (fun s1 y1=>[.m g1 54 [.int .i64 (p0.Cell),.int .i64 (p0.Reach),.int .i64 (p0.Slope),.int .i64 (p0.Link),.int .i64 (p0.Flat),.int .i64 (p0.Tall),.int .i64 (p0.High),.int .i64 (p0.Low),.int .i64 (p0.Brush),.int .i64 (p0.Few)]]++[.old w]) (fun s1 y1=>True) () trivial (by exact .pick 0 rfl (.refl)) ?_;intro s1 y1 hG2 x0 hx15 ht0;unfold Gx at hx15;refine Y6 ?_;refine Ti hx15 (s:=19) rfl (fun h7 hx17=>?_) (fun h7 hx18=>?_)
  ·refine Y7 ?_;obtain ⟨x1,h8,hx21⟩:=Ac hx17;refine Af (Amg (kd:=.i64) rfl rfl rfl (Asc _ _ _ _ _ _) h8) rfl ?_;refine Y6 ?_;obtain ⟨r4,h9,hx24⟩:=Ac hx21;refine Tc (fun w1 hw1=>Cy 0 x1 1000000  h9 w1) ?_;refine Y3 ?_;refine Cz (s:=23) rfl (fun h25=>?_) (fun h25=>?_)
   ·have hx26:=Bn h25 hx24;refine Y9 ?_;obtain rfl:=Bd ht0 hx26;refine Y3 ?_;obtain rfl:=Option.some.inj ho0;exact Av (rs:=[.tmp 2]) Tryz.results82 (.tmp rfl (.nil)) (Ln:=[]) ⟨rfl,rfl,trivial⟩ (Ax) (by exact .drop 0 rfl (.refl))
   ·have hx27:=Bx h25 hx24;refine Y8 ?_;exact Rp (w64 (s1+1)) () hx27 trivial (by exact .pick 0 rfl (.refl))
  ·refine Y3 ?_;obtain rfl:=Bd ht0 hx18;refine Y2 ?_;exact Mt () () ho0 trivial (by exact .pick 0 rfl (.refl))
set_option maxRecDepth 100000 in
theorem Aei (p0:Aa) (p1:Aa)  {r:Bool} (hx:Rq p0 p1=some r) (w:World):CtL Tryz.prog 138 [.agg #[.int .i64 (p0.Id),.int .i64 (p0.X),.int .i64 (p0.Y),.int .i64 (p0.Z.Lo),.int .i64 (p0.Z.Hi),.int .i64 (p0.Wide),.int .i64 (p0.Num),.int .i64 (p0.Of),.int .i64 (p0.Class)],.agg #[.int .i64 (p1.Id),.int .i64 (p1.X),.int .i64 (p1.Y),.int .i64 (p1.Z.Lo),.int .i64 (p1.Z.Hi),.int .i64 (p1.Wide),.int .i64 (p1.Num),.int .i64 (p1.Of),.int .i64 (p1.Class)]] w fun v Ln=>v = .bool (r)∧Ln=[]∧True:=by
 refine CtL.mk 28 Tryz.func138 rfl Tryz.ntmps138 (by kernel_rfl) rfl ?_;show T 28 _ [(0,.agg #[.int .i64 (p0.Id),.int .i64 (p0.X),.int .i64 (p0.Y),.int .i64 (p0.Z.Lo),.int .i64 (p0.Z.Hi),.int .i64 (p0.Wide),.int .i64 (p0.Num),.int .i64 (p0.Of),.int .i64 (p0.Class)]),(1,.agg #[.int .i64 (p1.Id),.int .i64 (p1.X),.int .i64 (p1.Y),.int .i64 (p1.Z.Lo),.int .i64 (p1.Z.Hi),.int .i64 (p1.Wide),.int .i64 (p1.Num),.int .i64 (p1.Of),.int .i64 (p1.Class)])] _;unfold Rq at hx;refine Y2 ?_;refine T_x (Bl rfl rfl rfl (fun g1=>?_));refine T_x (Bl rfl rfl rfl (fun g2=>?_));refine Y3 ?_;refine Tj (γ:=Unit) hx (fun s2 y2=>[(4,.bool (s2))]) (fun s2 y2=>[]++[.old w]) (fun s2 y2=>True) (fun s2 y2 hx9 hG0=>?_) (fun j2 hx=>?_)
 ·refine Y ?_;obtain rfl:=Option.some.inj hx9;exact Av (rs:=[.tmp 4]) Tryz.results138 (.tmp rfl (.nil)) (Ln:=[]) ⟨rfl,rfl,trivial⟩ (Ax) (by exact .refl)
 ·refine Y ?_;refine Af (Ah rfl Kz rfl) rfl ?_;refine Af (Ah rfl Mk rfl) rfl ?_;refine Af (Ag rfl (i:=1) rfl rfl one3) rfl ?_;refine Af (Ah rfl Kz rfl) rfl ?_;refine Af (Ah rfl Mk rfl) rfl ?_;refine Af (Ag rfl (i:=0) rfl rfl one3) rfl ?_;refine Y2 ?_;refine Ti hx (s:=12) rfl (fun h3 hx4=>?_) (fun h3 hx5=>?_)
  ·(iterate 17 refine Y ?_);exact Mt true () hx4 trivial (by exact .drop 0 rfl (.drop 0 rfl (.refl)))
  ·refine Aq rfl rfl rfl (Ah rfl Kz rfl) rfl ?_;refine Aq rfl rfl rfl (Ah rfl Mk rfl) rfl ?_;refine Aq rfl rfl rfl (Ag rfl (i:=1) rfl rfl one3) rfl ?_;refine Aq rfl rfl rfl (Ah rfl Kz rfl) rfl ?_;refine Aq rfl rfl rfl (Ah rfl Mk rfl) rfl ?_;refine Aq rfl rfl rfl (Ag rfl (i:=0) rfl rfl one3) rfl ?_;refine Y2 ?_;refine Ti hx5 (s:=20) rfl (fun h6 hx7=>?_) (fun h6 hx8=>?_)
   ·refine Aq rfl rfl rfl (Ah rfl Jz rfl) rfl ?_;refine Aq rfl rfl rfl (Ag rfl (i:=1) rfl rfl one3) rfl ?_;refine Aq rfl rfl rfl (Ah rfl Jz rfl) rfl ?_;refine Aq rfl rfl rfl (Ag rfl (i:=0) rfl rfl one3) rfl ?_;refine Y5 ?_;exact Mt (decide (p0.Id < p1.Id)) () hx7 trivial (by exact .drop 0 rfl (.drop 0 rfl (.refl)))
   ·refine Y9 ?_;exact Mt false () hx8 trivial (by exact .drop 0 rfl (.drop 0 rfl (.refl)))
set_option maxRecDepth 100000 in
theorem Abc (p0:Ad) (p1:Ad)  {r:Int} (hx:Pz p0 p1=some r) (w:World):CtL Tryz.prog 164 [.agg #[.int .i64 (p0.X),.int .i64 (p0.Y)],.agg #[.int .i64 (p1.X),.int .i64 (p1.Y)]] w fun v Ln=>v = .int .i64 (r)∧Ln=[]∧True:=by
 refine CtL.mk 24 Tryz.func164 rfl Tryz.ntmps164 (by kernel_rfl) rfl ?_;show T 24 _ [(0,.agg #[.int .i64 (p0.X),.int .i64 (p0.Y)]),(1,.agg #[.int .i64 (p1.X),.int .i64 (p1.Y)])] _;unfold Pz at hx;refine Y2 ?_;refine T_x (Bl rfl rfl rfl (fun g1=>?_));refine T_x (Bl rfl rfl rfl (fun g2=>?_));refine Y4 ?_;refine T_dr [0,1,0,1,0,0,1,0,1,0,2,2] (.q 0 (.q 1 (.q 2 (.q 3 (.q 4 (.q 5 (.q 6 (.q 7 (.q 8 (.q 9 (.e 10 (.e 11 (.done) (.stop)) (.stop)))))))))))) mixed (by kernel_rfl) (by kernel_rfl) ?_;refine P_p rfl rfl (Ah rfl Cl rfl) rfl ?_;refine P_q rfl rfl (Ag rfl (i:=1) rfl rfl one3) rfl ?_;refine P_p rfl rfl (Ah rfl Cl rfl) rfl ?_;refine P_q rfl rfl (Ag rfl (i:=0) rfl rfl one3) rfl ?_;refine Y ?_;refine P_p rfl rfl (Ah rfl Ck rfl) rfl ?_;refine P_q rfl rfl (Ag rfl (i:=1) rfl rfl one3) rfl ?_;refine P_p rfl rfl (Ah rfl Ck rfl) rfl ?_;refine P_q rfl rfl (Ag rfl (i:=0) rfl rfl one3) rfl ?_;refine Y ?_;refine P_x rfl (Ec (Ce rfl) rfl ?_) ?_;rotate_left;exact Bb;refine P_x rfl (Ec (Ce rfl) rfl ?_) ?_;rotate_left;exact Bb;(iterate 15 refine Y ?_);obtain rfl:=Option.some.inj hx;exact Av (rs:=[.tmp 4]) Tryz.results164 (.tmp rfl (.nil)) (Ln:=[]) ⟨rfl,rfl,trivial⟩ (Ax) (by exact .drop 0 rfl (.drop 0 rfl (.refl)))
set_option maxRecDepth 100000 in
theorem Afm (p0:Aa) (p1:Aa) (p2:Int)  {r:Bool} (hx:Ta p0 p1 p2=some r) (w:World):CtL Tryz.prog 217 [.agg #[.int .i64 (p0.Id),.int .i64 (p0.X),.int .i64 (p0.Y),.int .i64 (p0.Z.Lo),.int .i64 (p0.Z.Hi),.int .i64 (p0.Wide),.int .i64 (p0.Num),.int .i64 (p0.Of),.int .i64 (p0.Class)],.agg #[.int .i64 (p1.Id),.int .i64 (p1.X),.int .i64 (p1.Y),.int .i64 (p1.Z.Lo),.int .i64 (p1.Z.Hi),.int .i64 (p1.Wide),.int .i64 (p1.Num),.int .i64 (p1.Of),.int .i64 (p1.Class)],.int .i64 (p2)] w fun v Ln=>v = .bool (r)∧Ln=[]∧True:=by
 refine CtL.mk 16 Tryz.func217 rfl Tryz.ntmps217 (by kernel_rfl) rfl ?_;show T 16 _ [(0,.agg #[.int .i64 (p0.Id),.int .i64 (p0.X),.int .i64 (p0.Y),.int .i64 (p0.Z.Lo),.int .i64 (p0.Z.Hi),.int .i64 (p0.Wide),.int .i64 (p0.Num),.int .i64 (p0.Of),.int .i64 (p0.Class)]),(1,.agg #[.int .i64 (p1.Id),.int .i64 (p1.X),.int .i64 (p1.Y),.int .i64 (p1.Z.Lo),.int .i64 (p1.Z.Hi),.int .i64 (p1.Wide),.int .i64 (p1.Num),.int .i64 (p1.Of),.int .i64 (p1.Class)]),(2,.int .i64 (p2))] _;unfold Ta at hx;refine Y2 ?_;refine T_x (Bl rfl rfl rfl (fun g1=>?_));refine T_x (Bl rfl rfl rfl (fun g2=>?_));refine Y4 ?_;refine T_dr [1,2,1,2,2,0,0,0,0,2] (.q 0 (.q 2 (.q 5 (.q 6 (.q 7 (.e 1 (.e 3 (.e 4 (.q 8 (.e 9 (.done) (.stop))) (.stop)) (.stop)) (.stop))))))) mixed (by kernel_rfl) (by kernel_rfl) ?_;refine P_q rfl rfl (Au rfl (i:=1) rfl rfl Fc) rfl ?_;refine P_q rfl rfl (Au rfl (i:=0) rfl rfl Fc) rfl ?_;refine Y3 ?_;obtain ⟨r3,h4,hx5⟩:=Ac hx;refine Pc (fun w1 hw1=>Qd p0  h4 w1) ?_;obtain ⟨r6,h7,hx8⟩:=Ac hx5;refine Pc (fun w1 hw1=>Qd p1  h7 w1) ?_;obtain ⟨r9,h0,hx0⟩:=Ac hx8;refine Pc (fun w1 hw1=>Abc r3 r6  h0 w1) ?_;refine Y ?_;refine P_x rfl (Ec (Ce rfl) rfl ?_) ?_;rotate_left;exact Bb;refine Y3 ?_;obtain rfl:=Option.some.inj hx0;exact Av (rs:=[.tmp 6]) Tryz.results217 (.tmp rfl (.nil)) (Ln:=[]) ⟨rfl,rfl,trivial⟩ (Ax) (by exact .drop 0 rfl (.drop 0 rfl (.refl)))
set_option maxRecDepth 100000 in
theorem Acf (p0:List Aa) (p1:Bi) {K:List Ent} {A0_0:Option Addr} {c0_0:Nat} (ha0:Has K A0_0 p0.length c0_0 9 Ao (p0)) {r:Int} (hx:Oh p0 p1=some r) (w:World) (hK:∀ e∈K,Ent.ok w e):CtL Tryz.prog 66 [.slice (A0_0) (p0.length) (c0_0),.agg #[.int .i64 (p1.Cell),.int .i64 (p1.Reach),.int .i64 (p1.Slope),.int .i64 (p1.Link),.int .i64 (p1.Flat),.int .i64 (p1.Tall),.int .i64 (p1.High),.int .i64 (p1.Low),.int .i64 (p1.Brush),.int .i64 (p1.Few)]] w fun v Ln=>v = .int .i64 (r)∧Ln=[]∧True:=by
 have ha0':=Has.up0 ha0;refine CtL.mk 11 Tryz.func66 rfl Tryz.ntmps66 (by kernel_rfl) rfl ?_;show T 11 _ [(0,.slice (A0_0) (p0.length) (c0_0)),(1,.agg #[.int .i64 (p1.Cell),.int .i64 (p1.Reach),.int .i64 (p1.Slope),.int .i64 (p1.Link),.int .i64 (p1.Flat),.int .i64 (p1.Tall),.int .i64 (p1.High),.int .i64 (p1.Low),.int .i64 (p1.Brush),.int .i64 (p1.Few)])] _;unfold Oh at hx;refine Y2 ?_;refine T_x (Bl rfl rfl rfl (fun g1=>?_));refine Y6 ?_;refine Af (Au rfl (i:=0) rfl rfl Af6) rfl ?_;obtain ⟨r2,h3,hx4⟩:=Ac hx;refine Tc (fun w1 hw1=>Zc p1  h3 w1) ?_;refine Y3 ?_;refine Cz (s:=7) rfl (fun h5=>?_) (fun h5=>?_)
 ·have hx6:=Bn h5 hx4;refine Y8 ?_;obtain rfl:=Option.some.inj hx6;exact Av (rs:=[.tmp 4]) Tryz.results66 (.tmp rfl (.nil)) (Ln:=[]) ⟨rfl,rfl,trivial⟩ (Ax) (by exact .drop 0 rfl (.refl))
 ·have hx7:=Bx h5 hx4;refine Y7 ?_;obtain ⟨r8,h9,hx0⟩:=Ac hx7;refine Tc (fun w1 hw1=>Xq p0 (Has.len' ha0') h9 w1 (Dz (K:=K) (K2:=[]) hK (by exact (sb 1)) (by exact (SubE.nil)) hw1)) ?_;refine Y3 ?_;refine Cz (s:=10) rfl (fun h0=>?_) (fun h0=>?_)
  ·have hx1:=Bn h0 hx0;refine Y8 ?_;obtain rfl:=Option.some.inj hx1;exact Av (rs:=[.tmp 4]) Tryz.results66 (.tmp rfl (.nil)) (Ln:=[]) ⟨rfl,rfl,trivial⟩ (Ax) (by exact .drop 0 rfl (.refl))
  ·have hx2:=Bx h0 hx0;refine Y9 ?_;obtain rfl:=Option.some.inj hx2;exact Av (rs:=[.tmp 4]) Tryz.results66 (.tmp rfl (.nil)) (Ln:=[]) ⟨rfl,rfl,trivial⟩ (Ax) (by exact .drop 0 rfl (.refl))
set_option maxRecDepth 100000 in
theorem Adb (p0:List Aa) (p1:Int) (p2:Bi) {K:List Ent} {A0_0:Option Addr} {c0_0:Nat} (ha0:Has K A0_0 p0.length c0_0 9 Ao (p0)) {r:Bool} (hx:Qa p0 p1 p2=some r) (w:World) (hK:∀ e∈K,Ent.ok w e):CtL Tryz.prog 154 [.slice (A0_0) (p0.length) (c0_0),.int .i64 (p1),.agg #[.int .i64 (p2.Cell),.int .i64 (p2.Reach),.int .i64 (p2.Slope),.int .i64 (p2.Link),.int .i64 (p2.Flat),.int .i64 (p2.Tall),.int .i64 (p2.High),.int .i64 (p2.Low),.int .i64 (p2.Brush),.int .i64 (p2.Few)]] w fun v Ln=>v = .bool (r)∧Ln=[]∧True:=by
 have ha0':=Has.up0 ha0;refine CtL.mk 46 Tryz.func154 rfl Tryz.ntmps154 (by kernel_rfl) rfl ?_;show T 46 _ [(0,.slice (A0_0) (p0.length) (c0_0)),(1,.int .i64 (p1)),(2,.agg #[.int .i64 (p2.Cell),.int .i64 (p2.Reach),.int .i64 (p2.Slope),.int .i64 (p2.Link),.int .i64 (p2.Flat),.int .i64 (p2.Tall),.int .i64 (p2.High),.int .i64 (p2.Low),.int .i64 (p2.Brush),.int .i64 (p2.Few)])] _;unfold Qa at hx;refine Y2 ?_;refine T_x (Bl rfl rfl rfl (fun g1=>?_));refine Y8 ?_;refine Tj (γ:=Unit) hx (fun s3 y3=>[(7,.bool (s3))]) (fun s3 y3=>[]++[.old w]) (fun s3 y3=>True) (fun s3 y3 hx0 hG0=>?_) (fun j3 hx=>?_)
 ·refine Y7 ?_;obtain rfl:=Option.some.inj hx0;exact Av (rs:=[.tmp 6]) Tryz.results154 (.tmp rfl (.nil)) (Ln:=[]) ⟨rfl,rfl,trivial⟩ (Ax) (by exact .refl)
 ·refine Y3 ?_;refine Af (Bf rfl 66 Tryz.underlying47) rfl ?_;refine Y4 ?_;obtain ⟨t0,hl0,ho0⟩:=Ac hx;refine Lp (σ:=Bool × Int) (γ:=Unit) hl0 (fun s0 y0=>[(0,.slice (A0_0) (p0.length) (c0_0)),(1,.int .i64 (p1)),(5,.pointer (some ⟨g1,0,none⟩)),(7,.bool (s0.1)),(10,.slice (A0_0) (p0.length) (c0_0)),(11,.int .i64 (((p0.length:Nat):Int))),(12,.int .i64 (s0.2))]) (fun s0 y0=>[.m g1 54 [.int .i64 (p2.Cell),.int .i64 (p2.Reach),.int .i64 (p2.Slope),.int .i64 (p2.Link),.int .i64 (p2.Flat),.int .i64 (p2.Tall),.int .i64 (p2.High),.int .i64 (p2.Low),.int .i64 (p2.Brush),.int .i64 (p2.Few)]]++[.old w]) (fun s0 y0=>True) () trivial (by exact .pick 0 rfl (.refl)) ?_;intro s0 y0 hG1 x0 hx1 ht0;unfold Ll at hx1;refine Y6 ?_;refine Ti hx1 (s:=13) rfl (fun h0 hx2=>?_) (fun h0 hx3=>?_)
  ·refine Y3 ?_;refine Tj (γ:=Unit) hx2 (fun s1 y1=>[(0,.slice (A0_0) (p0.length) (c0_0)),(1,.int .i64 (p1)),(5,.pointer (some ⟨g1,0,none⟩)),(7,.bool (s1)),(10,.slice (A0_0) (p0.length) (c0_0)),(11,.int .i64 (((p0.length:Nat):Int))),(12,.int .i64 (s0.2))]) (fun s1 y1=>[.m g1 54 [.int .i64 (p2.Cell),.int .i64 (p2.Reach),.int .i64 (p2.Slope),.int .i64 (p2.Link),.int .i64 (p2.Flat),.int .i64 (p2.Tall),.int .i64 (p2.High),.int .i64 (p2.Low),.int .i64 (p2.Brush),.int .i64 (p2.Few)]]++[.old w]) (fun s1 y1=>True) (fun s1 y1 hx4 hG2=>?_) (fun j0 hx2=>?_)
   ·refine Y4 ?_;exact Rp (s1,w64 (s0.2+1)) () hx4 trivial (by exact .pick 0 rfl (.refl))
   ·refine Y4 ?_;obtain ⟨x1,h1,hx5⟩:=Ac hx2;have hw0:=Has.low (E:=[]) ha0' hK;obtain ⟨b0,o0,j1,hA0,hj0,hl1,hp0⟩:=Has.at_idx hw0 h1;refine Af (Az rfl rfl hA0 (j:=j1) hj0 hl1 Na) rfl ?_;refine Af (Cg rfl hp0 (sb 1) rfl Fc) rfl ?_;refine T_x (Bp Xn rfl (fun g0=>?_));refine Y ?_;refine T_h (Bc rfl rfl rfl (.here) (.put (.put (.put (.put (.put (.put (.put (.put (.put (.done)))))))))) rfl (List.cons_ne_nil _ _) Fc.2 ?_);refine Y3 ?_;refine Tj (γ:=Unit) hx5 (fun s2 y2=>[(0,.slice (A0_0) (p0.length) (c0_0)),(1,.int .i64 (p1)),(5,.pointer (some ⟨g1,0,none⟩)),(7,.bool (s0.1)),(9,.pointer (some ⟨g0,0,none⟩)),(10,.slice (A0_0) (p0.length) (c0_0)),(11,.int .i64 (((p0.length:Nat):Int))),(12,.int .i64 (s0.2)),(30,.bool (s2))]) (fun s2 y2=>[.m g0 66 [.int .i64 (x1.Id),.int .i64 (x1.X),.int .i64 (x1.Y),.int .i64 (x1.Z.Lo),.int .i64 (x1.Z.Hi),.int .i64 (x1.Wide),.int .i64 (x1.Num),.int .i64 (x1.Of),.int .i64 (x1.Class)],.m g1 54 [.int .i64 (p2.Cell),.int .i64 (p2.Reach),.int .i64 (p2.Slope),.int .i64 (p2.Link),.int .i64 (p2.Flat),.int .i64 (p2.Tall),.int .i64 (p2.High),.int .i64 (p2.Low),.int .i64 (p2.Brush),.int .i64 (p2.Few)]]++[.old w]) (fun s2 y2=>True) (fun s2 y2 hx6 hG3=>?_) (fun j2 hx5=>?_)
    ·refine By (s:=30) rfl (fun h2=>?_) (fun h2=>?_)
     ·have hx7:=Bx h2 hx6;refine Y4 ?_;exact Mt s0.1 () hx7 trivial (by exact .pick 1 rfl (.drop 0 rfl (.refl)))
     ·have hx8:=Bn h2 hx6;refine Y5 ?_;refine T_dr [0,0,1,0,0,0,0,0,1,0,0,1,0] (.q 0 (.q 1 (.q 2 (.q 3 (.q 4 (.q 5 (.q 6 (.q 7 (.q 8 (.q 9 (.q 10 (.q 11 (.q 12 (.done)))))))))))))) mixed (by kernel_rfl) (by kernel_rfl) ?_;refine P_p rfl rfl (Ah rfl Kz rfl) rfl ?_;refine P_p rfl rfl (Ah rfl Sk rfl) rfl ?_;refine P_q rfl rfl (Ag rfl (i:=0) rfl rfl one3) rfl ?_;refine Y2 ?_;obtain ⟨x2,h3,hx9⟩:=Ac hx8;have hw2:=Has.low (E:=[]) ha0' hK;obtain ⟨b1,o1,j4,hA1,hj1,hl2,hp1⟩:=Has.at_idx hw2 h3;refine P_p rfl rfl (Az rfl rfl hA1 (j:=j4) hj1 hl2 Na) rfl ?_;refine P_p rfl rfl (Ah rfl Kz rfl) rfl ?_;refine P_p rfl rfl (Ah rfl Mk rfl) rfl ?_;refine P_q rfl rfl (Ew (d:=4) rfl hp1 (sb 2) rfl one3) rfl ?_;refine Y ?_;refine P_p rfl rfl (Ah rfl Akz rfl) rfl ?_;refine P_q rfl rfl (Ag rfl (i:=1) rfl rfl one3) rfl ?_;refine Y3 ?_;refine Ti hx9 (s:=43) rfl (fun h4 hx10=>?_) (fun h4 hx11=>?_)
      ·refine Y10 ?_;obtain rfl:=Bd ht0 hx10;refine Y3 ?_;obtain rfl:=Option.some.inj ho0;exact Av (rs:=[.tmp 6]) Tryz.results154 (.tmp rfl (.nil)) (Ln:=[]) ⟨rfl,rfl,trivial⟩ (Ax) (by exact .drop 0 rfl (.drop 0 rfl (.refl)))
      ·refine Y7 ?_;exact Mt true () hx11 trivial (by exact .pick 1 rfl (.drop 0 rfl (.refl)))
    ·refine T_dr [0,0,0,0,0,0,0,1,1,0,1,2,0,0] (.q 0 (.q 1 (.q 2 (.q 3 (.q 4 (.q 5 (.q 6 (.q 7 (.q 8 (.q 9 (.q 10 (.e 11 (.q 12 (.q 13 (.done))) (.stop))))))))))))) mixed (by kernel_rfl) (by kernel_rfl) ?_;refine Y4 ?_;refine Ti hx5 (s:=20) rfl (fun h5 hx73=>?_) (fun h5 hx74=>?_)
     ·refine Y7 ?_;refine Dw rfl rfl rfl rfl rfl rfl ?_ ?_;rotate_left;exact Bb;refine Y3 ?_;exact Mt true () hx73 trivial (by exact .pick 0 rfl (.pick 0 rfl (.refl)))
     ·refine Y2 ?_;obtain ⟨x3,h6,hx77⟩:=Ac hx74;have hw3:=Has.low (E:=[]) ha0' hK;obtain ⟨b2,o2,j5,hA2,hj2,hl3,hp2⟩:=Has.at_idx hw3 h6;refine P_pG rfl rfl rfl rfl rfl (Az rfl rfl hA2 (j:=j5) hj2 hl3 Na) rfl ?_;refine P_qG rfl rfl rfl rfl rfl (Cg rfl hp2 (sb 2) rfl Fc) rfl ?_;refine P_qG rfl rfl rfl rfl rfl (Au rfl (i:=0) rfl rfl Fc) rfl ?_;refine P_pG rfl rfl rfl rfl rfl (Ah rfl Ak0 rfl) rfl ?_;refine P_qG rfl rfl rfl rfl rfl (Ag rfl (i:=1) rfl rfl one3) rfl ?_;obtain ⟨r0,h7,hx88⟩:=Ac hx77;refine P_xG rfl rfl rfl rfl (Aw rfl (fun w1 hw1=>Afm x3 x1 p2.Link  h7 w1) rfl ?_) ?_;rotate_left;exact Bb;rintro _ _ hlo ⟨rfl,rfl,-⟩;refine Cs ?_;refine Y3 ?_;exact Mt (!(r0)) () hx88 trivial (by exact .pick 0 rfl (.pick 0 rfl (.refl)))
  ·refine Y3 ?_;obtain rfl:=Bd ht0 hx3;refine Y2 ?_;exact Mt s0.1 () ho0 trivial (by exact .drop 0 rfl (.refl))
set_option maxRecDepth 100000 in
theorem Adc (p0:List Aa) (p1:Bi) {K:List Ent} {A0_0:Option Addr} {c0_0:Nat} (ha0:Has K A0_0 p0.length c0_0 9 Ao (p0)) {r:(List Aa) × (List Aa)} (hx:Qb p0 p1=some r) (w:World) (hK:∀ e∈K,Ent.ok w e):CtL Tryz.prog 78 [.slice (A0_0) (p0.length) (c0_0),.agg #[.int .i64 (p1.Cell),.int .i64 (p1.Reach),.int .i64 (p1.Slope),.int .i64 (p1.Link),.int .i64 (p1.Flat),.int .i64 (p1.Tall),.int .i64 (p1.High),.int .i64 (p1.Low),.int .i64 (p1.Brush),.int .i64 (p1.Few)]] w fun v Ln=>∃ (A0:Option Addr) (c0:Nat) (A2:Option Addr) (c2:Nat),v = .tuple #[.slice (A0) (r.1.length) (c0),.slice (A2) (r.2.length) (c2)]∧Ln=[.r A0 r.1.length c0 66 9 (r.1.flatMap Ao),.r A2 r.2.length c2 66 9 (r.2.flatMap Ao)]∧True:=by
 have ha0':=Has.up0 ha0;refine CtL.mk 30 Tryz.func78 rfl Tryz.ntmps78 (by kernel_rfl) rfl ?_;show T 30 _ [(0,.slice (A0_0) (p0.length) (c0_0)),(1,.agg #[.int .i64 (p1.Cell),.int .i64 (p1.Reach),.int .i64 (p1.Slope),.int .i64 (p1.Link),.int .i64 (p1.Flat),.int .i64 (p1.Tall),.int .i64 (p1.High),.int .i64 (p1.Low),.int .i64 (p1.Brush),.int .i64 (p1.Few)])] _;unfold Qb at hx;refine Y2 ?_;refine T_x (Bl rfl rfl rfl (fun g1=>?_));refine Y4 ?_;refine Tj (γ:=(Option Addr) × Nat × (Option Addr) × Nat) hx (fun s2 y2=>[(4,.slice (y2.1) (s2.1.length) (y2.2.1)),(5,.slice (y2.2.2.1) (s2.2.length) (y2.2.2.2))]) (fun s2 y2=>[.r (y2.1) (s2.1.length) (y2.2.1) 66 9 (s2.1.flatMap Ao),.r (y2.2.2.1) (s2.2.length) (y2.2.2.2) 66 9 (s2.2.flatMap Ao)]++[.old w]) (fun s2 y2=>True) (fun s2 y2 hx0 hG0=>?_) (fun j2 hx=>?_)
 ·refine Y9 ?_;obtain rfl:=Option.some.inj hx0;exact Av (rs:=[.tmp 4,.tmp 5]) Tryz.results78 (.tmp rfl (.tmp rfl (.nil))) (Ln:=[.r (y2.1) (s2.1.length) (y2.2.1) 66 9 (s2.1.flatMap Ao),.r (y2.2.2.1) (s2.2.length) (y2.2.2.2) 66 9 (s2.2.flatMap Ao)]) ⟨y2.1,y2.2.1,y2.2.2.1,y2.2.2.2,rfl,rfl,trivial⟩ (Ay rfl (Ay rfl (Ax))) (by exact .pick 0 rfl (.pick 0 rfl (.refl)))
 ·refine Y3 ?_;refine Af (Bf rfl 66 Tryz.underlying47) rfl ?_;refine Y4 ?_;obtain ⟨t0,hl0,ho0⟩:=Ac hx;refine Cr 66 9 ?_;refine Cr 66 9 ?_
  have hn0:0=(([]:List Aa)).length:=by simp [Bq,Ca,List.length_append] <;> omega
  refine Ds (.there (.here)) (e':=.r (none) ((([]:List Aa)).length) (0) 66 9 ((([]:List Aa)).flatMap Ao)) (by first | (rw [← hn0];done) | rfl) ?_
  have hn1:0=(([]:List Aa)).length:=by simp [Bq,Ca,List.length_append] <;> omega
  refine Ds (.here) (e':=.r (none) ((([]:List Aa)).length) (0) 66 9 ((([]:List Aa)).flatMap Ao)) (by first | (rw [← hn1];done) | rfl) ?_;refine Lp (σ:=(List Aa) × (List Aa) × Int) (γ:=(Option Addr) × Nat × (Option Addr) × Nat) hl0 (fun s0 y0=>[(0,.slice (A0_0) (p0.length) (c0_0)),(3,.pointer (some ⟨g1,0,none⟩)),(4,.slice (y0.1) (s0.1.length) (y0.2.1)),(5,.slice (y0.2.2.1) (s0.2.1.length) (y0.2.2.2)),(8,.slice (A0_0) (p0.length) (c0_0)),(9,.int .i64 (((p0.length:Nat):Int))),(10,.int .i64 (s0.2.2))]) (fun s0 y0=>[.r (y0.1) (s0.1.length) (y0.2.1) 66 9 (s0.1.flatMap Ao),.r (y0.2.2.1) (s0.2.1.length) (y0.2.2.2) 66 9 (s0.2.1.flatMap Ao),.m g1 54 [.int .i64 (p1.Cell),.int .i64 (p1.Reach),.int .i64 (p1.Slope),.int .i64 (p1.Link),.int .i64 (p1.Flat),.int .i64 (p1.Tall),.int .i64 (p1.High),.int .i64 (p1.Low),.int .i64 (p1.Brush),.int .i64 (p1.Few)]]++[.old w]) (fun s0 y0=>True) (none,0,none,0) trivial (by exact .pick 1 rfl (.pick 0 rfl (.pick 0 rfl (.refl)))) ?_;intro s0 y0 hG1 x0 hx1 ht0;unfold Iv at hx1;refine Y6 ?_;refine Ti hx1 (s:=11) rfl (fun h0 hx2=>?_) (fun h0 hx3=>?_)
  ·refine Y3 ?_;refine Tj (γ:=(Option Addr) × Nat × (Option Addr) × Nat) hx2 (fun s1 y1=>[(0,.slice (A0_0) (p0.length) (c0_0)),(3,.pointer (some ⟨g1,0,none⟩)),(4,.slice (y1.1) (s1.1.length) (y1.2.1)),(5,.slice (y1.2.2.1) (s1.2.length) (y1.2.2.2)),(8,.slice (A0_0) (p0.length) (c0_0)),(9,.int .i64 (((p0.length:Nat):Int))),(10,.int .i64 (s0.2.2))]) (fun s1 y1=>[.r (y1.1) (s1.1.length) (y1.2.1) 66 9 (s1.1.flatMap Ao),.r (y1.2.2.1) (s1.2.length) (y1.2.2.2) 66 9 (s1.2.flatMap Ao),.m g1 54 [.int .i64 (p1.Cell),.int .i64 (p1.Reach),.int .i64 (p1.Slope),.int .i64 (p1.Link),.int .i64 (p1.Flat),.int .i64 (p1.Tall),.int .i64 (p1.High),.int .i64 (p1.Low),.int .i64 (p1.Brush),.int .i64 (p1.Few)]]++[.old w]) (fun s1 y1=>True) (fun s1 y1 hx4 hG2=>?_) (fun j0 hx2=>?_)
   ·refine Y4 ?_;exact Rp (s1.1,s1.2,w64 (s0.2.2+1)) (y1.1,y1.2.1,y1.2.2.1,y1.2.2.2) hx4 trivial (by exact .pick 0 rfl (.pick 0 rfl (.pick 0 rfl (.refl))))
   ·refine Y4 ?_;obtain ⟨x1,h1,hx5⟩:=Ac hx2;have hw0:=Has.low (E:=[]) ha0' hK;obtain ⟨b0,o0,j1,hA0,hj0,hl1,hp0⟩:=Has.at_idx hw0 h1;refine Af (Az rfl rfl hA0 (j:=j1) hj0 hl1 Na) rfl ?_;refine Af (Cg rfl hp0 (sb 3) rfl Fc) rfl ?_;refine T_x (Bp Xn rfl (fun g0=>?_));refine Y ?_;refine T_h (Bc rfl rfl rfl (.here) (.put (.put (.put (.put (.put (.put (.put (.put (.put (.done)))))))))) rfl (List.cons_ne_nil _ _) Fc.2 ?_);refine Y6 ?_;refine Af (Au rfl (i:=3) rfl rfl Af6) rfl ?_;obtain ⟨r0,h2,hx6⟩:=Ac hx5;refine Tc (fun w1 hw1=>Adb p0 s0.2.2 p1 (Has.len' ha0') h2 w1 (Dz (K:=K) (K2:=[]) hK (by exact (sb 4)) (by exact (SubE.nil)) hw1)) ?_;refine Y2 ?_;refine By (s:=18) rfl (fun h3=>?_) (fun h3=>?_)
    ·have hx7:=Bx h3 hx6;refine Y3 ?_;refine Af (Au rfl (i:=0) rfl rfl Fc) rfl ?_;refine T_x (Bk rfl (Cf _ _ _ _ _ _ _ _ _) rfl (fun g2=>?_));obtain ⟨h4,hx8⟩:=Bj hx7;refine T_h (Dd Ao (s0.2.1) [x1] rfl rfl rfl Aeh (fun _=>rfl) (i':=0) rfl rfl rfl rfl h4 rfl (fun _ _=>.there (.there (.there (.here)))) (fun _ _=>.drop .refl) (by decide) (fun A1 c1=>?_));refine Y3 ?_;exact Mt (s0.1,s0.2.1++[x1]) (y0.1,y0.2.1,A1,c1) hx8 trivial (by exact .pick 1 rfl (.pick 1 rfl (.pick 1 rfl (.drop 0 rfl (.refl)))))
    ·have hx9:=Bn h3 hx6;refine Y3 ?_;refine Af (Au rfl (i:=0) rfl rfl Fc) rfl ?_;refine T_x (Bk rfl (Cf _ _ _ _ _ _ _ _ _) rfl (fun g3=>?_));obtain ⟨h5,hx69⟩:=Bj hx9;refine T_h (Dd Ao (s0.1) [x1] rfl rfl rfl Aeh (fun _=>rfl) (i':=0) rfl rfl rfl rfl h5 rfl (fun _ _=>.there (.there (.here))) (fun _ _=>.drop .refl) (by decide) (fun A3 c3=>?_));refine Y3 ?_;exact Mt (s0.1++[x1],s0.2.1) (A3,c3,y0.2.2.1,y0.2.2.2) hx69 trivial (by exact .pick 1 rfl (.pick 1 rfl (.pick 1 rfl (.drop 0 rfl (.refl)))))
  ·refine Y3 ?_;obtain rfl:=Bd ht0 hx3;refine Y2 ?_;exact Mt (s0.1,s0.2.1) (y0.1,y0.2.1,y0.2.2.1,y0.2.2.2) ho0 trivial (by exact .pick 0 rfl (.pick 0 rfl (.drop 0 rfl (.refl))))
set_option maxRecDepth 100000 in
theorem Xr (p0:Int) (p1:Int)  {r:Int} (hx:Pk p0 p1=some r) (w:World):CtL Tryz.prog 152 [.int .i64 (p0),.int .i64 (p1)] w fun v Ln=>v = .int .i64 (r)∧Ln=[]∧True:=by
 refine CtL.mk 16 Tryz.func152 rfl Tryz.ntmps152 (by kernel_rfl) rfl ?_;show T 16 _ [(0,.int .i64 (p0)),(1,.int .i64 (p1))] _;unfold Pk at hx;refine Y9 ?_;obtain ⟨h1,hx2⟩:=Bj hx;refine Af (Aj7 rfl rfl h1) rfl ?_;refine Y3 ?_;refine Tj (γ:=Unit) hx2 (fun s3 y3=>[(5,.int .i64 (s3))]) (fun s3 y3=>[]++[.old w]) (fun s3 y3=>True) (fun s3 y3 hx8 hG9=>?_) (fun j3 hx2=>?_)
 ·refine Y7 ?_;obtain rfl:=Option.some.inj hx8;exact Av (rs:=[.tmp 4]) Tryz.results152 (.tmp rfl (.nil)) (Ln:=[]) ⟨rfl,rfl,trivial⟩ (Ax) (by exact .refl)
 ·refine Y4 ?_;obtain ⟨h3,hx4⟩:=Bj hx2;refine Af (Ahm rfl rfl h3) rfl ?_;refine Y3 ?_;refine Ti hx4 (s:=12) rfl (fun h5 hx6=>?_) (fun h5 hx7=>?_)
  ·refine Y6 ?_;exact Mt (w64 ((w64 (Int.tdiv p0 p1))-1)) () hx6 trivial (by exact .refl)
  ·refine Y2 ?_;exact Mt (w64 (Int.tdiv p0 p1)) () hx7 trivial (by exact .refl)
set_option maxRecDepth 100000 in
theorem Ul (p0:Ad) (p1:Ad) (p2:Ad)  {r:Int} (hx:Oz p0 p1 p2=some r) (w:World):CtL Tryz.prog 284 [.agg #[.int .i64 (p0.X),.int .i64 (p0.Y)],.agg #[.int .i64 (p1.X),.int .i64 (p1.Y)],.agg #[.int .i64 (p2.X),.int .i64 (p2.Y)]] w fun v Ln=>v = .int .i64 (r)∧Ln=[]∧True:=by
 refine CtL.mk 37 Tryz.func284 rfl Tryz.ntmps284 (by kernel_rfl) rfl ?_;show T 37 _ [(0,.agg #[.int .i64 (p0.X),.int .i64 (p0.Y)]),(1,.agg #[.int .i64 (p1.X),.int .i64 (p1.Y)]),(2,.agg #[.int .i64 (p2.X),.int .i64 (p2.Y)])] _;unfold Oz at hx;refine Y2 ?_;refine T_x (Bl rfl rfl rfl (fun g1=>?_));refine T_x (Bl rfl rfl rfl (fun g2=>?_));refine T_x (Bl rfl rfl rfl (fun g3=>?_));refine Y5 ?_;refine Af (Ah rfl Cl rfl) rfl ?_;refine Af (Ag rfl (i:=1) rfl rfl one3) rfl ?_;refine Af (Ah rfl Cl rfl) rfl ?_;refine Af (Ag rfl (i:=2) rfl rfl one3) rfl ?_;refine Y ?_;refine Af (Ah rfl Ck rfl) rfl ?_;refine Af (Ag rfl (i:=0) rfl rfl one3) rfl ?_;refine Af (Ah rfl Ck rfl) rfl ?_;refine Af (Ag rfl (i:=2) rfl rfl one3) rfl ?_;refine Y2 ?_;refine Af (Ah rfl Ck rfl) rfl ?_;refine Af (Ag rfl (i:=1) rfl rfl one3) rfl ?_;refine Af (Ah rfl Ck rfl) rfl ?_;refine Af (Ag rfl (i:=2) rfl rfl one3) rfl ?_;refine Y ?_;refine Af (Ah rfl Cl rfl) rfl ?_;refine Af (Ag rfl (i:=0) rfl rfl one3) rfl ?_;refine Af (Ah rfl Cl rfl) rfl ?_;refine Af (Ag rfl (i:=2) rfl rfl one3) rfl ?_;(iterate 15 refine Y ?_);refine Ti hx (s:=31) rfl (fun h4 hx5=>?_) (fun h4 hx6=>?_)
 ·refine Y9 ?_;obtain rfl:=Option.some.inj hx5;exact Av (rs:=[.tmp 6]) Tryz.results284 (.tmp rfl (.nil)) (Ln:=[]) ⟨rfl,rfl,trivial⟩ (Ax) (by exact .drop 0 rfl (.drop 0 rfl (.drop 0 rfl (.refl))))
 ·refine Y8 ?_;refine Ti hx6 (s:=34) rfl (fun h7 hx8=>?_) (fun h7 hx9=>?_)
  ·refine Y9 ?_;obtain rfl:=Option.some.inj hx8;exact Av (rs:=[.tmp 6]) Tryz.results284 (.tmp rfl (.nil)) (Ln:=[]) ⟨rfl,rfl,trivial⟩ (Ax) (by exact .drop 0 rfl (.drop 0 rfl (.drop 0 rfl (.refl))))
  ·refine Y10 ?_;obtain rfl:=Option.some.inj hx9;exact Av (rs:=[.tmp 6]) Tryz.results284 (.tmp rfl (.nil)) (Ln:=[]) ⟨rfl,rfl,trivial⟩ (Ax) (by exact .drop 0 rfl (.drop 0 rfl (.drop 0 rfl (.refl))))
set_option maxRecDepth 100000 in
theorem Ah8 (p0:Ad) (p1:Ad) (p2:Ad)  {r:Bool} (hx:Xp p0 p1 p2=some r) (w:World):CtL Tryz.prog 204 [.agg #[.int .i64 (p0.X),.int .i64 (p0.Y)],.agg #[.int .i64 (p1.X),.int .i64 (p1.Y)],.agg #[.int .i64 (p2.X),.int .i64 (p2.Y)]] w fun v Ln=>v = .bool (r)∧Ln=[]∧True:=by
 refine CtL.mk 42 Tryz.func204 rfl Tryz.ntmps204 (by kernel_rfl) rfl ?_;show T 42 _ [(0,.agg #[.int .i64 (p0.X),.int .i64 (p0.Y)]),(1,.agg #[.int .i64 (p1.X),.int .i64 (p1.Y)]),(2,.agg #[.int .i64 (p2.X),.int .i64 (p2.Y)])] _;unfold Xp at hx;refine Y2 ?_;refine T_x (Bl rfl rfl rfl (fun g1=>?_));refine T_x (Bl rfl rfl rfl (fun g2=>?_));refine T_x (Bl rfl rfl rfl (fun g3=>?_));refine Y3 ?_;refine Tj (γ:=Unit) hx (fun s2 y2=>[(6,.bool (s2))]) (fun s2 y2=>[]++[.old w]) (fun s2 y2=>True) (fun s2 y2 hx0 hG0=>?_) (fun j2 hx=>?_)
 ·refine Y ?_;obtain rfl:=Option.some.inj hx0;exact Av (rs:=[.tmp 6]) Tryz.results204 (.tmp rfl (.nil)) (Ln:=[]) ⟨rfl,rfl,trivial⟩ (Ax) (by exact .refl)
 ·refine Y ?_;refine Af (Au rfl (i:=2) rfl rfl Bv) rfl ?_;refine Af (Au rfl (i:=1) rfl rfl Bv) rfl ?_;refine Af (Au rfl (i:=0) rfl rfl Bv) rfl ?_;obtain ⟨r4,h5,hx6⟩:=Ac hx;refine Tc (fun w1 hw1=>Ul p0 p1 p2  h5 w1) ?_;refine Y2 ?_;refine Ti hx6 (s:=12) rfl (fun h7 hx8=>?_) (fun h7 hx1=>?_)
  ·refine Aq rfl rfl rfl (Ah rfl Cl rfl) rfl ?_;refine Aq rfl rfl rfl (Ag rfl (i:=2) rfl rfl one3) rfl ?_;refine Aq rfl rfl rfl (Ah rfl Cl rfl) rfl ?_;refine Aq rfl rfl rfl (Ag rfl (i:=1) rfl rfl one3) rfl ?_;refine Aq rfl rfl rfl (Yq rfl rfl) rfl ?_;refine Aq rfl rfl rfl (Ah rfl Cl rfl) rfl ?_;refine Aq rfl rfl rfl (Ag rfl (i:=0) rfl rfl one3) rfl ?_;refine Aq rfl rfl rfl (Ah rfl Cl rfl) rfl ?_;refine Aq rfl rfl rfl (Ag rfl (i:=2) rfl rfl one3) rfl ?_;refine Aq rfl rfl rfl (Ah rfl Cl rfl) rfl ?_;refine Aq rfl rfl rfl (Ag rfl (i:=1) rfl rfl one3) rfl ?_;refine Aq rfl rfl rfl (Yr rfl rfl) rfl ?_;obtain ⟨r9,h0,hx2⟩:=Ac hx8;refine T_xG rfl rfl rfl (Aw rfl (fun w1 hw1=>Cy (min p0.X p1.X) p2.X (max p0.X p1.X)  h0 w1) rfl ?_);rintro _ _ hlo ⟨rfl,rfl,-⟩;refine Cs ?_;refine Y2 ?_;refine By (s:=27) rfl (fun h1=>?_) (fun h1=>?_)
   ·have hx3:=Bx h1 hx2;refine Aq rfl rfl rfl (Ah rfl Ck rfl) rfl ?_;refine Aq rfl rfl rfl (Ag rfl (i:=2) rfl rfl one3) rfl ?_;refine Aq rfl rfl rfl (Ah rfl Ck rfl) rfl ?_;refine Aq rfl rfl rfl (Ag rfl (i:=1) rfl rfl one3) rfl ?_;refine Aq rfl rfl rfl (Yq rfl rfl) rfl ?_;refine Aq rfl rfl rfl (Ah rfl Ck rfl) rfl ?_;refine Aq rfl rfl rfl (Ag rfl (i:=0) rfl rfl one3) rfl ?_;refine Aq rfl rfl rfl (Ah rfl Ck rfl) rfl ?_;refine Aq rfl rfl rfl (Ag rfl (i:=2) rfl rfl one3) rfl ?_;refine Aq rfl rfl rfl (Ah rfl Ck rfl) rfl ?_;refine Aq rfl rfl rfl (Ag rfl (i:=1) rfl rfl one3) rfl ?_;refine Aq rfl rfl rfl (Yr rfl rfl) rfl ?_;obtain ⟨r0,h2,hx4⟩:=Ac hx3;refine T_xG rfl rfl rfl (Aw rfl (fun w1 hw1=>Cy (min p0.Y p1.Y) p2.Y (max p0.Y p1.Y)  h2 w1) rfl ?_);rintro _ _ hlo ⟨rfl,rfl,-⟩;refine Cs ?_;refine Y3 ?_;exact Mt r0 () hx4 trivial (by exact .drop 0 rfl (.drop 0 rfl (.drop 0 rfl (.refl))))
   ·have hx5:=Bn h1 hx2;(iterate 16 refine Y ?_);exact Mt false () hx5 trivial (by exact .drop 0 rfl (.drop 0 rfl (.drop 0 rfl (.refl))))
  ·(iterate 31 refine Y ?_);exact Mt false () hx1 trivial (by exact .drop 0 rfl (.drop 0 rfl (.drop 0 rfl (.refl))))
set_option maxRecDepth 100000 in
theorem Acg (p0:Ad) (p1:Ad) (p2:Ad)  {r:Bool} (hx:Oi p0 p1 p2=some r) (w:World):CtL Tryz.prog 205 [.agg #[.int .i64 (p0.X),.int .i64 (p0.Y)],.agg #[.int .i64 (p1.X),.int .i64 (p1.Y)],.agg #[.int .i64 (p2.X),.int .i64 (p2.Y)]] w fun v Ln=>v = .bool (r)∧Ln=[]∧True:=by
 refine CtL.mk 33 Tryz.func205 rfl Tryz.ntmps205 (by kernel_rfl) rfl ?_;show T 33 _ [(0,.agg #[.int .i64 (p0.X),.int .i64 (p0.Y)]),(1,.agg #[.int .i64 (p1.X),.int .i64 (p1.Y)]),(2,.agg #[.int .i64 (p2.X),.int .i64 (p2.Y)])] _;unfold Oi at hx;refine Y2 ?_;refine T_x (Bl rfl rfl rfl (fun g1=>?_));refine T_x (Bl rfl rfl rfl (fun g2=>?_));refine T_x (Bl rfl rfl rfl (fun g3=>?_));refine Y6 ?_;refine Af (Ah rfl Ck rfl) rfl ?_;refine Af (Ag rfl (i:=2) rfl rfl one3) rfl ?_;refine Af (Ah rfl Ck rfl) rfl ?_;refine Af (Ag rfl (i:=0) rfl rfl one3) rfl ?_;refine Y ?_;refine Af (Ah rfl Ck rfl) rfl ?_;refine Af (Ag rfl (i:=1) rfl rfl one3) rfl ?_;refine Af (Ah rfl Ck rfl) rfl ?_;refine Af (Ag rfl (i:=0) rfl rfl one3) rfl ?_;refine Y ?_;refine Af (Alr rfl rfl (by kernel_rfl)) rfl ?_;refine Y2 ?_;refine By (s:=17) rfl (fun h4=>?_) (fun h4=>?_)
 ·have hx5:=Bx h4 hx;refine Y8 ?_;obtain rfl:=Option.some.inj hx5;exact Av (rs:=[.tmp 6]) Tryz.results205 (.tmp rfl (.nil)) (Ln:=[]) ⟨rfl,rfl,trivial⟩ (Ax) (by exact .drop 0 rfl (.drop 0 rfl (.drop 0 rfl (.refl))))
 ·have hx6:=Bn h4 hx;refine Y6 ?_;refine Af (Ah rfl Ck rfl) rfl ?_;refine Af (Ag rfl (i:=1) rfl rfl one3) rfl ?_;refine Af (Ah rfl Ck rfl) rfl ?_;refine Af (Ag rfl (i:=2) rfl rfl one3) rfl ?_;refine Y3 ?_;refine Ti hx6 (s:=22) rfl (fun h7 hx8=>?_) (fun h7 hx0=>?_)
  ·refine Y3 ?_;refine Af (Au rfl (i:=2) rfl rfl Bv) rfl ?_;refine Af (Au rfl (i:=1) rfl rfl Bv) rfl ?_;refine Af (Au rfl (i:=0) rfl rfl Bv) rfl ?_;obtain ⟨r9,h0,hx1⟩:=Ac hx8;refine Tc (fun w1 hw1=>Ul p0 p1 p2  h0 w1) ?_;refine Y6 ?_;obtain rfl:=Option.some.inj hx1;exact Av (rs:=[.tmp 6]) Tryz.results205 (.tmp rfl (.nil)) (Ln:=[]) ⟨rfl,rfl,trivial⟩ (Ax) (by exact .drop 0 rfl (.drop 0 rfl (.drop 0 rfl (.refl))))
  ·refine Y5 ?_;refine Af (Au rfl (i:=1) rfl rfl Bv) rfl ?_;refine Af (Au rfl (i:=2) rfl rfl Bv) rfl ?_;refine Af (Au rfl (i:=0) rfl rfl Bv) rfl ?_;obtain ⟨r0,h1,hx2⟩:=Ac hx0;refine Tc (fun w1 hw1=>Ul p1 p0 p2  h1 w1) ?_;refine Y5 ?_;obtain rfl:=Option.some.inj hx2;exact Av (rs:=[.tmp 6]) Tryz.results205 (.tmp rfl (.nil)) (Ln:=[]) ⟨rfl,rfl,trivial⟩ (Ax) (by exact .drop 0 rfl (.drop 0 rfl (.drop 0 rfl (.refl))))
set_option maxRecDepth 100000 in
theorem Add (p0:List Ad) (p1:Ad) {K:List Ent} {A0_0:Option Addr} {c0_0:Nat} (ha0:Has K A0_0 p0.length c0_0 2 Gy (p0)) {r:Bool} (hx:Qc p0 p1=some r) (w:World) (hK:∀ e∈K,Ent.ok w e):CtL Tryz.prog 132 [.slice (A0_0) (p0.length) (c0_0),.agg #[.int .i64 (p1.X),.int .i64 (p1.Y)]] w fun v Ln=>v = .bool (r)∧Ln=[]∧True:=by
 have ha0':=Has.up0 ha0;refine CtL.mk 34 Tryz.func132 rfl Tryz.ntmps132 (by kernel_rfl) rfl ?_;show T 34 _ [(0,.slice (A0_0) (p0.length) (c0_0)),(1,.agg #[.int .i64 (p1.X),.int .i64 (p1.Y)])] _;unfold Qc at hx;refine Y2 ?_;refine T_x (Bl rfl rfl rfl (fun g1=>?_));refine Y12 ?_;refine Af (Bf rfl 28 Tryz.underlying82) rfl ?_;refine Y ?_;obtain ⟨x2,h3,hx4⟩:=Ac hx;have hw0:=Has.low (E:=[]) ha0' hK;obtain ⟨b5,o6,j7,hA8,hj9,hl0,hp0⟩:=Has.at_idx hw0 h3;refine Af (Az rfl rfl hA8 (j:=j7) hj9 hl0 Ah7) rfl ?_;refine Af (Cg rfl hp0 (sb 1) rfl Bv) rfl ?_;refine T_x (Bp Sb rfl (fun g0=>?_));refine T_h (Bc rfl rfl rfl (.here) (.put (.put (.done))) rfl (List.cons_ne_nil _ _) Bv.2 ?_);refine Y2 ?_;refine Tj (γ:=Unit) hx4 (fun s4 y4=>[(5,.bool (s4))]) (fun s4 y4=>[]++[.old w]) (fun s4 y4=>True) (fun s4 y4 hx0 hG0=>?_) (fun j4 hx4=>?_)
 ·refine Y7 ?_;obtain rfl:=Option.some.inj hx0;exact Av (rs:=[.tmp 4]) Tryz.results132 (.tmp rfl (.nil)) (Ln:=[]) ⟨rfl,rfl,trivial⟩ (Ax) (by exact .refl)
 ·refine Y3 ?_;refine Af (Bf rfl 28 Tryz.underlying82) rfl ?_;refine Y4 ?_;obtain ⟨t0,hl1,ho0⟩:=Ac hx4;refine Lp (σ:=Bool × Int × Int × Int) (γ:=Unit) hl1 (fun s0 y0=>[(3,.pointer (some ⟨g1,0,none⟩)),(5,.bool (s0.1)),(6,.pointer (some ⟨g0,0,none⟩)),(15,.slice (A0_0) (p0.length) (c0_0)),(16,.int .i64 (((p0.length:Nat):Int))),(17,.int .i64 (s0.2.2.2))]) (fun s0 y0=>[.m g0 28 [.int .i64 (s0.2.1),.int .i64 (s0.2.2.1)],.m g1 28 [.int .i64 (p1.X),.int .i64 (p1.Y)]]++[.old w]) (fun s0 y0=>True) () trivial (by exact .pick 0 rfl (.pick 0 rfl (.refl))) ?_;intro s0 y0 hG1 x0 hx1 ht0;unfold Iw at hx1;refine Y6 ?_;refine Ti hx1 (s:=18) rfl (fun h0 hx2=>?_) (fun h0 hx3=>?_)
  ·refine Y7 ?_;obtain ⟨x1,h1,hx5⟩:=Ac hx2;have hw2:=Has.low (E:=[]) ha0' hK;obtain ⟨b0,o0,j0,hA0,hj0,hl2,hp1⟩:=Has.at_idx hw2 h1;refine Af (Az rfl rfl hA0 (j:=j0) hj0 hl2 Ah7) rfl ?_;refine Af (Cg rfl hp1 (sb 2) rfl Bv) rfl ?_;refine T_x (Bp Sb rfl (fun g2=>?_));refine T_h (Bc rfl rfl rfl (.here) (.put (.put (.done))) rfl (List.cons_ne_nil _ _) Bv.2 ?_);refine Y5 ?_;refine Af (Au rfl (i:=1) rfl rfl Bv) rfl ?_;refine Af (Au rfl (i:=0) rfl rfl Bv) rfl ?_;refine Af (Au rfl (i:=2) rfl rfl Bv) rfl ?_;obtain ⟨r0,h2,hx6⟩:=Ac hx5;refine Tc (fun w1 hw1=>Ah8 (⟨s0.2.1,s0.2.2.1⟩:Ad) x1 p1  h2 w1) ?_;refine Y2 ?_;refine By (s:=24) rfl (fun h4=>?_) (fun h4=>?_)
   ·have hx7:=Bx h4 hx6;refine Y10 ?_;obtain rfl:=Bd ht0 hx7;refine Y3 ?_;obtain rfl:=Option.some.inj ho0;exact Av (rs:=[.tmp 4]) Tryz.results132 (.tmp rfl (.nil)) (Ln:=[]) ⟨rfl,rfl,trivial⟩ (Ax) (by exact .drop 0 rfl (.drop 0 rfl (.drop 0 rfl (.refl))))
   ·have hx8:=Bn h4 hx6;refine Y3 ?_;refine Tj (γ:=Unit) hx8 (fun s1 y1=>[(3,.pointer (some ⟨g1,0,none⟩)),(5,.bool (s1)),(6,.pointer (some ⟨g0,0,none⟩)),(8,.pointer (some ⟨g2,0,none⟩)),(15,.slice (A0_0) (p0.length) (c0_0)),(16,.int .i64 (((p0.length:Nat):Int))),(17,.int .i64 (s0.2.2.2))]) (fun s1 y1=>[.m g2 28 [.int .i64 (x1.X),.int .i64 (x1.Y)],.m g0 28 [.int .i64 (s0.2.1),.int .i64 (s0.2.2.1)],.m g1 28 [.int .i64 (p1.X),.int .i64 (p1.Y)]]++[.old w]) (fun s1 y1=>True) (fun s1 y1 hx9 hG2=>?_) (fun j1 hx8=>?_)
    ·refine Y ?_;refine Af (Au rfl (i:=0) rfl rfl Bv) rfl ?_;refine T_h (Bc rfl rfl rfl (.there (.here)) (.put (.put (.done))) rfl (List.cons_ne_nil _ _) Bv.2 ?_);refine Y7 ?_;exact Rp (s1,x1.X,x1.Y,w64 (s0.2.2.2+1)) () hx9 trivial (by exact .pick 1 rfl (.pick 1 rfl (.drop 0 rfl (.refl))))
    ·refine Y2 ?_;refine Af (Au rfl (i:=1) rfl rfl Bv) rfl ?_;refine Af (Au rfl (i:=0) rfl rfl Bv) rfl ?_;refine Af (Au rfl (i:=2) rfl rfl Bv) rfl ?_;obtain ⟨r1,h5,hx68⟩:=Ac hx8;refine Tc (fun w1 hw1=>Acg (⟨s0.2.1,s0.2.2.1⟩:Ad) x1 p1  h5 w1) ?_;refine Y2 ?_;refine By (s:=28) rfl (fun h6=>?_) (fun h6=>?_)
     ·have hx70:=Bx h6 hx68;refine Y6 ?_;exact Mt (!(s0.1)) () hx70 trivial (by exact .pick 0 rfl (.pick 0 rfl (.pick 0 rfl (.refl))))
     ·have hx71:=Bn h6 hx68;refine Y2 ?_;exact Mt s0.1 () hx71 trivial (by exact .pick 0 rfl (.pick 0 rfl (.pick 0 rfl (.refl))))
  ·refine Y3 ?_;obtain rfl:=Bd ht0 hx3;refine Y2 ?_;exact Mt s0.1 () ho0 trivial (by exact .drop 0 rfl (.drop 0 rfl (.refl)))
set_option maxRecDepth 100000 in
theorem Zz (p0:List Ad) {K:List Ent} {A0_0:Option Addr} {c0_0:Nat} (ha0:Has K A0_0 p0.length c0_0 2 Gy (p0)) {r:Bool} (hx:Lm p0=some r) (w:World) (hK:∀ e∈K,Ent.ok w e):CtL Tryz.prog 130 [.slice (A0_0) (p0.length) (c0_0)] w fun v Ln=>v = .bool (r)∧Ln=[]∧True:=by
 have ha0':=Has.up0 ha0;refine CtL.mk 19 Tryz.func130 rfl Tryz.ntmps130 (by kernel_rfl) rfl ?_;show T 19 _ [(0,.slice (A0_0) (p0.length) (c0_0))] _;unfold Lm at hx;refine Y9 ?_;refine Af (Bf rfl 28 Tryz.underlying82) rfl ?_;obtain ⟨r1,h2,hx3⟩:=Ac hx;refine Tc (fun w1 hw1=>Cy 3 ((p0.length:Nat):Int) 64  h2 w1) ?_;refine Y3 ?_;refine Cz (s:=8) rfl (fun h4=>?_) (fun h4=>?_)
 ·have hx5:=Bn h4 hx3;refine Y8 ?_;obtain rfl:=Option.some.inj hx5;exact Av (rs:=[.tmp 2]) Tryz.results130 (.tmp rfl (.nil)) (Ln:=[]) ⟨rfl,rfl,trivial⟩ (Ax) (by exact .refl)
 ·have hx6:=Bx h4 hx3;refine Y3 ?_;refine Tj (γ:=Unit) hx6 (fun s5 y5=>[]) (fun s5 y5=>[]++[.old w]) (fun s5 y5=>True) (fun s5 y5 hx0 hG0=>?_) (fun j5 hx6=>?_)
  ·refine Y6 ?_;obtain rfl:=Option.some.inj hx0;exact Av (rs:=[.tmp 2]) Tryz.results130 (.tmp rfl (.nil)) (Ln:=[]) ⟨rfl,rfl,trivial⟩ (Ax) (by exact .refl)
  ·refine Y3 ?_;refine Af (Bf rfl 28 Tryz.underlying82) rfl ?_;refine Y4 ?_;obtain ⟨t0,hl0,ho0⟩:=Ac hx6;refine Lp (σ:=Int) (γ:=Unit) hl0 (fun s0 y0=>[(9,.slice (A0_0) (p0.length) (c0_0)),(10,.int .i64 (((p0.length:Nat):Int))),(11,.int .i64 (s0))]) (fun s0 y0=>[]++[.old w]) (fun s0 y0=>True) () trivial (by exact .refl) ?_;intro s0 y0 hG1 x0 hx1 ht0;unfold Hz at hx1;refine Y6 ?_;refine Ti hx1 (s:=12) rfl (fun h0 hx2=>?_) (fun h0 hx4=>?_)
   ·refine Y7 ?_;obtain ⟨x1,h1,hx7⟩:=Ac hx2;have hw0:=Has.low (E:=[]) ha0' hK;obtain ⟨b0,o0,j0,hA0,hj0,hl1,hp0⟩:=Has.at_idx hw0 h1;refine Af (Az rfl rfl hA0 (j:=j0) hj0 hl1 Ah7) rfl ?_;refine Af (Cg rfl hp0 (sb 0) rfl Bv) rfl ?_;refine T_x (Bp Sb rfl (fun g0=>?_));refine T_h (Bc rfl rfl rfl (.here) (.put (.put (.done))) rfl (List.cons_ne_nil _ _) Bv.2 ?_);refine Y4 ?_;refine Af (Au rfl (i:=0) rfl rfl Bv) rfl ?_;obtain ⟨r0,h3,hx8⟩:=Ac hx7;refine Tc (fun w1 hw1=>Ob x1  h3 w1) ?_;refine Y3 ?_;refine Cz (s:=17) rfl (fun h5=>?_) (fun h5=>?_)
    ·have hx9:=Bn h5 hx8;refine Y9 ?_;obtain rfl:=Bd ht0 hx9;refine Y3 ?_;obtain rfl:=Option.some.inj ho0;exact Av (rs:=[.tmp 2]) Tryz.results130 (.tmp rfl (.nil)) (Ln:=[]) ⟨rfl,rfl,trivial⟩ (Ax) (by exact .drop 0 rfl (.refl))
    ·have hx50:=Bx h5 hx8;refine Y8 ?_;exact Rp (w64 (s0+1)) () hx50 trivial (by exact .drop 0 rfl (.refl))
   ·refine Y3 ?_;obtain rfl:=Bd ht0 hx4;refine Y2 ?_;exact Mt () () ho0 trivial (by exact .refl)
set_option maxRecDepth 100000 in
theorem Wq (p0:List Ad) (p1:Ad) {K:List Ent} {A0_0:Option Addr} {c0_0:Nat} (ha0:Has K A0_0 p0.length c0_0 2 Gy (p0)) {r:Bool × Int} (hx:Ge p0 p1=some r) (w:World) (hK:∀ e∈K,Ent.ok w e):CtL Tryz.prog 62 [.slice (A0_0) (p0.length) (c0_0),.agg #[.int .i64 (p1.X),.int .i64 (p1.Y)]] w fun v Ln=>v = .tuple #[.bool (r.1),.int .i64 (r.2)]∧Ln=[]∧True:=by
 have ha0':=Has.up0 ha0;refine CtL.mk 15 Tryz.func62 rfl Tryz.ntmps62 (by kernel_rfl) rfl ?_;show T 15 _ [(0,.slice (A0_0) (p0.length) (c0_0)),(1,.agg #[.int .i64 (p1.X),.int .i64 (p1.Y)])] _;unfold Ge at hx;refine Y2 ?_;refine T_x (Bl rfl rfl rfl (fun g1=>?_));refine Y8 ?_;obtain ⟨r2,h3,hx4⟩:=Ac hx;refine Tc (fun w1 hw1=>Zz p0 (Has.len' ha0') h3 w1 (Dz (K:=K) (K2:=[]) hK (by exact (sb 1)) (by exact (SubE.nil)) hw1)) ?_;refine Y3 ?_;refine Cz (s:=8) rfl (fun h5=>?_) (fun h5=>?_)
 ·have hx6:=Bn h5 hx4;refine Y9 ?_;obtain rfl:=Option.some.inj hx6;exact Av (rs:=[.tmp 4,.tmp 5]) Tryz.results62 (.tmp rfl (.tmp rfl (.nil))) (Ln:=[]) ⟨rfl,rfl,trivial⟩ (Ax) (by exact .drop 0 rfl (.refl))
 ·have hx7:=Bx h5 hx4;refine Y6 ?_;refine Af (Au rfl (i:=0) rfl rfl Bv) rfl ?_;obtain ⟨r8,h9,hx0⟩:=Ac hx7;refine Tc (fun w1 hw1=>Ob p1  h9 w1) ?_;refine Y3 ?_;refine Cz (s:=11) rfl (fun h0=>?_) (fun h0=>?_)
  ·have hx1:=Bn h0 hx0;refine Y9 ?_;obtain rfl:=Option.some.inj hx1;exact Av (rs:=[.tmp 4,.tmp 5]) Tryz.results62 (.tmp rfl (.tmp rfl (.nil))) (Ln:=[]) ⟨rfl,rfl,trivial⟩ (Ax) (by exact .drop 0 rfl (.refl))
  ·have hx2:=Bx h0 hx0;refine Y6 ?_;refine Af (Au rfl (i:=0) rfl rfl Bv) rfl ?_;obtain ⟨r0,h1,hx3⟩:=Ac hx2;refine Tc (fun w1 hw1=>Add p0 p1 (Has.len' ha0') h1 w1 (Dz (K:=K) (K2:=[]) hK (by exact (sb 1)) (by exact (SubE.nil)) hw1)) ?_;refine Y5 ?_;obtain rfl:=Option.some.inj hx3;exact Av (rs:=[.tmp 4,.tmp 5]) Tryz.results62 (.tmp rfl (.tmp rfl (.nil))) (Ln:=[]) ⟨rfl,rfl,trivial⟩ (Ax) (by exact .drop 0 rfl (.refl))
end Go.Proofs.YtbkobeeileemjaaGreat
