import Derived.Test.YthlkpgdfifnagaaGreatFlow19
import Derived.Test.YthlkpgdfifnagaaGreatProg
set_option maxRecDepth 100000
set_option maxHeartbeats 1000000
namespace Go.Proofs.YthlkpgdfifnagaaGreat
open Go Go.RowKit Tryz
noncomputable section
theorem mixed:prog.follows .mixedOrders=true:=kr
instance:MixI prog:=⟨mixed⟩
instance:Cm prog 57 0 0:=⟨.mk underlying57 rfl rfl (show prog.info? 3=some Tryz.t3 from by kernel_rfl) (show Tryz.t3.size=1 from by kernel_rfl) rfl⟩
theorem one3:Tl prog 3:=.mk underlying3 rfl (show prog.info? 3=some Tryz.t3 from by kernel_rfl) kr
instance:OneI prog 3:=⟨one3⟩
instance:Cm prog 57 1 1:=⟨.mk underlying57 rfl rfl (show prog.info? 3=some Tryz.t3 from by kernel_rfl) (show Tryz.t3.size=1 from by kernel_rfl) rfl⟩
theorem Apv:Rj prog 57 [iq 0,iq 0]:=⟨_,zeroValue57,rfl⟩
instance:Te prog 57 [iq 0,iq 0]:=⟨Apv⟩
theorem Apw:Mo prog 30 1 1:=.mk underlying30 rfl rfl (show prog.info? 3=some Tryz.t3 from by kernel_rfl) (show Tryz.t3.size=1 from by kernel_rfl) rfl
instance:Cm prog 30 1 1:=⟨Apw⟩
theorem Apx:Mo prog 30 2 2:=.mk underlying30 rfl rfl (show prog.info? 3=some Tryz.t3 from by kernel_rfl) (show Tryz.t3.size=1 from by kernel_rfl) rfl
instance:Cm prog 30 2 2:=⟨Apx⟩
theorem Zq(x0:Int)(x1:Int):Wv prog 57 [(0,iq x0),(1,iq x1)] [iq x0,iq x1]:=fun w=>kr
instance(x0:Int)(x1:Int):Le prog 57 [(0,iq x0),(1,iq x1)] [iq x0,iq x1]:=⟨Zq _ _⟩
theorem Zr:Rw prog 57 2:=.mk underlying57 rfl (show prog.info? 57=some t57 from by kernel_rfl) kr
instance:AggI prog 57 2:=⟨Zr⟩
theorem Apy:Mo prog 30 0 0:=.mk underlying30 rfl rfl (show prog.info? 3=some Tryz.t3 from by kernel_rfl) (show Tryz.t3.size=1 from by kernel_rfl) rfl
instance:Cm prog 30 0 0:=⟨Apy⟩
theorem Wk:Rw prog 30 9:=.mk underlying30 rfl (show prog.info? 30=some t30 from by kernel_rfl) kr
instance:AggI prog 30 9:=⟨Wk⟩
instance:Cm prog 30 3 3:=⟨.mk underlying30 rfl rfl (show prog.info? 28=some Tryz.t28 from by kernel_rfl) (show Tryz.t28.size=2 from by kernel_rfl) rfl⟩
instance:Cm prog 28 0 0:=⟨.mk underlying28 rfl rfl (show prog.info? 3=some Tryz.t3 from by kernel_rfl) (show Tryz.t3.size=1 from by kernel_rfl) rfl⟩
instance:Cm prog 28 1 1:=⟨.mk underlying28 rfl rfl (show prog.info? 3=some Tryz.t3 from by kernel_rfl) (show Tryz.t3.size=1 from by kernel_rfl) rfl⟩
instance:Cm prog 30 4 5:=⟨.mk underlying30 rfl rfl (show prog.info? 3=some Tryz.t3 from by kernel_rfl) (show Tryz.t3.size=1 from by kernel_rfl) rfl⟩
theorem Apz:Mo prog 30 5 6:=.mk underlying30 rfl rfl (show prog.info? 3=some Tryz.t3 from by kernel_rfl) (show Tryz.t3.size=1 from by kernel_rfl) rfl
instance:Cm prog 30 5 6:=⟨Apz⟩
theorem Ap0:Mo prog 30 6 7:=.mk underlying30 rfl rfl (show prog.info? 3=some Tryz.t3 from by kernel_rfl) (show Tryz.t3.size=1 from by kernel_rfl) rfl
instance:Cm prog 30 6 7:=⟨Ap0⟩
theorem At9:Ni prog 41 30 9:=.mk underlying41 (show prog.info? 30=some t30 from by kernel_rfl) kr
instance:Nb prog 41 30 9:=⟨At9⟩
theorem Ai3:Rj prog 30 [iq 0,iq 0,iq 0,iq 0,iq 0,iq 0,iq 0,iq 0,iq 0]:=⟨_,zeroValue30,rfl⟩
instance:Te prog 30 [iq 0,iq 0,iq 0,iq 0,iq 0,iq 0,iq 0,iq 0,iq 0]:=⟨Ai3⟩
instance:Cm prog 32 1 1:=⟨.mk underlying32 rfl rfl (show prog.info? 3=some Tryz.t3 from by kernel_rfl) (show Tryz.t3.size=1 from by kernel_rfl) rfl⟩
instance:Cm prog 32 4 4:=⟨.mk underlying32 rfl rfl (show prog.info? 3=some Tryz.t3 from by kernel_rfl) (show Tryz.t3.size=1 from by kernel_rfl) rfl⟩
instance:Cm prog 32 5 5:=⟨.mk underlying32 rfl rfl (show prog.info? 3=some Tryz.t3 from by kernel_rfl) (show Tryz.t3.size=1 from by kernel_rfl) rfl⟩
instance:Cm prog 32 6 6:=⟨.mk underlying32 rfl rfl (show prog.info? 3=some Tryz.t3 from by kernel_rfl) (show Tryz.t3.size=1 from by kernel_rfl) rfl⟩
instance:Cm prog 32 7 7:=⟨.mk underlying32 rfl rfl (show prog.info? 3=some Tryz.t3 from by kernel_rfl) (show Tryz.t3.size=1 from by kernel_rfl) rfl⟩
instance:Cm prog 32 8 8:=⟨.mk underlying32 rfl rfl (show prog.info? 3=some Tryz.t3 from by kernel_rfl) (show Tryz.t3.size=1 from by kernel_rfl) rfl⟩
instance(x0:Int)(x1:Int)(x2:Int)(x3:Int)(x4:Int)(x5:Int):Le prog 96 [(0,iq x0),(1,iq x1),(2,iq x2),(3,iq x3),(4,iq x4),(5,iq x5)] [iq x0,iq x1,iq x2,iq x3,iq x4,iq x5]:=⟨fun w=>kr⟩
theorem Aj9:Mo prog 32 0 0:=.mk underlying32 rfl rfl (show prog.info? 3=some Tryz.t3 from by kernel_rfl) (show Tryz.t3.size=1 from by kernel_rfl) rfl
instance:Cm prog 32 0 0:=⟨Aj9⟩
instance:Cm prog 32 2 2:=⟨.mk underlying32 rfl rfl (show prog.info? 3=some Tryz.t3 from by kernel_rfl) (show Tryz.t3.size=1 from by kernel_rfl) rfl⟩
instance:Cm prog 32 3 3:=⟨.mk underlying32 rfl rfl (show prog.info? 3=some Tryz.t3 from by kernel_rfl) (show Tryz.t3.size=1 from by kernel_rfl) rfl⟩
instance:Cm prog 32 9 9:=⟨.mk underlying32 rfl rfl (show prog.info? 3=some Tryz.t3 from by kernel_rfl) (show Tryz.t3.size=1 from by kernel_rfl) rfl⟩
theorem Ap1:Rw prog 32 10:=.mk underlying32 rfl (show prog.info? 32=some t32 from by kernel_rfl) kr
instance:AggI prog 32 10:=⟨Ap1⟩
theorem Em(x0:Int)(x1:Int)(x2:Int)(x3:Int)(x4:Int)(x5:Int)(x6:Int)(x7:Int)(x8:Int):Jw prog 41 1 [(0,.agg #[iq x0,iq x1,iq x2,iq x3,iq x4,iq x5,iq x6,iq x7,iq x8])] 30 [iq x0,iq x1,iq x2,iq x3,iq x4,iq x5,iq x6,iq x7,iq x8]:=fun w=>kr
instance(x0:Int)(x1:Int)(x2:Int)(x3:Int)(x4:Int)(x5:Int)(x6:Int)(x7:Int)(x8:Int):Qd prog 41 1 [(0,.agg #[iq x0,iq x1,iq x2,iq x3,iq x4,iq x5,iq x6,iq x7,iq x8])] 30 [iq x0,iq x1,iq x2,iq x3,iq x4,iq x5,iq x6,iq x7,iq x8]:=⟨Em _ _ _ _ _ _ _ _ _⟩
theorem Aua:Xf prog 41 30 9 72:=⟨underlying41,⟨t30,.agg #[iq 0,iq 0,iq 0,iq 0,iq 0,iq 0,iq 0,iq 0,iq 0],kr,kr,kr,kr,rfl⟩,dD⟩
instance:Afp prog 41 30 9 72:=⟨Aua⟩
theorem Bas:Ni prog 58 57 2:=.mk underlying58 (show prog.info? 57=some t57 from by kernel_rfl) kr
instance:Nb prog 58 57 2:=⟨Bas⟩
def Ah(x:Int):List Value:=[iq x]
instance(x0:Int):DecI Ah [iq x0] x0:=⟨rfl⟩
instance:EncI 3 Ah:=⟨trivial⟩
def Ci(p0:Int)(p1:Int)(p2:Int):Option Bool :=
 jn (fun (s2:Bool)=>
 some s2)
 (fun j2=>if p0<=p1 then (j2 (decide (p1<=p2)))
 else (j2 false))
structure Aa where
 X:Int
 Y:Int
def Hp(p0:Aa):Option Bool :=
 jn (fun (s2:Bool)=>
 some s2)
 (fun j2=>bnd (Ci (-268435456) p0.X 268435456) fun r2=>
 if r2=true then (bnd (Ci (-268435456) p0.Y 268435456) fun r7=>
 j2 r7)
 else (j2 false))
structure Av where
 Lo:Int
 Hi:Int
structure Ae where
 Id:Int
 X:Int
 Y:Int
 Z:Av
 Wide:Int
 Num:Int
 Of:Int
 Class:Int
structure Ac where
 X:Int
 Y:Int
 Z:Av
structure Af where
 Neg:Bool
 L:List Int
structure Ak where
 N:Af
 D:List Int
structure Ce where
 X:Ak
 Y:Ak
def Cu(p0:Ae):Option Aa :=
 some (⟨p0.X,p0.Y⟩:Aa)
def Hq(p0:Ae):Option Bool :=
 jn (fun (s2:Bool)=>
 some s2)
 (fun j2=>bnd (Ci 0 p0.Id 1152921504606846976) fun r2=>
 if r2=true then (bnd (Cu p0) fun r7=>
 bnd (Hp r7) fun r0=>
 if r0=true then (bnd (Ci (-268435456) p0.Z.Lo p0.Z.Hi) fun r1=>
 if r1=true then (if p0.Z.Hi<=268435456 then (bnd (Ci 0 p0.Wide 268435456) fun r3=>
 if r3=true then (bnd (Ci 1 p0.Num p0.Of) fun r4=>
 if r4=true then (j2 (decide (p0.Of<=15)))
 else (j2 false))
 else (j2 false))
 else (j2 false))
 else (j2 false))
 else (j2 false))
 else (j2 false))
instance:UndI prog 41 (.slice 30):=⟨underlying41⟩
def Dn(x:Int):Value:=iq x
theorem Xi(x y:Int)(h:Dn x=Dn y):x=y:=by simpa[Dn] using h
instance(x:Int):UnfI Dn x (iq x):=⟨rfl⟩
instance(x0:Int):Aa0 Dn (iq x0) x0:=⟨rfl⟩
instance:ValI prog 3 Dn 0:=⟨Xi,fun w=>kr⟩
theorem key3:Maps.Keyed prog 3:=Maps.int_keyed underlying3
theorem isk3(x:Int)(h:(-9223372036854775808<=x/\x<=9223372036854775807)):(keyOf prog 3 (Dn x)).isSome=true:=Bbs underlying3 (Ag2 h)
instance:KeyI prog 3 Dn (fun x=>(-9223372036854775808<=x/\x<=9223372036854775807)):=⟨key3,Xi,isk3⟩
instance:UndI prog 136 (.map 3 4):=⟨underlying136⟩
def Bw(x:Bool):Value:=.bool x
theorem An4(x y:Bool)(h:Bw x=Bw y):x=y:=by simpa[Bw] using h
instance(x:Bool):UnfI Bw x (.bool x):=⟨rfl⟩
instance(x0:Bool):Aa0 Bw (.bool x0) x0:=⟨rfl⟩
instance:ValI prog 4 Bw false:=⟨An4,fun w=>kr⟩
def Ks(p0:List Ae):((List (Int × Bool)) × Int)->Option (Sum ((List (Int × Bool)) × Int) (Sum Unit Bool)):=fun s0=>
 if s0.2<(p0.length:Int) then (bnd (idx p0 s0.2) fun x0=>
 jn (fun (s1:Bool)=>
 if s1=true then (some (.inr (.inr false)))
 else (gd ((-9223372036854775808<=x0.Id/\x0.Id<=9223372036854775807))<|
 gd (s0.1.length<9223372036854775807)<|
 some (.inl (mput s0.1 x0.Id true,w64 (s0.2+1)))))
 (fun j0=>bnd (Hq x0) fun r0=>
 if r0=true then (gd ((-9223372036854775808<=x0.Id/\x0.Id<=9223372036854775807))<|
 bnd (some ((mget s0.1 x0.Id).getD false)) fun x1=>
 j0 x1)
 else (j0 true)))
 else (some (.inr (.inl ())))
def Ud(p0:List Ae):Option Bool :=
 if 1024<(p0.length:Int) then (some false)
 else (jn (fun (s6:Unit)=>
 some true)
 (fun j6=>bnd (lfix (Ks p0) (([]:List (Int × Bool)),0)) fun t0=>
 (match t0 with
 | (.inl z0)=>j6 z0
 | (.inr z0)=>some z0
 )))
def Aw(x:Ae):List Value:=[iq x.Id,iq x.X,iq x.Y,iq x.Z.Lo,iq x.Z.Hi,iq x.Wide,iq x.Num,iq x.Of,iq x.Class]
instance(x0:Int)(x1:Int)(x2:Int)(x3:Int)(x4:Int)(x5:Int)(x6:Int)(x7:Int)(x8:Int):DecI Aw [iq x0,iq x1,iq x2,iq x3,iq x4,iq x5,iq x6,iq x7,iq x8] (⟨x0,x1,x2,⟨x3,x4⟩,x5,x6,x7,x8⟩):=⟨rfl⟩
instance:EncI 30 Aw:=⟨trivial⟩
structure Am where
 Cell:Int
 Reach:Int
 Slope:Int
 Link:Int
 Flat:Int
 Tall:Int
 High:Int
 Low:Int
 Brush:Int
 Few:Int
theorem Bat(x0:Int)(x1:Int)(x2:Int)(x3:Int)(x4:Int)(x5:Int):Akg prog 96 [iq x0,iq x1,iq x2,iq x3,iq x4,iq x5]:=by
 intro j h k w;have h':j<6:=h
 match j,h,h' with
 | 0,_,_=>exact (show (Instr.index 96 (.agg ([.int .i64 x0,.int .i64 x1,.int .i64 x2,.int .i64 x3,.int .i64 x4,.int .i64 x5]:List Value).toArray) (.int k ((0:Nat):Int))).run prog w = .ok (.int .i64 x0) w by kernel_rfl)
 | 1,_,_=>exact (show (Instr.index 96 (.agg ([.int .i64 x0,.int .i64 x1,.int .i64 x2,.int .i64 x3,.int .i64 x4,.int .i64 x5]:List Value).toArray) (.int k ((1:Nat):Int))).run prog w = .ok (.int .i64 x1) w by kernel_rfl)
 | 2,_,_=>exact (show (Instr.index 96 (.agg ([.int .i64 x0,.int .i64 x1,.int .i64 x2,.int .i64 x3,.int .i64 x4,.int .i64 x5]:List Value).toArray) (.int k ((2:Nat):Int))).run prog w = .ok (.int .i64 x2) w by kernel_rfl)
 | 3,_,_=>exact (show (Instr.index 96 (.agg ([.int .i64 x0,.int .i64 x1,.int .i64 x2,.int .i64 x3,.int .i64 x4,.int .i64 x5]:List Value).toArray) (.int k ((3:Nat):Int))).run prog w = .ok (.int .i64 x3) w by kernel_rfl)
 | 4,_,_=>exact (show (Instr.index 96 (.agg ([.int .i64 x0,.int .i64 x1,.int .i64 x2,.int .i64 x3,.int .i64 x4,.int .i64 x5]:List Value).toArray) (.int k ((4:Nat):Int))).run prog w = .ok (.int .i64 x4) w by kernel_rfl)
 | 5,_,_=>exact (show (Instr.index 96 (.agg ([.int .i64 x0,.int .i64 x1,.int .i64 x2,.int .i64 x3,.int .i64 x4,.int .i64 x5]:List Value).toArray) (.int k ((5:Nat):Int))).run prog w = .ok (.int .i64 x5) w by kernel_rfl)
instance(x0:Int)(x1:Int)(x2:Int)(x3:Int)(x4:Int)(x5:Int):Aw4 prog 96 [iq x0,iq x1,iq x2,iq x3,iq x4,iq x5]:=⟨Bat _ _ _ _ _ _⟩
instance(x0:Int)(x1:Int)(x2:Int)(x3:Int)(x4:Int)(x5:Int):Arj prog 96 [iq x0,iq x1,iq x2,iq x3,iq x4,iq x5] (Value.int .i64) [x0,x1,x2,x3,x4,x5]:=⟨Bat _ _ _ _ _ _⟩
def Jh(p0:Am):Int->Option (Sum Int (Sum Unit Bool)):=fun s0=>
 if s0<6 then (bnd (idx [p0.Reach,p0.Flat,p0.Tall,p0.High,p0.Low,p0.Brush] s0) fun x0=>
 bnd (Ci 0 x0 1000000) fun r0=>
 if r0=true then (some (.inl (w64 (s0+1))))
 else (some (.inr (.inr false))))
 else (some (.inr (.inl ())))
def Kc(p0:Am):Option Bool :=
 jn (fun (s2:Unit)=>
 jn (fun (s0:Bool)=>
 some s0)
 (fun j0=>bnd (Ci 1 p0.Cell 10000000) fun r0=>
 if r0=true then (bnd (Ci 0 p0.Slope 100000) fun r1=>
 if r1=true then (bnd (Ci 1 p0.Link 1000000) fun r2=>
 if r2=true then (bnd (Ci 1 p0.Few 1024) fun r3=>
 j0 r3)
 else (j0 false))
 else (j0 false))
 else (j0 false)))
 (fun j2=>bnd (lfix (Jh p0) 0) fun t0=>
 (match t0 with
 | (.inl z0)=>j2 z0
 | (.inr z0)=>some z0
 ))
def Se(p0:Ae)(p1:Ae):Option Bool :=
 jn (fun (s2:Bool)=>
 some s2)
 (fun j2=>if p0.Z.Hi<p1.Z.Hi then (j2 true)
 else (if p0.Z.Hi=p1.Z.Hi then (j2 (decide (p0.Id<p1.Id)))
 else (j2 false)))
def Kt(p0:Aa)(p1:Aa):Option Int :=
 some (w64 ((w64 ((w64 (p0.X-p1.X))*(w64 (p0.X-p1.X))))+(w64 ((w64 (p0.Y-p1.Y))*(w64 (p0.Y-p1.Y))))))
def Vf(p0:Ae)(p1:Ae)(p2:Int):Option Bool :=
 bnd (Cu p0) fun r3=>
 bnd (Cu p1) fun r6=>
 bnd (Kt r3 r6) fun r9=>
 some (decide (r9<=(w64 (p2*p2))))
def Ps(p0:List Ae)(p1:Am):Option Int :=
 bnd (Kc p1) fun r2=>
 if r2=true then (bnd (Ud p0) fun r8=>
 if r8=true then (some 0)
 else (some 70))
 else (some 71)
def Oz(p0:List Ae)(p1:Int)(p2:Am):(Bool × Int)->Option (Sum (Bool × Int) (Sum Bool Bool)):=fun s0=>
 if s0.2<(p0.length:Int) then (jn (fun (s1:Bool)=>
 some (.inl (s1,w64 (s0.2+1))))
 (fun j0=>bnd (idx p0 s0.2) fun x0=>
 jn (fun (s2:Bool)=>
 if s2=true then (j0 s0.1)
 else (bnd (idx p0 p1) fun x1=>
 if (w64 (x0.Z.Lo-x1.Z.Hi))<=p2.Low then (some (.inr (.inr false)))
 else (j0 true)))
 (fun j1=>if s0.2=p1 then (j1 true)
 else (bnd (idx p0 p1) fun x2=>
 bnd (Vf x2 x0 p2.Link) fun r0=>
 j1 (!(r0))))))
 else (some (.inr (.inl s0.1)))
def Sn(p0:List Ae)(p1:Int)(p2:Am):Option Bool :=
 jn (fun (s3:Bool)=>
 some s3)
 (fun j3=>bnd (lfix (Oz p0 p1 p2) (false,0)) fun t0=>
 (match t0 with
 | (.inl z0)=>j3 z0
 | (.inr z0)=>some z0
 ))
def Ls(p0:List Ae)(p1:Am):(List Ae × List Ae × Int)->Option (Sum (List Ae × List Ae × Int) (List Ae × List Ae)):=fun s0=>
 if s0.2.2<(p0.length:Int) then (jn (fun (s1:List Ae × List Ae)=>
 some (.inl (s1.1,s1.2,w64 (s0.2.2+1))))
 (fun j0=>bnd (idx p0 s0.2.2) fun x0=>
 bnd (Sn p0 s0.2.2 p1) fun r0=>
 if r0=true then (gd ((s0.2.1.length+1)*72<=140737488355328)<|
 j0 (s0.1,s0.2.1++[x0]))
 else (gd ((s0.1.length+1)*72<=140737488355328)<|
 j0 (s0.1++[x0],s0.2.1))))
 else (some (.inr (s0.1,s0.2.1)))
def So(p0:List Ae)(p1:Am):Option (List Ae × List Ae):=
 jn (fun (s2:List Ae × List Ae)=>
 some (s2.1,s2.2))
 (fun j2=>bnd (lfix (Ls p0 p1) (([]:List Ae),([]:List Ae),0)) fun t0=>
 j2 t0)
def Qe(p0:Int)(p1:Int):Option Int :=
 gd (p1≠0)<|
 jn (fun (s3:Int)=>
 some s3)
 (fun j3=>gd (p1≠0)<|
 if (Int.tmod p0 p1)<0 then (j3 (w64 ((w64 (Int.tdiv p0 p1))-1)))
 else (j3 (w64 (Int.tdiv p0 p1))))
def Ry(p0:Aa)(p1:Aa)(p2:Aa):Option Int :=
 if 0<(w64 ((w64 ((w64 (p1.X-p0.X))*(w64 (p2.Y-p0.Y))))-(w64 ((w64 (p1.Y-p0.Y))*(w64 (p2.X-p0.X)))))) then (some 1)
 else (if (w64 ((w64 ((w64 (p1.X-p0.X))*(w64 (p2.Y-p0.Y))))-(w64 ((w64 (p1.Y-p0.Y))*(w64 (p2.X-p0.X))))))<0 then (some (-1))
 else (some 0))
def Zs(p0:Aa)(p1:Aa)(p2:Aa):Option Bool :=
 jn (fun (s2:Bool)=>
 some s2)
 (fun j2=>bnd (Ry p0 p1 p2) fun r4=>
 if r4=0 then (bnd (Ci (min p0.X p1.X) p2.X (max p0.X p1.X)) fun r9=>
 if r9=true then (bnd (Ci (min p0.Y p1.Y) p2.Y (max p0.Y p1.Y)) fun r0=>
 j2 r0)
 else (j2 false))
 else (j2 false))
instance:UndI prog 4 (.bool):=⟨underlying4⟩
def Rl(p0:Aa)(p1:Aa)(p2:Aa):Option Bool :=
 if ((decide (p2.Y<p0.Y)) == (decide (p2.Y<p1.Y)))=true then (some false)
 else (if p0.Y<p1.Y then (bnd (Ry p0 p1 p2) fun r9=>
 some (decide (0<r9)))
 else (bnd (Ry p1 p0 p2) fun r0=>
 some (decide (0<r0))))
instance:UndI prog 58 (.slice 57):=⟨underlying58⟩
def Lt(p0:List Aa)(p1:Aa):(Bool × Int × Int × Int)->Option (Sum (Bool × Int × Int × Int) (Sum Bool Bool)):=fun s0=>
 if s0.2.2.2<(p0.length:Int) then (bnd (idx p0 s0.2.2.2) fun x0=>
 bnd (Zs (⟨s0.2.1,s0.2.2.1⟩:Aa) x0 p1) fun r0=>
 if r0=true then (some (.inr (.inr true)))
 else (jn (fun (s1:Bool)=>
 some (.inl (s1,x0.X,x0.Y,w64 (s0.2.2.2+1))))
 (fun j0=>bnd (Rl (⟨s0.2.1,s0.2.2.1⟩:Aa) x0 p1) fun r1=>
 if r1=true then (j0 (!(s0.1)))
 else (j0 s0.1))))
 else (some (.inr (.inl s0.1)))
def Sp(p0:List Aa)(p1:Aa):Option Bool :=
 bnd (idx p0 (w64 ((p0.length:Int)-1))) fun x2=>
 jn (fun (s4:Bool)=>
 some s4)
 (fun j4=>bnd (lfix (Lt p0 p1) (false,x2.X,x2.Y,0)) fun t0=>
 (match t0 with
 | (.inl z0)=>j4 z0
 | (.inr z0)=>some z0
 ))
def Mg(x:Aa):List Value:=[iq x.X,iq x.Y]
instance(x0:Int)(x1:Int):DecI Mg [iq x0,iq x1] (⟨x0,x1⟩):=⟨rfl⟩
instance:EncI 57 Mg:=⟨trivial⟩
def Ku(p0:List Aa):Int->Option (Sum Int (Sum Unit Bool)):=fun s0=>
 if s0<(p0.length:Int) then (bnd (idx p0 s0) fun x0=>
 bnd (Hp x0) fun r0=>
 if r0=true then (some (.inl (w64 (s0+1))))
 else (some (.inr (.inr false))))
 else (some (.inr (.inl ())))
def Pb(p0:List Aa):Option Bool :=
 bnd (Ci 3 (p0.length:Int) 64) fun r1=>
 if r1=true then (jn (fun (s5:Unit)=>
 some true)
 (fun j5=>bnd (lfix (Ku p0) 0) fun t0=>
 (match t0 with
 | (.inl z0)=>j5 z0
 | (.inr z0)=>some z0
 )))
 else (some false)
def Im(p0:List Aa)(p1:Aa):Option (Bool × Int):=
 bnd (Pb p0) fun r2=>
 if r2=true then (bnd (Hp p1) fun r8=>
 if r8=true then (bnd (Sp p0 p1) fun r0=>
 some (r0,0))
 else (some (false,11)))
 else (some (false,72))
instance(p0:Int)(p1:Int)(p2:Int):Con (Ci p0 p1 p2) prog 69 (fun _ vs=>vs=[iq p0,iq p1,iq p2]) (fun _ r=>fun v Ln=>v = .bool r/\Ln=[]/\True):=⟨by
 rintro _ _ r rfl hx w hK;unfold Ci at hx;refine CtS ntmps69 results69 ?_;exact au⟩
instance(p0:Aa):Con (Hp p0) prog 66 (fun _ vs=>vs=[.agg #[iq p0.X,iq p0.Y]]) (fun _ r=>fun v Ln=>v = .bool r/\Ln=[]/\True):=⟨by
 rintro _ _ r rfl hx w hK;unfold Hp at hx;refine CtS ntmps66 results66 ?_;exact au⟩
instance Air(p0:Ae):Con (Cu p0) prog 70 (fun _ vs=>vs=[.agg #[iq p0.Id,iq p0.X,iq p0.Y,iq p0.Z.Lo,iq p0.Z.Hi,iq p0.Wide,iq p0.Num,iq p0.Of,iq p0.Class]]) (fun _ r=>fun v Ln=>v = .agg #[iq r.X,iq r.Y]/\Ln=[]/\True):=⟨by
 rintro _ _ r rfl hx w hK;unfold Cu at hx;refine CtS ntmps70 results70 ?_;exact au⟩
theorem Agi(p0:Ae){r:Aa}(hx:Cu p0=some r)(w:World):CtL prog 70 [.agg #[iq p0.Id,iq p0.X,iq p0.Y,iq p0.Z.Lo,iq p0.Z.Hi,iq p0.Wide,iq p0.Num,iq p0.Of,iq p0.Class]] w fun v Ln=>v = .agg #[iq r.X,iq r.Y]/\Ln=[]/\True:=(Air p0).h [] _ _ rfl hx w (fun _ h=>absurd h List.not_mem_nil)
instance(p0:Ae):Con (Hq p0) prog 32 (fun _ vs=>vs=[.agg #[iq p0.Id,iq p0.X,iq p0.Y,iq p0.Z.Lo,iq p0.Z.Hi,iq p0.Wide,iq p0.Num,iq p0.Of,iq p0.Class]]) (fun _ r=>fun v Ln=>v = .bool r/\Ln=[]/\True):=⟨by
 rintro _ _ r rfl hx w hK;unfold Hq at hx;refine CtS ntmps32 results32 ?_;try (refine pre ?_;intros;rename_i hx)
 refine Bf ?_;try (refine pre ?_;intros;rename_i hx)
 apply Jr (γ:=Unit) hx [] (fun s2 y2 f=>(2,.bool s2)::f) [999] (fun s2 y2 l=>l);exact kk
 ·intro s2 y2 hx;exact au
 ·intro _ hx;try (refine pre ?_;intros;rename_i hx)
  refine Cq3 (s:=6) hx rfl (fun _ hx=>?_) (fun _ hx=>?_)
  ·try (refine pre ?_;intros;rename_i hx)
   refine Cq3 (s:=11) hx rfl (fun _ hx=>?_) (fun _ hx=>?_)
   ·exact au
   ·exact au
  ·exact au⟩
instance(p0:List Ae):Con (Ud p0) prog 91 (fun K vs=>∃ U0 E0,vs=[.slice U0 p0.length E0]/\Has K U0 p0.length E0 9 Aw p0/\True) (fun _ r=>fun v Ln=>v = .bool r/\Ln=[]/\True):=⟨by
 rintro K _ r ⟨U0,E0,rfl,ha0,-⟩ hx w hK;replace ha0:=Has.lo ha0 hK;unfold Ud at hx;refine CtS ntmps91 results91 ?_;try (refine pre ?_;intros;rename_i hx)
 refine Cq1 (s:=8) hx rfl (fun _ hx=>?_) (fun _ hx=>?_)
 ·exact au
 ·try (refine pre ?_;intros;rename_i hx)
  refine Bf ?_;try (refine pre ?_;intros;rename_i hx)
  apply Jr (γ:=Unit) hx [] (fun s6 y6 f=>f) [999] (fun s6 y6 l=>l);exact kk
  ·intro s6 y6 hx;exact au
  ·intro _ hx;try (refine pre ?_;intros;rename_i hx)
   apply Lr (γ:=Nat) hx [12,13] (fun s0 y0 f=>(3,.map (some y0))::(14,iq s0.2)::f) [999] (fun s0 y0 l=>Bc prog 3 Dn Bw y0 s0.1::l) _;exact kk;exact sk;intro s0 y0 x0 hx _;unfold Ks at hx;exact au⟩
instance(p0:Am):Con (Kc p0) prog 31 (fun _ vs=>vs=[.agg #[iq p0.Cell,iq p0.Reach,iq p0.Slope,iq p0.Link,iq p0.Flat,iq p0.Tall,iq p0.High,iq p0.Low,iq p0.Brush,iq p0.Few]]) (fun _ r=>fun v Ln=>v = .bool r/\Ln=[]/\True):=⟨by
 rintro _ _ r rfl hx w hK;unfold Kc at hx;refine CtS ntmps31 results31 ?_;try (refine pre ?_;intros;rename_i hx)
 refine Bf ?_;try (refine pre ?_;intros;rename_i hx)
 apply Jr (γ:=Unit) hx [1] (fun s2 y2 f=>f) [0,999] (fun s2 y2 l=>l);exact kk
 ·intro s2 y2 hx;exact au
 ·intro _ hx;try (refine pre ?_;intros;rename_i hx)
  apply Lr (γ:=Unit) hx [1,17] (fun s0 y0 f=>(18,iq s0)::f) [0,999] (fun s0 y0 l=>l) ();exact kk;exact sk;intro s0 y0 x0 hx _;unfold Jh at hx;exact au⟩
instance Ais(p0:Ae)(p1:Ae):Con (Se p0 p1) prog 93 (fun _ vs=>vs=[.agg #[iq p0.Id,iq p0.X,iq p0.Y,iq p0.Z.Lo,iq p0.Z.Hi,iq p0.Wide,iq p0.Num,iq p0.Of,iq p0.Class],.agg #[iq p1.Id,iq p1.X,iq p1.Y,iq p1.Z.Lo,iq p1.Z.Hi,iq p1.Wide,iq p1.Num,iq p1.Of,iq p1.Class]]) (fun _ r=>fun v Ln=>v = .bool r/\Ln=[]/\True):=⟨by
 rintro _ _ r rfl hx w hK;unfold Se at hx;refine CtS ntmps93 results93 ?_;exact au⟩
theorem Agj(p0:Ae)(p1:Ae){r:Bool}(hx:Se p0 p1=some r)(w:World):CtL prog 93 [.agg #[iq p0.Id,iq p0.X,iq p0.Y,iq p0.Z.Lo,iq p0.Z.Hi,iq p0.Wide,iq p0.Num,iq p0.Of,iq p0.Class],.agg #[iq p1.Id,iq p1.X,iq p1.Y,iq p1.Z.Lo,iq p1.Z.Hi,iq p1.Wide,iq p1.Num,iq p1.Of,iq p1.Class]] w fun v Ln=>v = .bool r/\Ln=[]/\True:=(Ais p0 p1).h [] _ _ rfl hx w (fun _ h=>absurd h List.not_mem_nil)
instance(p0:Aa)(p1:Aa):Con (Kt p0 p1) prog 78 (fun _ vs=>vs=[.agg #[iq p0.X,iq p0.Y],.agg #[iq p1.X,iq p1.Y]]) (fun _ r=>fun v Ln=>v = iq r/\Ln=[]/\True):=⟨by
 rintro _ _ r rfl hx w hK;unfold Kt at hx;have:=dl 1 [0,1,0,1,0,0,1,0,1,0,2,2] [0,1,2,3,4,5,6,7,8,9,10,11];refine CtS ntmps78 results78 ?_;exact au⟩
instance(p0:Ae)(p1:Ae)(p2:Int):Con (Vf p0 p1 p2) prog 155 (fun _ vs=>vs=[.agg #[iq p0.Id,iq p0.X,iq p0.Y,iq p0.Z.Lo,iq p0.Z.Hi,iq p0.Wide,iq p0.Num,iq p0.Of,iq p0.Class],.agg #[iq p1.Id,iq p1.X,iq p1.Y,iq p1.Z.Lo,iq p1.Z.Hi,iq p1.Wide,iq p1.Num,iq p1.Of,iq p1.Class],iq p2]) (fun _ r=>fun v Ln=>v = .bool r/\Ln=[]/\True):=⟨by
 rintro _ _ r rfl hx w hK;unfold Vf at hx;have:=dl 1 [1,2,1,2,2,0,0,0,0,2] [0,2,5,6,7,1,3,4,8,9];refine CtS ntmps155 results155 ?_;exact au⟩
instance Afu(p0:List Ae)(p1:Am):Con (Ps p0 p1) prog 42 (fun K vs=>∃ U0 E0,vs=[.slice U0 p0.length E0,.agg #[iq p1.Cell,iq p1.Reach,iq p1.Slope,iq p1.Link,iq p1.Flat,iq p1.Tall,iq p1.High,iq p1.Low,iq p1.Brush,iq p1.Few]]/\Has K U0 p0.length E0 9 Aw p0/\True) (fun _ r=>fun v Ln=>v = iq r/\Ln=[]/\True):=⟨by
 rintro K _ r ⟨U0,E0,rfl,ha0,-⟩ hx w hK;replace ha0:=Has.lo ha0 hK;unfold Ps at hx;refine CtS ntmps42 results42 ?_;exact au⟩
theorem Ad7(p0:List Ae)(p1:Am){K:List Ent}{U0:Option Addr}{E0:Nat}(ha0:Has K U0 p0.length E0 9 Aw p0){r:Int}(hx:Ps p0 p1=some r)(w:World)(hK:∀ e∈K,Ent.ok w e):CtL prog 42 [.slice U0 p0.length E0,.agg #[iq p1.Cell,iq p1.Reach,iq p1.Slope,iq p1.Link,iq p1.Flat,iq p1.Tall,iq p1.High,iq p1.Low,iq p1.Brush,iq p1.Few]] w fun v Ln=>v = iq r/\Ln=[]/\True:=(Afu p0 p1).h K _ _ ⟨_,_,rfl,ha0,trivial⟩ hx w hK
instance(p0:List Ae)(p1:Int)(p2:Am):Con (Sn p0 p1 p2) prog 150 (fun K vs=>∃ U0 E0,vs=[.slice U0 p0.length E0,iq p1,.agg #[iq p2.Cell,iq p2.Reach,iq p2.Slope,iq p2.Link,iq p2.Flat,iq p2.Tall,iq p2.High,iq p2.Low,iq p2.Brush,iq p2.Few]]/\Has K U0 p0.length E0 9 Aw p0/\True) (fun _ r=>fun v Ln=>v = .bool r/\Ln=[]/\True):=⟨by
 rintro K _ r ⟨U0,E0,rfl,ha0,-⟩ hx w hK;replace ha0:=Has.lo ha0 hK;unfold Sn at hx;have:=dl 5 [0,0,0,0,0,0,0,1,1,0,1,2,0,0] [0,1,2,3,4,5,6,7,8,9,10,11,12,13];have:=dl 6 [0,0,1,0,0,0,0,0,1,0,0,1,0] [0,1,2,3,4,5,6,7,8,9,10,11,12];refine CtS ntmps150 results150 ?_;try (refine pre ?_;intros;rename_i hx)
 refine Bf ?_;try (refine pre ?_;intros;rename_i hx)
 refine Bf ?_;try (refine pre ?_;intros;rename_i hx)
 apply Jr (γ:=Unit) hx [] (fun s3 y3 f=>(7,.bool s3)::f) [999] (fun s3 y3 l=>l);exact kk
 ·intro s3 y3 hx;exact au
 ·intro _ hx;try (refine pre ?_;intros;rename_i hx)
  apply Lr (γ:=Unit) hx [0,1,5,10,11] (fun s0 y0 f=>(7,.bool s0.1)::(12,iq s0.2)::f) [0,999] (fun s0 y0 l=>l) ();exact kk;exact sk;intro s0 y0 x0 hx _;unfold Oz at hx;try (refine pre ?_;intros;rename_i hx)
  refine Cq1 (s:=13) hx rfl (fun _ hx=>?_) (fun _ hx=>?_)
  ·try (refine pre ?_;intros;rename_i hx)
   apply Jr (γ:=Unit) hx [0,1,5,10,11,12] (fun s1 y1 f=>(7,.bool s1)::f) [0,999] (fun s1 y1 l=>l);exact kk
   ·intro s1 y1 hx;exact au
   ·intro _ hx;try (refine pre ?_;intros;rename_i hx)
    refine Bf ?_;try (refine pre ?_;intros;rename_i hx)
    apply Jr (γ:=Unit) hx [0,1,5,7,9,10,11,12] (fun s2 y2 f=>(30,.bool s2)::f) [0,1,999] (fun s2 y2 l=>l);exact kk
    ·intro s2 y2 hx;exact au
    ·intro _ hx;exact au
  ·exact au⟩
instance(p0:List Ae)(p1:Am):Con (So p0 p1) prog 96 (fun K vs=>∃ U0 E0,vs=[.slice U0 p0.length E0,.agg #[iq p1.Cell,iq p1.Reach,iq p1.Slope,iq p1.Link,iq p1.Flat,iq p1.Tall,iq p1.High,iq p1.Low,iq p1.Brush,iq p1.Few]]/\Has K U0 p0.length E0 9 Aw p0/\True) (fun _ r=>fun v Ln=>∃ A0 c0 A2 c2,v = .tuple #[.slice A0 r.1.length c0,.slice A2 r.2.length c2]/\Ln=[.r A0 r.1.length c0 30 9 (r.1.flatMap Aw),.r A2 r.2.length c2 30 9 (r.2.flatMap Aw)]/\True):=⟨by
 rintro K _ r ⟨U0,E0,rfl,ha0,-⟩ hx w hK;replace ha0:=Has.lo ha0 hK;unfold So at hx;refine CtS ntmps96 results96 ?_;try (refine pre ?_;intros;rename_i hx)
 refine Bf ?_;try (refine pre ?_;intros;rename_i hx)
 apply Jr (γ:=Option Addr × Nat × Option Addr × Nat) hx [] (fun s2 y2 f=>(4,.slice y2.1 s2.1.length y2.2.1)::(5,.slice y2.2.2.1 s2.2.length y2.2.2.2)::f) [999] (fun s2 y2 l=>.r y2.1 s2.1.length y2.2.1 30 9 (s2.1.flatMap Aw) :: .r y2.2.2.1 s2.2.length y2.2.2.2 30 9 (s2.2.flatMap Aw)::l);exact kk
 ·intro s2 y2 hx;exact au
 ·intro _ hx;try (refine pre ?_;intros;rename_i hx)
  refine Bh 30 9 ?_;refine Bh 30 9 ?_;apply Lr (γ:=Option Addr × Nat × Option Addr × Nat) hx [0,3,8,9] (fun s0 y0 f=>(4,.slice y0.1 s0.1.length y0.2.1)::(5,.slice y0.2.2.1 s0.2.1.length y0.2.2.2)::(10,iq s0.2.2)::f) [2,999] (fun s0 y0 l=>.r y0.1 s0.1.length y0.2.1 30 9 (s0.1.flatMap Aw) :: .r y0.2.2.1 s0.2.1.length y0.2.2.2 30 9 (s0.2.1.flatMap Aw)::l) (_,_,_,_);exact kk;exact sk;intro s0 y0 x0 hx _;unfold Ls at hx;exact au⟩
instance Ait(p0:Int)(p1:Int):Con (Qe p0 p1) prog 121 (fun _ vs=>vs=[iq p0,iq p1]) (fun _ r=>fun v Ln=>v = iq r/\Ln=[]/\True):=⟨by
 rintro _ _ r rfl hx w hK;unfold Qe at hx;refine CtS ntmps121 results121 ?_;exact au⟩
theorem Zt(p0:Int)(p1:Int){r:Int}(hx:Qe p0 p1=some r)(w:World):CtL prog 121 [iq p0,iq p1] w fun v Ln=>v = iq r/\Ln=[]/\True:=(Ait p0 p1).h [] _ _ rfl hx w (fun _ h=>absurd h List.not_mem_nil)
instance(p0:Aa)(p1:Aa)(p2:Aa):Con (Ry p0 p1 p2) prog 169 (fun _ vs=>vs=[.agg #[iq p0.X,iq p0.Y],.agg #[iq p1.X,iq p1.Y],.agg #[iq p2.X,iq p2.Y]]) (fun _ r=>fun v Ln=>v = iq r/\Ln=[]/\True):=⟨by
 rintro _ _ r rfl hx w hK;unfold Ry at hx;refine CtS ntmps169 results169 ?_;exact au⟩
instance(p0:Aa)(p1:Aa)(p2:Aa):Con (Zs p0 p1 p2) prog 118 (fun _ vs=>vs=[.agg #[iq p0.X,iq p0.Y],.agg #[iq p1.X,iq p1.Y],.agg #[iq p2.X,iq p2.Y]]) (fun _ r=>fun v Ln=>v = .bool r/\Ln=[]/\True):=⟨by
 rintro _ _ r rfl hx w hK;unfold Zs at hx;refine CtS ntmps118 results118 ?_;exact au⟩
instance(p0:Aa)(p1:Aa)(p2:Aa):Con (Rl p0 p1 p2) prog 119 (fun _ vs=>vs=[.agg #[iq p0.X,iq p0.Y],.agg #[iq p1.X,iq p1.Y],.agg #[iq p2.X,iq p2.Y]]) (fun _ r=>fun v Ln=>v = .bool r/\Ln=[]/\True):=⟨by
 rintro _ _ r rfl hx w hK;unfold Rl at hx;refine CtS ntmps119 results119 ?_;exact au⟩
instance(p0:List Aa)(p1:Aa):Con (Sp p0 p1) prog 67 (fun K vs=>∃ U0 E0,vs=[.slice U0 p0.length E0,.agg #[iq p1.X,iq p1.Y]]/\Has K U0 p0.length E0 2 Mg p0/\True) (fun _ r=>fun v Ln=>v = .bool r/\Ln=[]/\True):=⟨by
 rintro K _ r ⟨U0,E0,rfl,ha0,-⟩ hx w hK;replace ha0:=Has.lo ha0 hK;unfold Sp at hx;refine CtS ntmps67 results67 ?_;try (refine pre ?_;intros;rename_i hx)
 apply Jr (γ:=Unit) hx [] (fun s4 y4 f=>(5,.bool s4)::f) [999] (fun s4 y4 l=>l);exact kk
 ·intro s4 y4 hx;exact au
 ·intro _ hx;try (refine pre ?_;intros;rename_i hx)
  apply Lr (γ:=Nat) hx [3,15,16] (fun s44 y44 f=>(5,.bool s44.1)::(6,.pointer (some ⟨y44,0,none⟩))::(17,iq s44.2.2.2)::f) [1,999] (fun s44 y44 l=>.m y44 57 [iq s44.2.1,iq s44.2.2.1]::l) _;exact kk;exact sk;intro s44 y44 x44 hx _;unfold Lt at hx;exact au⟩
instance(p0:List Aa):Con (Pb p0) prog 65 (fun K vs=>∃ U0 E0,vs=[.slice U0 p0.length E0]/\Has K U0 p0.length E0 2 Mg p0/\True) (fun _ r=>fun v Ln=>v = .bool r/\Ln=[]/\True):=⟨by
 rintro K _ r ⟨U0,E0,rfl,ha0,-⟩ hx w hK;replace ha0:=Has.lo ha0 hK;unfold Pb at hx;refine CtS ntmps65 results65 ?_;try (refine pre ?_;intros;rename_i hx)
 refine Cq4 (s:=8) hx rfl (fun _ hx=>?_) (fun _ hx=>?_)
 ·exact au
 ·try (refine pre ?_;intros;rename_i hx)
  apply Jr (γ:=Unit) hx [] (fun s5 y5 f=>f) [999] (fun s5 y5 l=>l);exact kk
  ·intro s5 y5 hx;exact au
  ·intro _ hx;try (refine pre ?_;intros;rename_i hx)
   apply Lr (γ:=Unit) hx [9,10] (fun s29 y29 f=>(11,iq s29)::f) [999] (fun s29 y29 l=>l) ();exact kk;exact sk;intro s29 y29 x29 hx _;unfold Ku at hx;exact au⟩
instance(p0:List Aa)(p1:Aa):Con (Im p0 p1) prog 29 (fun K vs=>∃ U0 E0,vs=[.slice U0 p0.length E0,.agg #[iq p1.X,iq p1.Y]]/\Has K U0 p0.length E0 2 Mg p0/\True) (fun _ r=>fun v Ln=>v = .tuple #[.bool r.1,iq r.2]/\Ln=[]/\True):=⟨by
 rintro K _ r ⟨U0,E0,rfl,ha0,-⟩ hx w hK;replace ha0:=Has.lo ha0 hK;unfold Im at hx;refine CtS ntmps29 results29 ?_;exact au⟩
end
end Go.Proofs.YthlkpgdfifnagaaGreat
