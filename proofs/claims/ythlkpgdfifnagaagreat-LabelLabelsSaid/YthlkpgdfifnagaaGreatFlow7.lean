import Derived.Test.YthlkpgdfifnagaaGreatFlow19
import Derived.Test.YthlkpgdfifnagaaGreatProg
import Derived.Shelf.Lays
import Derived.Shelf.SlSortCmp.NoneTotal
import Derived.Ground.SlsfProg
import Derived.Ground.NamesProg
import Derived.Shelf.Sort.Plain
import Derived.Shelf.Slices.In.SortNone
set_option maxRecDepth 100000
set_option maxHeartbeats 1000000
namespace Go.Proofs.YthlkpgdfifnagaaGreat
open Go Go.RowKit Tryz
theorem mixed:prog.follows .mixedOrders=true:=kr
instance:MixI prog:=⟨mixed⟩
instance:Bt prog 57 0 0:=⟨.mk underlying57 rfl rfl (kr:prog.info? 3=some Tryz.t3) (kr:Tryz.t3.size=1) rfl⟩
theorem one3:Zp prog 3:=.mk underlying3 rfl (kr:prog.info? 3=some Tryz.t3) kr
instance:OneI prog 3:=⟨one3⟩
instance:Bt prog 57 1 1:=⟨.mk underlying57 rfl rfl (kr:prog.info? 3=some Tryz.t3) (kr:Tryz.t3.size=1) rfl⟩
theorem Auj:Xw prog 57 [.int .i64 0,.int .i64 0]:=⟨_,zeroValue57,rfl⟩
instance:Ur prog 57 [.int .i64 0,.int .i64 0]:=⟨Auj⟩
theorem Auk:Xg prog 30 1 1:=.mk underlying30 rfl rfl (kr:prog.info? 3=some Tryz.t3) (kr:Tryz.t3.size=1) rfl
instance:Bt prog 30 1 1:=⟨Auk⟩
theorem Aul:Xg prog 30 2 2:=.mk underlying30 rfl rfl (kr:prog.info? 3=some Tryz.t3) (kr:Tryz.t3.size=1) rfl
instance:Bt prog 30 2 2:=⟨Aul⟩
theorem Ac1(x0:Int)(x1:Int):Aik prog 57 [(0,.int .i64 x0),(1,.int .i64 x1)] [.int .i64 x0,.int .i64 x1]:=fun w=>kr
instance(x0:Int)(x1:Int):Ji prog 57 [(0,.int .i64 x0),(1,.int .i64 x1)] [.int .i64 x0,.int .i64 x1]:=⟨Ac1 _ _⟩
theorem Aea:Zo prog 57 2:=.mk underlying57 rfl (kr:prog.info? 57=some t57) kr
instance:AggI prog 57 2:=⟨Aea⟩
theorem Aim:Xg prog 30 0 0:=.mk underlying30 rfl rfl (kr:prog.info? 3=some Tryz.t3) (kr:Tryz.t3.size=1) rfl
instance:Bt prog 30 0 0:=⟨Aim⟩
theorem Ac2:Zo prog 30 9:=.mk underlying30 rfl (kr:prog.info? 30=some t30) kr
instance:AggI prog 30 9:=⟨Ac2⟩
instance:Bt prog 30 3 3:=⟨.mk underlying30 rfl rfl (kr:prog.info? 28=some Tryz.t28) (kr:Tryz.t28.size=2) rfl⟩
instance:Bt prog 28 0 0:=⟨.mk underlying28 rfl rfl (kr:prog.info? 3=some Tryz.t3) (kr:Tryz.t3.size=1) rfl⟩
instance:Bt prog 28 1 1:=⟨.mk underlying28 rfl rfl (kr:prog.info? 3=some Tryz.t3) (kr:Tryz.t3.size=1) rfl⟩
instance:Bt prog 30 4 5:=⟨.mk underlying30 rfl rfl (kr:prog.info? 3=some Tryz.t3) (kr:Tryz.t3.size=1) rfl⟩
instance:Bt prog 30 5 6:=⟨.mk underlying30 rfl rfl (kr:prog.info? 3=some Tryz.t3) (kr:Tryz.t3.size=1) rfl⟩
instance:Bt prog 30 6 7:=⟨.mk underlying30 rfl rfl (kr:prog.info? 3=some Tryz.t3) (kr:Tryz.t3.size=1) rfl⟩
theorem Aum:Po prog 41 30 9:=.mk underlying41 (kr:prog.info? 30=some t30) kr
instance:Kt prog 41 30 9:=⟨Aum⟩
theorem Aqc:Xw prog 30 [.int .i64 0,.int .i64 0,.int .i64 0,.int .i64 0,.int .i64 0,.int .i64 0,.int .i64 0,.int .i64 0,.int .i64 0]:=⟨_,zeroValue30,rfl⟩
instance:Ur prog 30 [.int .i64 0,.int .i64 0,.int .i64 0,.int .i64 0,.int .i64 0,.int .i64 0,.int .i64 0,.int .i64 0,.int .i64 0]:=⟨Aqc⟩
instance:Bt prog 32 1 1:=⟨.mk underlying32 rfl rfl (kr:prog.info? 3=some Tryz.t3) (kr:Tryz.t3.size=1) rfl⟩
instance:Bt prog 32 4 4:=⟨.mk underlying32 rfl rfl (kr:prog.info? 3=some Tryz.t3) (kr:Tryz.t3.size=1) rfl⟩
instance:Bt prog 32 5 5:=⟨.mk underlying32 rfl rfl (kr:prog.info? 3=some Tryz.t3) (kr:Tryz.t3.size=1) rfl⟩
instance:Bt prog 32 6 6:=⟨.mk underlying32 rfl rfl (kr:prog.info? 3=some Tryz.t3) (kr:Tryz.t3.size=1) rfl⟩
instance:Bt prog 32 7 7:=⟨.mk underlying32 rfl rfl (kr:prog.info? 3=some Tryz.t3) (kr:Tryz.t3.size=1) rfl⟩
instance:Bt prog 32 8 8:=⟨.mk underlying32 rfl rfl (kr:prog.info? 3=some Tryz.t3) (kr:Tryz.t3.size=1) rfl⟩
instance(x0:Int)(x1:Int)(x2:Int)(x3:Int)(x4:Int)(x5:Int):Ji prog 96 [(0,.int .i64 x0),(1,.int .i64 x1),(2,.int .i64 x2),(3,.int .i64 x3),(4,.int .i64 x4),(5,.int .i64 x5)] [.int .i64 x0,.int .i64 x1,.int .i64 x2,.int .i64 x3,.int .i64 x4,.int .i64 x5]:=⟨fun w=>kr⟩
theorem An1:Xg prog 32 0 0:=.mk underlying32 rfl rfl (kr:prog.info? 3=some Tryz.t3) (kr:Tryz.t3.size=1) rfl
instance:Bt prog 32 0 0:=⟨An1⟩
instance:Bt prog 32 2 2:=⟨.mk underlying32 rfl rfl (kr:prog.info? 3=some Tryz.t3) (kr:Tryz.t3.size=1) rfl⟩
instance:Bt prog 32 3 3:=⟨.mk underlying32 rfl rfl (kr:prog.info? 3=some Tryz.t3) (kr:Tryz.t3.size=1) rfl⟩
instance:Bt prog 32 9 9:=⟨.mk underlying32 rfl rfl (kr:prog.info? 3=some Tryz.t3) (kr:Tryz.t3.size=1) rfl⟩
instance:AggI prog 32 10:=⟨.mk underlying32 rfl (kr:prog.info? 32=some t32) kr⟩
theorem Jt(x0:Int)(x1:Int)(x2:Int)(x3:Int)(x4:Int)(x5:Int)(x6:Int)(x7:Int)(x8:Int):Ov prog 41 1 [(0,.agg #[.int .i64 x0,.int .i64 x1,.int .i64 x2,.int .i64 x3,.int .i64 x4,.int .i64 x5,.int .i64 x6,.int .i64 x7,.int .i64 x8])] 30 [.int .i64 x0,.int .i64 x1,.int .i64 x2,.int .i64 x3,.int .i64 x4,.int .i64 x5,.int .i64 x6,.int .i64 x7,.int .i64 x8]:=fun w=>kr
instance(x0:Int)(x1:Int)(x2:Int)(x3:Int)(x4:Int)(x5:Int)(x6:Int)(x7:Int)(x8:Int):Oo prog 41 1 [(0,.agg #[.int .i64 x0,.int .i64 x1,.int .i64 x2,.int .i64 x3,.int .i64 x4,.int .i64 x5,.int .i64 x6,.int .i64 x7,.int .i64 x8])] 30 [.int .i64 x0,.int .i64 x1,.int .i64 x2,.int .i64 x3,.int .i64 x4,.int .i64 x5,.int .i64 x6,.int .i64 x7,.int .i64 x8]:=⟨Jt _ _ _ _ _ _ _ _ _⟩
theorem Ba9:Ab4 prog 41 30 9 72:=⟨underlying41,⟨t30,.agg #[.int .i64 0,.int .i64 0,.int .i64 0,.int .i64 0,.int .i64 0,.int .i64 0,.int .i64 0,.int .i64 0,.int .i64 0],kr,kr,kr,kr,rfl⟩,dD⟩
instance:Ad9 prog 41 30 9 72:=⟨Ba9⟩
theorem Beh:Po prog 58 57 2:=.mk underlying58 (kr:prog.info? 57=some t57) kr
instance:Kt prog 58 57 2:=⟨Beh⟩
def Ak(x:Int):LV:=[.int .i64 x]
instance(x0:Int):DecI Ak [.int .i64 x0] x0:=⟨rfl⟩
instance:EncI 3 Ak:=⟨trivial⟩
noncomputable def Bz(p0:Int)(p1:Int)(p2:Int):Option Bool :=
 jn (fun (s2:Bool)=>
 some s2)
 (fun j2=>if p0<=p1 then (j2 (decide (p1<=p2)))
 else (j2 false))
structure Ab where
 X:Int
 Y:Int
noncomputable def Iu(p0:Ab):Option Bool :=
 jn (fun (s2:Bool)=>
 some s2)
 (fun j2=>bnd (Bz (-268435456) p0.X 268435456) fun r2=>
 if r2=true then (bnd (Bz (-268435456) p0.Y 268435456) fun r7=>
 j2 r7)
 else (j2 false))
structure Av where
 Lo:Int
 Hi:Int
structure Aa where
 Id:Int
 X:Int
 Y:Int
 Z:Av
 Wide:Int
 Num:Int
 Of:Int
 Class:Int
structure Ae where
 X:Int
 Y:Int
 Z:Av
structure Ai where
 Neg:Bool
 L:LI
structure Ao where
 N:Ai
 D:LI
structure Cb where
 X:Ao
 Y:Ao
noncomputable def Bp(p0:Aa):Option Ab :=
 some (⟨p0.X,p0.Y⟩:Ab)
noncomputable def Ql(p0:Aa):Option Bool :=
 jn (fun (s2:Bool)=>
 some s2)
 (fun j2=>bnd (Bz 0 p0.Id 1152921504606846976) fun r2=>
 if r2=true then (bnd (Bp p0) fun r7=>
 bnd (Iu r7) fun r0=>
 if r0=true then (bnd (Bz (-268435456) p0.Z.Lo p0.Z.Hi) fun r1=>
 if r1=true then (if p0.Z.Hi<=268435456 then (bnd (Bz 0 p0.Wide 268435456) fun r3=>
 if r3=true then (bnd (Bz 1 p0.Num p0.Of) fun r4=>
 if r4=true then (j2 (decide (p0.Of<=15)))
 else (j2 false))
 else (j2 false))
 else (j2 false))
 else (j2 false))
 else (j2 false))
 else (j2 false))
instance:UndI prog 41 (.slice 30):=⟨underlying41⟩
def Cy(x:Int):Value:=.int .i64 x
theorem Vq(x y:Int)(h:Cy x=Cy y):x=y:=by simpa[Cy] using h
instance(x:Int):UnfI Cy x (.int .i64 x):=⟨rfl⟩
instance(x0:Int):Abe Cy (.int .i64 x0) x0:=⟨rfl⟩
instance:ValI prog 3 Cy 0:=⟨Vq,fun w=>kr⟩
theorem key3:Maps.Keyed prog 3:=Maps.int_keyed underlying3
theorem isk3(x:Int)(h:(-9223372036854775808<=x/\x<=9223372036854775807)):(keyOf prog 3 (Cy x)).isSome=true:=Be0 underlying3 (Aiz h)
instance:KeyI prog 3 Cy (fun x=>(-9223372036854775808<=x/\x<=9223372036854775807)):=⟨key3,Vq,isk3⟩
instance:UndI prog 136 (.map 3 4):=⟨underlying136⟩
def Ca(x:Bool):Value:=.bool x
theorem Asm(x y:Bool)(h:Ca x=Ca y):x=y:=by simpa[Ca] using h
instance(x:Bool):UnfI Ca x (.bool x):=⟨rfl⟩
instance(x0:Bool):Abe Ca (.bool x0) x0:=⟨rfl⟩
instance:ValI prog 4 Ca false:=⟨Asm,fun w=>kr⟩
noncomputable def Mx(p0:List Aa):((List (Int×Bool))×Int)->Option (Sum ((List (Int×Bool))×Int) (Sum Unit Bool)):=fun s0=>
 if s0.2<(p0.length:Int) then (bnd (idx p0 s0.2) fun x0=>
 jn (fun (s1:Bool)=>
 if s1=true then (some (.inr (.inr false)))
 else (gd ((-9223372036854775808<=x0.Id/\x0.Id<=9223372036854775807))<|
 gd (s0.1.length<9223372036854775807)<|
 some (.inl (mput s0.1 x0.Id true,w64 (s0.2+1)))))
 (fun j0=>bnd (Ql x0) fun r0=>
 if r0=true then (gd ((-9223372036854775808<=x0.Id/\x0.Id<=9223372036854775807))<|
 bnd (some ((mget s0.1 x0.Id).getD false)) fun x1=>
 j0 x1)
 else (j0 true)))
 else (some (.inr (.inl ())))
noncomputable def Xq(p0:List Aa):Option Bool :=
 if 1024<(p0.length:Int) then (some false)
 else (jn (fun (s6:Unit)=>
 some true)
 (fun j6=>bnd (lfix (Mx p0) (([]:List (Int×Bool)),0)) fun t0=>
 (match t0 with
 |(.inl z0)=>j6 z0
 |(.inr z0)=>some z0
 )))
def Ag(x:Aa):LV:=[.int .i64 x.Id,.int .i64 x.X,.int .i64 x.Y,.int .i64 x.Z.Lo,.int .i64 x.Z.Hi,.int .i64 x.Wide,.int .i64 x.Num,.int .i64 x.Of,.int .i64 x.Class]
instance(x0:Int)(x1:Int)(x2:Int)(x3:Int)(x4:Int)(x5:Int)(x6:Int)(x7:Int)(x8:Int):DecI Ag [.int .i64 x0,.int .i64 x1,.int .i64 x2,.int .i64 x3,.int .i64 x4,.int .i64 x5,.int .i64 x6,.int .i64 x7,.int .i64 x8] (⟨x0,x1,x2,⟨x3,x4⟩,x5,x6,x7,x8⟩):=⟨rfl⟩
instance:EncI 30 Ag:=⟨trivial⟩
structure Af where
 Cell:Int
 Reach:Int
 Slope:Int
 Link:Int
 Flat:Int
 Tall:Int
 High:Int
 Low:Int
 Brush:Int
 Few:Int
theorem Bei(x0:Int)(x1:Int)(x2:Int)(x3:Int)(x4:Int)(x5:Int):Amq prog 96 [.int .i64 x0,.int .i64 x1,.int .i64 x2,.int .i64 x3,.int .i64 x4,.int .i64 x5]:=by
 intro j h k w;have h':j<6:=h
 match j,h,h' with
 |0,_,_=>exact (kr:(Instr.index 96 (.agg ([.int .i64 x0,.int .i64 x1,.int .i64 x2,.int .i64 x3,.int .i64 x4,.int .i64 x5]:LV).toArray) (.int k ((0:Nat):Int))).run prog w=.ok (.int .i64 x0) w)
 |1,_,_=>exact (kr:(Instr.index 96 (.agg ([.int .i64 x0,.int .i64 x1,.int .i64 x2,.int .i64 x3,.int .i64 x4,.int .i64 x5]:LV).toArray) (.int k ((1:Nat):Int))).run prog w=.ok (.int .i64 x1) w)
 |2,_,_=>exact (kr:(Instr.index 96 (.agg ([.int .i64 x0,.int .i64 x1,.int .i64 x2,.int .i64 x3,.int .i64 x4,.int .i64 x5]:LV).toArray) (.int k ((2:Nat):Int))).run prog w=.ok (.int .i64 x2) w)
 |3,_,_=>exact (kr:(Instr.index 96 (.agg ([.int .i64 x0,.int .i64 x1,.int .i64 x2,.int .i64 x3,.int .i64 x4,.int .i64 x5]:LV).toArray) (.int k ((3:Nat):Int))).run prog w=.ok (.int .i64 x3) w)
 |4,_,_=>exact (kr:(Instr.index 96 (.agg ([.int .i64 x0,.int .i64 x1,.int .i64 x2,.int .i64 x3,.int .i64 x4,.int .i64 x5]:LV).toArray) (.int k ((4:Nat):Int))).run prog w=.ok (.int .i64 x4) w)
 |5,_,_=>exact (kr:(Instr.index 96 (.agg ([.int .i64 x0,.int .i64 x1,.int .i64 x2,.int .i64 x3,.int .i64 x4,.int .i64 x5]:LV).toArray) (.int k ((5:Nat):Int))).run prog w=.ok (.int .i64 x5) w)
instance(x0:Int)(x1:Int)(x2:Int)(x3:Int)(x4:Int)(x5:Int):Az7 prog 96 [.int .i64 x0,.int .i64 x1,.int .i64 x2,.int .i64 x3,.int .i64 x4,.int .i64 x5]:=⟨Bei _ _ _ _ _ _⟩
instance(x0:Int)(x1:Int)(x2:Int)(x3:Int)(x4:Int)(x5:Int):At3 prog 96 [.int .i64 x0,.int .i64 x1,.int .i64 x2,.int .i64 x3,.int .i64 x4,.int .i64 x5] (Value.int .i64) [x0,x1,x2,x3,x4,x5]:=⟨Bei _ _ _ _ _ _⟩
noncomputable def Kr(p0:Af):Int->Option (Sum Int (Sum Unit Bool)):=fun s0=>
 if s0<6 then (bnd (idx [p0.Reach,p0.Flat,p0.Tall,p0.High,p0.Low,p0.Brush] s0) fun x0=>
 bnd (Bz 0 x0 1000000) fun r0=>
 if r0=true then (some (.inl (w64 (s0+1))))
 else (some (.inr (.inr false))))
 else (some (.inr (.inl ())))
noncomputable def Qm(p0:Af):Option Bool :=
 jn (fun (s2:Unit)=>
 jn (fun (s0:Bool)=>
 some s0)
 (fun j0=>bnd (Bz 1 p0.Cell 10000000) fun r0=>
 if r0=true then (bnd (Bz 0 p0.Slope 100000) fun r1=>
 if r1=true then (bnd (Bz 1 p0.Link 1000000) fun r2=>
 if r2=true then (bnd (Bz 1 p0.Few 1024) fun r3=>
 j0 r3)
 else (j0 false))
 else (j0 false))
 else (j0 false)))
 (fun j2=>bnd (lfix (Kr p0) 0) fun t0=>
 (match t0 with
 |(.inl z0)=>j2 z0
 |(.inr z0)=>some z0
 ))
noncomputable def Th(p0:Aa)(p1:Aa):Option Bool :=
 jn (fun (s2:Bool)=>
 some s2)
 (fun j2=>if p0.Z.Hi<p1.Z.Hi then (j2 true)
 else (if p0.Z.Hi=p1.Z.Hi then (j2 (decide (p0.Id<p1.Id)))
 else (j2 false)))
noncomputable def My(p0:Ab)(p1:Ab):Option Int :=
 some (w64 ((w64 ((w64 (p0.X-p1.X))*(w64 (p0.X-p1.X))))+(w64 ((w64 (p0.Y-p1.Y))*(w64 (p0.Y-p1.Y))))))
noncomputable def Xd(p0:Aa)(p1:Aa)(p2:Int):Option Bool :=
 bnd (Bp p0) fun r3=>
 bnd (Bp p1) fun r6=>
 bnd (My r3 r6) fun r9=>
 some (decide (r9<=(w64 (p2*p2))))
noncomputable def Sd(p0:List Aa)(p1:Af):Option Int :=
 bnd (Qm p1) fun r2=>
 if r2=true then (bnd (Xq p0) fun r8=>
 if r8=true then (some 0)
 else (some 70))
 else (some 71)
noncomputable def Ry(p0:List Aa)(p1:Int)(p2:Af):(Bool×Int)->Option (Sum (Bool×Int) (Sum Bool Bool)):=fun s0=>
 if s0.2<(p0.length:Int) then (jn (fun (s1:Bool)=>
 some (.inl (s1,w64 (s0.2+1))))
 (fun j0=>bnd (idx p0 s0.2) fun x0=>
 jn (fun (s2:Bool)=>
 if s2=true then (j0 s0.1)
 else (bnd (idx p0 p1) fun x1=>
 if (w64 (x0.Z.Lo-x1.Z.Hi))<=p2.Low then (some (.inr (.inr false)))
 else (j0 true)))
 (fun j1=>if s0.2=p1 then (j1 true)
 else (bnd (idx p0 p1) fun x2=>
 bnd (Xd x2 x0 p2.Link) fun r0=>
 j1 (!(r0))))))
 else (some (.inr (.inl s0.1)))
noncomputable def Wf(p0:List Aa)(p1:Int)(p2:Af):Option Bool :=
 jn (fun (s3:Bool)=>
 some s3)
 (fun j3=>bnd (lfix (Ry p0 p1 p2) (false,0)) fun t0=>
 (match t0 with
 |(.inl z0)=>j3 z0
 |(.inr z0)=>some z0
 ))
noncomputable def Ns(p0:List Aa)(p1:Af):(List Aa×List Aa×Int)->Option (Sum (List Aa×List Aa×Int) (List Aa×List Aa)):=fun s0=>
 if s0.2.2<(p0.length:Int) then (jn (fun (s1:List Aa×List Aa)=>
 some (.inl (s1.1,s1.2,w64 (s0.2.2+1))))
 (fun j0=>bnd (idx p0 s0.2.2) fun x0=>
 bnd (Wf p0 s0.2.2 p1) fun r0=>
 if r0=true then (gd ((s0.2.1.length+1)*72<=140737488355328)<|
 j0 (s0.1,s0.2.1++[x0]))
 else (gd ((s0.1.length+1)*72<=140737488355328)<|
 j0 (s0.1++[x0],s0.2.1))))
 else (some (.inr (s0.1,s0.2.1)))
noncomputable def Qz(p0:List Aa)(p1:Af):Option (List Aa×List Aa):=
 jn (fun (s2:List Aa×List Aa)=>
 some (s2.1,s2.2))
 (fun j2=>bnd (lfix (Ns p0 p1) (([]:List Aa),([]:List Aa),0)) fun t0=>
 j2 t0)
noncomputable def Tk(p0:Int)(p1:Int):Option Int :=
 gd (p1≠0)<|
 jn (fun (s3:Int)=>
 some s3)
 (fun j3=>gd (p1≠0)<|
 if (Int.tmod p0 p1)<0 then (j3 (w64 ((w64 (Int.tdiv p0 p1))-1)))
 else (j3 (w64 (Int.tdiv p0 p1))))
noncomputable def Vi(p0:Ab)(p1:Ab)(p2:Ab):Option Int :=
 if 0<(w64 ((w64 ((w64 (p1.X-p0.X))*(w64 (p2.Y-p0.Y))))-(w64 ((w64 (p1.Y-p0.Y))*(w64 (p2.X-p0.X)))))) then (some 1)
 else (if (w64 ((w64 ((w64 (p1.X-p0.X))*(w64 (p2.Y-p0.Y))))-(w64 ((w64 (p1.Y-p0.Y))*(w64 (p2.X-p0.X))))))<0 then (some (-1))
 else (some 0))
noncomputable def Ac3(p0:Ab)(p1:Ab)(p2:Ab):Option Bool :=
 jn (fun (s2:Bool)=>
 some s2)
 (fun j2=>bnd (Vi p0 p1 p2) fun r4=>
 if r4=0 then (bnd (Bz (min p0.X p1.X) p2.X (max p0.X p1.X)) fun r9=>
 if r9=true then (bnd (Bz (min p0.Y p1.Y) p2.Y (max p0.Y p1.Y)) fun r0=>
 j2 r0)
 else (j2 false))
 else (j2 false))
instance:UndI prog 4 (.bool):=⟨underlying4⟩
noncomputable def Uy(p0:Ab)(p1:Ab)(p2:Ab):Option Bool :=
 if ((decide (p2.Y<p0.Y))==(decide (p2.Y<p1.Y)))=true then (some false)
 else (if p0.Y<p1.Y then (bnd (Vi p0 p1 p2) fun r9=>
 some (decide (0<r9)))
 else (bnd (Vi p1 p0 p2) fun r0=>
 some (decide (0<r0))))
instance:UndI prog 58 (.slice 57):=⟨underlying58⟩
noncomputable def Nt(p0:List Ab)(p1:Ab):(Bool×Int×Int×Int)->Option (Sum (Bool×Int×Int×Int) (Sum Bool Bool)):=fun s0=>
 if s0.2.2.2<(p0.length:Int) then (bnd (idx p0 s0.2.2.2) fun x0=>
 bnd (Ac3 (⟨s0.2.1,s0.2.2.1⟩:Ab) x0 p1) fun r0=>
 if r0=true then (some (.inr (.inr true)))
 else (jn (fun (s1:Bool)=>
 some (.inl (s1,x0.X,x0.Y,w64 (s0.2.2.2+1))))
 (fun j0=>bnd (Uy (⟨s0.2.1,s0.2.2.1⟩:Ab) x0 p1) fun r1=>
 if r1=true then (j0 (!(s0.1)))
 else (j0 s0.1))))
 else (some (.inr (.inl s0.1)))
noncomputable def Rc(p0:List Ab)(p1:Ab):Option Bool :=
 bnd (idx p0 (w64 ((p0.length:Int)-1))) fun x2=>
 jn (fun (s4:Bool)=>
 some s4)
 (fun j4=>bnd (lfix (Nt p0 p1) (false,x2.X,x2.Y,0)) fun t0=>
 (match t0 with
 |(.inl z0)=>j4 z0
 |(.inr z0)=>some z0
 ))
def Fh(x:Ab):LV:=[.int .i64 x.X,.int .i64 x.Y]
instance(x0:Int)(x1:Int):DecI Fh [.int .i64 x0,.int .i64 x1] (⟨x0,x1⟩):=⟨rfl⟩
instance:EncI 57 Fh:=⟨trivial⟩
noncomputable def Mz(p0:List Ab):Int->Option (Sum Int (Sum Unit Bool)):=fun s0=>
 if s0<(p0.length:Int) then (bnd (idx p0 s0) fun x0=>
 bnd (Iu x0) fun r0=>
 if r0=true then (some (.inl (w64 (s0+1))))
 else (some (.inr (.inr false))))
 else (some (.inr (.inl ())))
noncomputable def Nu(p0:List Ab):Option Bool :=
 bnd (Bz 3 (p0.length:Int) 64) fun r1=>
 if r1=true then (jn (fun (s5:Unit)=>
 some true)
 (fun j5=>bnd (lfix (Mz p0) 0) fun t0=>
 (match t0 with
 |(.inl z0)=>j5 z0
 |(.inr z0)=>some z0
 )))
 else (some false)
noncomputable def Iz(p0:List Ab)(p1:Ab):Option (Bool×Int):=
 bnd (Nu p0) fun r2=>
 if r2=true then (bnd (Iu p1) fun r8=>
 if r8=true then (bnd (Rc p0 p1) fun r0=>
 some (r0,0))
 else (some (false,11)))
 else (some (false,72))
instance(p0:Int)(p1:Int)(p2:Int):Con (Bz p0 p1 p2) prog 69 (fun _ vs=>vs=[.int .i64 p0,.int .i64 p1,.int .i64 p2]) (fun _ r v Ln=>v=.bool r/\Ln=[]/\True):=⟨by
 rintro _ _ r rfl hx w hK;unfold Bz at hx;refine CtS ntmps69 results69 ?_;exact au⟩
instance(p0:Ab):Con (Iu p0) prog 66 (fun _ vs=>vs=[.agg #[.int .i64 p0.X,.int .i64 p0.Y]]) (fun _ r v Ln=>v=.bool r/\Ln=[]/\True):=⟨by
 rintro _ _ r rfl hx w hK;unfold Iu at hx;refine CtS ntmps66 results66 ?_;exact au⟩
instance Ak1(p0:Aa):Con (Bp p0) prog 70 (fun _ vs=>vs=[.agg #[.int .i64 p0.Id,.int .i64 p0.X,.int .i64 p0.Y,.int .i64 p0.Z.Lo,.int .i64 p0.Z.Hi,.int .i64 p0.Wide,.int .i64 p0.Num,.int .i64 p0.Of,.int .i64 p0.Class]]) (fun _ r v Ln=>v=.agg #[.int .i64 r.X,.int .i64 r.Y]/\Ln=[]/\True):=⟨by
 rintro _ _ r rfl hx w hK;unfold Bp at hx;refine CtS ntmps70 results70 ?_;exact au⟩
theorem Akn(p0:Aa){r:Ab}(hx:Bp p0=some r)(w:World):CtL prog 70 [.agg #[.int .i64 p0.Id,.int .i64 p0.X,.int .i64 p0.Y,.int .i64 p0.Z.Lo,.int .i64 p0.Z.Hi,.int .i64 p0.Wide,.int .i64 p0.Num,.int .i64 p0.Of,.int .i64 p0.Class]] w fun v Ln=>v=.agg #[.int .i64 r.X,.int .i64 r.Y]/\Ln=[]/\True:=(Ak1 p0).h [] _ _ rfl hx w (fun _ h=>absurd h List.not_mem_nil)
instance(p0:Aa):Con (Ql p0) prog 32 (fun _ vs=>vs=[.agg #[.int .i64 p0.Id,.int .i64 p0.X,.int .i64 p0.Y,.int .i64 p0.Z.Lo,.int .i64 p0.Z.Hi,.int .i64 p0.Wide,.int .i64 p0.Num,.int .i64 p0.Of,.int .i64 p0.Class]]) (fun _ r v Ln=>v=.bool r/\Ln=[]/\True):=⟨by
 rintro _ _ r rfl hx w hK;unfold Ql at hx;refine CtS ntmps32 results32 ?_;refine pq ?_;intros;rename_i hx
 refine pA ?_;intros;rename_i hx
 apply Jr (γ:=Unit) hx [] (fun s2 y2 f=>(2,.bool s2)::f) [999] (fun s2 y2 l=>l);exact kk
 .exact aI
 .refine pI ?_;intros;rename_i hx
  refine Cq3 (s:=6) hx rfl ?_ ?_
  .refine pI ?_;intros;rename_i hx
   refine Cq3 (s:=11) hx rfl ?_ ?_
   .exact aI
   .exact aI
  .exact aI⟩
instance(p0:List Aa):Con (Xq p0) prog 91 (fun K vs=>∃U0 E0,vs=[.slice U0 p0.length E0]/\Has K U0 p0.length E0 9 Ag p0/\True) (fun _ r v Ln=>v=.bool r/\Ln=[]/\True):=⟨by
 rintro K _ r ⟨U0,E0,rfl,ha0,-⟩ hx w hK;replace ha0:=ha0.lo hK;unfold Xq at hx;refine CtS ntmps91 results91 ?_;refine pq ?_;intros;rename_i hx
 refine Cq1 (s:=8) hx rfl ?_ ?_
 .exact aI
 .refine pI ?_;intros;rename_i hx
  refine pA ?_;intros;rename_i hx
  apply Jr (γ:=Unit) hx [] (fun s6 y6 f=>f) [999] (fun s6 y6 l=>l);exact kk
  .exact aI
  .refine pI ?_;intros;rename_i hx
   apply Lr (γ:=Nat) hx [12,13] (fun s0 y0 f=>(3,.map (some y0))::(14,.int .i64 s0.2)::f) [999] (fun s0 y0 l=>Bg prog 3 Cy Ca y0 s0.1::l) _;exact kk;exact sk;intro s0 y0 x0 hx _;unfold Mx at hx;exact au⟩
instance(p0:Af):Con (Qm p0) prog 31 (fun _ vs=>vs=[.agg #[.int .i64 p0.Cell,.int .i64 p0.Reach,.int .i64 p0.Slope,.int .i64 p0.Link,.int .i64 p0.Flat,.int .i64 p0.Tall,.int .i64 p0.High,.int .i64 p0.Low,.int .i64 p0.Brush,.int .i64 p0.Few]]) (fun _ r v Ln=>v=.bool r/\Ln=[]/\True):=⟨by
 rintro _ _ r rfl hx w hK;unfold Qm at hx;refine CtS ntmps31 results31 ?_;refine pq ?_;intros;rename_i hx
 refine pA ?_;intros;rename_i hx
 apply Jr (γ:=Unit) hx [1] (fun s2 y2 f=>f) [0,999] (fun s2 y2 l=>l);exact kk
 .exact aI
 .refine pI ?_;intros;rename_i hx
  apply Lr (γ:=Unit) hx [1,17] (fun s0 y0 f=>(18,.int .i64 s0)::f) [0,999] (fun s0 y0 l=>l) ();exact kk;exact sk;intro s0 y0 x0 hx _;unfold Kr at hx;exact au⟩
instance Ak2(p0:Aa)(p1:Aa):Con (Th p0 p1) prog 93 (fun _ vs=>vs=[.agg #[.int .i64 p0.Id,.int .i64 p0.X,.int .i64 p0.Y,.int .i64 p0.Z.Lo,.int .i64 p0.Z.Hi,.int .i64 p0.Wide,.int .i64 p0.Num,.int .i64 p0.Of,.int .i64 p0.Class],.agg #[.int .i64 p1.Id,.int .i64 p1.X,.int .i64 p1.Y,.int .i64 p1.Z.Lo,.int .i64 p1.Z.Hi,.int .i64 p1.Wide,.int .i64 p1.Num,.int .i64 p1.Of,.int .i64 p1.Class]]) (fun _ r v Ln=>v=.bool r/\Ln=[]/\True):=⟨by
 rintro _ _ r rfl hx w hK;unfold Th at hx;refine CtS ntmps93 results93 ?_;exact au⟩
theorem Ako(p0:Aa)(p1:Aa){r:Bool}(hx:Th p0 p1=some r)(w:World):CtL prog 93 [.agg #[.int .i64 p0.Id,.int .i64 p0.X,.int .i64 p0.Y,.int .i64 p0.Z.Lo,.int .i64 p0.Z.Hi,.int .i64 p0.Wide,.int .i64 p0.Num,.int .i64 p0.Of,.int .i64 p0.Class],.agg #[.int .i64 p1.Id,.int .i64 p1.X,.int .i64 p1.Y,.int .i64 p1.Z.Lo,.int .i64 p1.Z.Hi,.int .i64 p1.Wide,.int .i64 p1.Num,.int .i64 p1.Of,.int .i64 p1.Class]] w fun v Ln=>v=.bool r/\Ln=[]/\True:=(Ak2 p0 p1).h [] _ _ rfl hx w (fun _ h=>absurd h List.not_mem_nil)
instance(p0:Ab)(p1:Ab):Con (My p0 p1) prog 78 (fun _ vs=>vs=[.agg #[.int .i64 p0.X,.int .i64 p0.Y],.agg #[.int .i64 p1.X,.int .i64 p1.Y]]) (fun _ r v Ln=>v=.int .i64 r/\Ln=[]/\True):=⟨by
 rintro _ _ r rfl hx w hK;unfold My at hx;have:=dl 1 [0,1,0,1,0,0,1,0,1,0,2,2] [0,1,2,3,4,5,6,7,8,9,10,11];refine CtS ntmps78 results78 ?_;exact au⟩
instance(p0:Aa)(p1:Aa)(p2:Int):Con (Xd p0 p1 p2) prog 155 (fun _ vs=>vs=[.agg #[.int .i64 p0.Id,.int .i64 p0.X,.int .i64 p0.Y,.int .i64 p0.Z.Lo,.int .i64 p0.Z.Hi,.int .i64 p0.Wide,.int .i64 p0.Num,.int .i64 p0.Of,.int .i64 p0.Class],.agg #[.int .i64 p1.Id,.int .i64 p1.X,.int .i64 p1.Y,.int .i64 p1.Z.Lo,.int .i64 p1.Z.Hi,.int .i64 p1.Wide,.int .i64 p1.Num,.int .i64 p1.Of,.int .i64 p1.Class],.int .i64 p2]) (fun _ r v Ln=>v=.bool r/\Ln=[]/\True):=⟨by
 rintro _ _ r rfl hx w hK;unfold Xd at hx;have:=dl 1 [1,2,1,2,2,0,0,0,0,2] [0,2,5,6,7,1,3,4,8,9];refine CtS ntmps155 results155 ?_;exact au⟩
instance(p0:List Aa)(p1:Af):Con (Sd p0 p1) prog 42 (fun K vs=>∃U0 E0,vs=[.slice U0 p0.length E0,.agg #[.int .i64 p1.Cell,.int .i64 p1.Reach,.int .i64 p1.Slope,.int .i64 p1.Link,.int .i64 p1.Flat,.int .i64 p1.Tall,.int .i64 p1.High,.int .i64 p1.Low,.int .i64 p1.Brush,.int .i64 p1.Few]]/\Has K U0 p0.length E0 9 Ag p0/\True) (fun _ r v Ln=>v=.int .i64 r/\Ln=[]/\True):=⟨by
 rintro K _ r ⟨U0,E0,rfl,ha0,-⟩ hx w hK;replace ha0:=ha0.lo hK;unfold Sd at hx;refine CtS ntmps42 results42 ?_;exact au⟩
instance(p0:List Aa)(p1:Int)(p2:Af):Con (Wf p0 p1 p2) prog 150 (fun K vs=>∃U0 E0,vs=[.slice U0 p0.length E0,.int .i64 p1,.agg #[.int .i64 p2.Cell,.int .i64 p2.Reach,.int .i64 p2.Slope,.int .i64 p2.Link,.int .i64 p2.Flat,.int .i64 p2.Tall,.int .i64 p2.High,.int .i64 p2.Low,.int .i64 p2.Brush,.int .i64 p2.Few]]/\Has K U0 p0.length E0 9 Ag p0/\True) (fun _ r v Ln=>v=.bool r/\Ln=[]/\True):=⟨by
 rintro K _ r ⟨U0,E0,rfl,ha0,-⟩ hx w hK;replace ha0:=ha0.lo hK;unfold Wf at hx;have:=dl 5 [0,0,0,0,0,0,0,1,1,0,1,2,0,0] [0,1,2,3,4,5,6,7,8,9,10,11,12,13];have:=dl 6 [0,0,1,0,0,0,0,0,1,0,0,1,0] [0,1,2,3,4,5,6,7,8,9,10,11,12];refine CtS ntmps150 results150 ?_;refine pq ?_;intros;rename_i hx
 refine pA ?_;intros;rename_i hx
 refine pA ?_;intros;rename_i hx
 apply Jr (γ:=Unit) hx [] (fun s3 y3 f=>(7,.bool s3)::f) [999] (fun s3 y3 l=>l);exact kk
 .exact aI
 .refine pI ?_;intros;rename_i hx
  apply Lr (γ:=Unit) hx [0,1,5,10,11] (fun s0 y0 f=>(7,.bool s0.1)::(12,.int .i64 s0.2)::f) [0,999] (fun s0 y0 l=>l) ();exact kk;exact sk;intro s0 y0 x0 hx _;unfold Ry at hx;refine pq ?_;intros;rename_i hx
  refine Cq1 (s:=13) hx rfl ?_ ?_
  .refine pI ?_;intros;rename_i hx
   apply Jr (γ:=Unit) hx [0,1,5,10,11,12] (fun s1 y1 f=>(7,.bool s1)::f) [0,999] (fun s1 y1 l=>l);exact kk
   .exact aI
   .refine pI ?_;intros;rename_i hx
    refine pA ?_;intros;rename_i hx
    apply Jr (γ:=Unit) hx [0,1,5,7,9,10,11,12] (fun s2 y2 f=>(30,.bool s2)::f) [0,1,999] (fun s2 y2 l=>l);exact kk
    .exact aI
    .exact aI
  .exact aI⟩
instance(p0:List Aa)(p1:Af):Con (Qz p0 p1) prog 96 (fun K vs=>∃U0 E0,vs=[.slice U0 p0.length E0,.agg #[.int .i64 p1.Cell,.int .i64 p1.Reach,.int .i64 p1.Slope,.int .i64 p1.Link,.int .i64 p1.Flat,.int .i64 p1.Tall,.int .i64 p1.High,.int .i64 p1.Low,.int .i64 p1.Brush,.int .i64 p1.Few]]/\Has K U0 p0.length E0 9 Ag p0/\True) (fun _ r v Ln=>∃A0 c0 A2 c2,v=.tuple #[.slice A0 r.1.length c0,.slice A2 r.2.length c2]/\Ln=[.r A0 r.1.length c0 30 9 (r.1.flatMap Ag),.r A2 r.2.length c2 30 9 (r.2.flatMap Ag)]/\True):=⟨by
 rintro K _ r ⟨U0,E0,rfl,ha0,-⟩ hx w hK;replace ha0:=ha0.lo hK;unfold Qz at hx;refine CtS ntmps96 results96 ?_;refine pq ?_;intros;rename_i hx
 refine pA ?_;intros;rename_i hx
 apply Jr (γ:=OA×Nat×OA×Nat) hx [] (fun s2 y2 f=>(4,.slice y2.1 s2.1.length y2.2.1)::(5,.slice y2.2.2.1 s2.2.length y2.2.2.2)::f) [999] (fun s2 y2 l=>.r y2.1 s2.1.length y2.2.1 30 9 (s2.1.flatMap Ag) :: .r y2.2.2.1 s2.2.length y2.2.2.2 30 9 (s2.2.flatMap Ag)::l);exact kk
 .exact aI
 .refine pI ?_;intros;rename_i hx
  refine Ba 30 9 ?_;refine Ba 30 9 ?_;apply Lr (γ:=OA×Nat×OA×Nat) hx [0,3,8,9] (fun s0 y0 f=>(4,.slice y0.1 s0.1.length y0.2.1)::(5,.slice y0.2.2.1 s0.2.1.length y0.2.2.2)::(10,.int .i64 s0.2.2)::f) [2,999] (fun s0 y0 l=>.r y0.1 s0.1.length y0.2.1 30 9 (s0.1.flatMap Ag) :: .r y0.2.2.1 s0.2.1.length y0.2.2.2 30 9 (s0.2.1.flatMap Ag)::l) (_,_,_,_);exact kk;exact sk;intro s0 y0 x0 hx _;unfold Ns at hx;exact au⟩
instance Ak3(p0:Int)(p1:Int):Con (Tk p0 p1) prog 121 (fun _ vs=>vs=[.int .i64 p0,.int .i64 p1]) (fun _ r v Ln=>v=.int .i64 r/\Ln=[]/\True):=⟨by
 rintro _ _ r rfl hx w hK;unfold Tk at hx;refine CtS ntmps121 results121 ?_;exact au⟩
theorem Ac4(p0:Int)(p1:Int){r:Int}(hx:Tk p0 p1=some r)(w:World):CtL prog 121 [.int .i64 p0,.int .i64 p1] w fun v Ln=>v=.int .i64 r/\Ln=[]/\True:=(Ak3 p0 p1).h [] _ _ rfl hx w (fun _ h=>absurd h List.not_mem_nil)
instance(p0:Ab)(p1:Ab)(p2:Ab):Con (Vi p0 p1 p2) prog 169 (fun _ vs=>vs=[.agg #[.int .i64 p0.X,.int .i64 p0.Y],.agg #[.int .i64 p1.X,.int .i64 p1.Y],.agg #[.int .i64 p2.X,.int .i64 p2.Y]]) (fun _ r v Ln=>v=.int .i64 r/\Ln=[]/\True):=⟨by
 rintro _ _ r rfl hx w hK;unfold Vi at hx;refine CtS ntmps169 results169 ?_;exact au⟩
instance(p0:Ab)(p1:Ab)(p2:Ab):Con (Ac3 p0 p1 p2) prog 118 (fun _ vs=>vs=[.agg #[.int .i64 p0.X,.int .i64 p0.Y],.agg #[.int .i64 p1.X,.int .i64 p1.Y],.agg #[.int .i64 p2.X,.int .i64 p2.Y]]) (fun _ r v Ln=>v=.bool r/\Ln=[]/\True):=⟨by
 rintro _ _ r rfl hx w hK;unfold Ac3 at hx;refine CtS ntmps118 results118 ?_;exact au⟩
instance(p0:Ab)(p1:Ab)(p2:Ab):Con (Uy p0 p1 p2) prog 119 (fun _ vs=>vs=[.agg #[.int .i64 p0.X,.int .i64 p0.Y],.agg #[.int .i64 p1.X,.int .i64 p1.Y],.agg #[.int .i64 p2.X,.int .i64 p2.Y]]) (fun _ r v Ln=>v=.bool r/\Ln=[]/\True):=⟨by
 rintro _ _ r rfl hx w hK;unfold Uy at hx;refine CtS ntmps119 results119 ?_;exact au⟩
instance(p0:List Ab)(p1:Ab):Con (Rc p0 p1) prog 67 (fun K vs=>∃U0 E0,vs=[.slice U0 p0.length E0,.agg #[.int .i64 p1.X,.int .i64 p1.Y]]/\Has K U0 p0.length E0 2 Fh p0/\True) (fun _ r v Ln=>v=.bool r/\Ln=[]/\True):=⟨by
 rintro K _ r ⟨U0,E0,rfl,ha0,-⟩ hx w hK;replace ha0:=ha0.lo hK;unfold Rc at hx;refine CtS ntmps67 results67 ?_;refine pq ?_;intros;rename_i hx
 apply Jr (γ:=Unit) hx [] (fun s4 y4 f=>(5,.bool s4)::f) [999] (fun s4 y4 l=>l);exact kk
 .exact aI
 .refine pI ?_;intros;rename_i hx
  apply Lr (γ:=Nat) hx [3,15,16] (fun s44 y44 f=>(5,.bool s44.1)::(6,.pointer (some ⟨y44,0,none⟩))::(17,.int .i64 s44.2.2.2)::f) [1,999] (fun s44 y44 l=>.m y44 57 [.int .i64 s44.2.1,.int .i64 s44.2.2.1]::l) _;exact kk;exact sk;intro s44 y44 x44 hx _;unfold Nt at hx;exact au⟩
instance(p0:List Ab):Con (Nu p0) prog 65 (fun K vs=>∃U0 E0,vs=[.slice U0 p0.length E0]/\Has K U0 p0.length E0 2 Fh p0/\True) (fun _ r v Ln=>v=.bool r/\Ln=[]/\True):=⟨by
 rintro K _ r ⟨U0,E0,rfl,ha0,-⟩ hx w hK;replace ha0:=ha0.lo hK;unfold Nu at hx;refine CtS ntmps65 results65 ?_;refine pq ?_;intros;rename_i hx
 refine Cq4 (s:=8) hx rfl ?_ ?_
 .exact aI
 .refine pI ?_;intros;rename_i hx
  apply Jr (γ:=Unit) hx [] (fun s5 y5 f=>f) [999] (fun s5 y5 l=>l);exact kk
  .exact aI
  .refine pI ?_;intros;rename_i hx
   apply Lr (γ:=Unit) hx [9,10] (fun s29 y29 f=>(11,.int .i64 s29)::f) [999] (fun s29 y29 l=>l) ();exact kk;exact sk;intro s29 y29 x29 hx _;unfold Mz at hx;exact au⟩
instance(p0:List Ab)(p1:Ab):Con (Iz p0 p1) prog 29 (fun K vs=>∃U0 E0,vs=[.slice U0 p0.length E0,.agg #[.int .i64 p1.X,.int .i64 p1.Y]]/\Has K U0 p0.length E0 2 Fh p0/\True) (fun _ r v Ln=>v=.tuple #[.bool r.1,.int .i64 r.2]/\Ln=[]/\True):=⟨by
 rintro K _ r ⟨U0,E0,rfl,ha0,-⟩ hx w hK;replace ha0:=ha0.lo hK;unfold Iz at hx;refine CtS ntmps29 results29 ?_;exact au⟩
theorem Aqd:Zp prog 41:=.mk underlying41 rfl (kr:prog.info? 41=some t41) kr
instance:OneI prog 41:=⟨Aqd⟩
theorem Bej:Zp prog 98:=.mk underlying98 rfl (kr:prog.info? 98=some t98) kr
instance:OneI prog 98:=⟨Bej⟩
theorem Abg(x0:Int)(x1:Int):Ov prog 58 1 [(0,.agg #[.int .i64 x0,.int .i64 x1])] 57 [.int .i64 x0,.int .i64 x1]:=fun w=>kr
instance(x0:Int)(x1:Int):Oo prog 58 1 [(0,.agg #[.int .i64 x0,.int .i64 x1])] 57 [.int .i64 x0,.int .i64 x1]:=⟨Abg _ _⟩
theorem Bek:Ab4 prog 58 57 2 16:=⟨underlying58,⟨t57,.agg #[.int .i64 0,.int .i64 0],kr,kr,kr,kr,rfl⟩,dD⟩
instance:Ad9 prog 58 57 2 16:=⟨Bek⟩
def Ed(x:Ab):Value:=.agg #[.int .i64 x.X,.int .i64 x.Y]
theorem Wg(x y:Ab)(h:Ed x=Ed y):x=y:=by
 rcases x with⟨_,_⟩;rcases y with⟨_,_⟩;simp[Ed] at h;simp[h]
instance(x:Ab):UnfI Ed x (.agg #[.int .i64 x.X,.int .i64 x.Y]):=⟨rfl⟩
instance(x0:Int)(x1:Int):Abe Ed (.agg #[.int .i64 x0,.int .i64 x1]) (⟨x0,x1⟩):=⟨rfl⟩
instance:ValI prog 57 Ed ((⟨0,0⟩:Ab)):=⟨Wg,fun w=>kr⟩
theorem Aqe:laidOutB prog=true:=kr
theorem Bgi:(match prog.underlying 57 with|some (.array _ _)|some (.struct _)=>true|_=>false)=true:=kr
theorem Aun:Maps.Keyed prog 57:=Maps.Keyed.of_law (deep_law_laid Aqe (m:=3) oo (of_decide_eq_true kr) kr Bgi)
theorem Auo(x:Ab)(h:(-9223372036854775808<=x.X/\x.X<=9223372036854775807)/\(-9223372036854775808<=x.Y/\x.Y<=9223372036854775807)):(keyOf prog 57 (Ed x)).isSome=true:=by
 refine Aqt (cs:=[.int .i64 x.X,.int .i64 x.Y]) (d:=333) kr underlying57 kr kr kr (fun f hf=>?_);simp only[List.mem_cons,List.not_mem_nil,or_false] at hf;rcases hf with rfl|rfl
 .exact⟨.i64,x.X,underlying3,kr,Aiz h.1⟩
 .exact⟨.i64,x.Y,underlying3,kr,Aiz h.2⟩
instance:KeyI prog 57 Ed (fun x=>(-9223372036854775808<=x.X/\x.X<=9223372036854775807)/\(-9223372036854775808<=x.Y/\x.Y<=9223372036854775807)):=⟨Aun,Wg,Auo⟩
instance:UndI prog 201 (.map 57 30):=⟨underlying201⟩
def By(x:Aa):Value:=.agg #[.int .i64 x.Id,.int .i64 x.X,.int .i64 x.Y,.int .i64 x.Z.Lo,.int .i64 x.Z.Hi,.int .i64 x.Wide,.int .i64 x.Num,.int .i64 x.Of,.int .i64 x.Class]
theorem Ah5(x y:Aa)(h:By x=By y):x=y:=by
 rcases x with⟨_,_,_,⟨_,_⟩,_,_,_,_⟩;rcases y with⟨_,_,_,⟨_,_⟩,_,_,_,_⟩;simp[By] at h;simp[h]
instance(x:Aa):UnfI By x (.agg #[.int .i64 x.Id,.int .i64 x.X,.int .i64 x.Y,.int .i64 x.Z.Lo,.int .i64 x.Z.Hi,.int .i64 x.Wide,.int .i64 x.Num,.int .i64 x.Of,.int .i64 x.Class]):=⟨rfl⟩
instance(x0:Int)(x1:Int)(x2:Int)(x3:Int)(x4:Int)(x5:Int)(x6:Int)(x7:Int)(x8:Int):Abe By (.agg #[.int .i64 x0,.int .i64 x1,.int .i64 x2,.int .i64 x3,.int .i64 x4,.int .i64 x5,.int .i64 x6,.int .i64 x7,.int .i64 x8]) (⟨x0,x1,x2,⟨x3,x4⟩,x5,x6,x7,x8⟩):=⟨rfl⟩
instance:ValI prog 30 By ((⟨0,0,0,(⟨0,0⟩:Av),0,0,0,0⟩:Aa)):=⟨Ah5,fun w=>kr⟩
noncomputable def Ks(p1:List Aa)(ky:Aa->Option Ab):((List (Ab×Aa))×List Ab×Int)->Option (Sum ((List (Ab×Aa))×List Ab×Int) ((List (Ab×Aa))×List Ab)):=fun s0=>
 if s0.2.2<(p1.length:Int) then (jn (fun (s1:(List (Ab×Aa))×List Ab)=>
 some (.inl (s1.1,s1.2,w64 (s0.2.2+1))))
 (fun j0=>bnd (idx p1 s0.2.2) fun x0=>
 bnd (ky x0) fun x1=>
 gd ((-9223372036854775808<=x1.X/\x1.X<=9223372036854775807)/\(-9223372036854775808<=x1.Y/\x1.Y<=9223372036854775807))<|
 bnd (some ((mget s0.1 x1).getD ((⟨0,0,0,(⟨0,0⟩:Av),0,0,0,0⟩:Aa)))) fun x2=>
 jn (fun (s2:List Ab)=>
 jn (fun (s3:Bool)=>
 if s3=true then (gd ((-9223372036854775808<=x1.X/\x1.X<=9223372036854775807)/\(-9223372036854775808<=x1.Y/\x1.Y<=9223372036854775807))<|
 gd (s0.1.length<9223372036854775807)<|
 j0 (mput s0.1 x1 x0,s2))
 else (j0 (s0.1,s2)))
 (fun j1=>if ((mget s0.1 x1).isSome)=true then (bnd (Th x0 x2) fun r0=>
 j1 r0)
 else (j1 true)))
 (fun j2=>if ((mget s0.1 x1).isSome)=true then (j2 s0.2.1)
 else (gd ((s0.2.1.length+1)*16<=140737488355328)<|
 j2 (s0.2.1++[x1])))))
 else (some (.inr (s0.1,s0.2.1)))
noncomputable def Jm{σ:Type}(s3:(List (Ab×Aa))×List Ab)(st:σ->Aa->Option σ):(σ×Int)->Option (Sum (σ×Int) σ):=fun s0=>
 if s0.2<(s3.2.length:Int) then (bnd (idx s3.2 s0.2) fun x0=>
 gd ((-9223372036854775808<=x0.X/\x0.X<=9223372036854775807)/\(-9223372036854775808<=x0.Y/\x0.Y<=9223372036854775807))<|
 bnd (some ((mget s3.1 x0).getD ((⟨0,0,0,(⟨0,0⟩:Av),0,0,0,0⟩:Aa)))) fun x1=>
 bnd (st s0.1 x1) fun x2=>
 some (.inl (x2,w64 (s0.2+1))))
 else (some (.inr s0.1))
noncomputable def Lv{σ:Type}(ky:Aa->Option Ab)(st:σ->Aa->Option σ)(p1:List Aa)(ys:σ):Option σ :=
 jn (fun (s3:(List (Ab×Aa))×List Ab)=>
 bnd (lfix (Jm s3 st) (ys,0)) fun t0=>
 some t0)
 (fun j3=>bnd (lfix (Ks p1 ky) (([]:List (Ab×Aa)),([]:List Ab),0)) fun t1=>
 j3 t1)
noncomputable def Pg(p0:Aa)(p1:Af):Option Ab :=
 bnd (Tk p0.X p1.Cell) fun r3=>
 bnd (Tk p0.Y p1.Cell) fun r6=>
 some (⟨r3,r6⟩:Ab)
theorem Yb{σ:Type}(ky:Aa->Option Ab)(st:σ->Aa->Option σ)(p1:List Aa)(ys:σ){kv:Value}{l:Nat}{Inv:σ->Ent->Prop}{ye:Ent}{K:LE}{U0:OA}{E0:Nat}(ha0:Has K U0 p1.length E0 9 Ag p1){g0_1:Nat}{g0_2:Nat}(hp1:Pt K g0_1 0 [.slice U0 p1.length E0])(hp2:Pt K g0_2 0 [kv])(hkey:Ab9 prog K kv By Ed ky)(hy:∀s x s' e,st s x=some s'->Inv s e->Alx prog l [By x] e (Inv s'))(hi0:Inv ys ye){r:σ}(hx:Lv ky st p1 ys=some r):CtK prog 170 [.func (.yield l) #[] #[],.pointer (some ⟨g0_1,0,none⟩),.pointer (some ⟨g0_2,0,none⟩)] K [ye] (fun _ Ln=>∃e,Ln=[e]/\Inv r e):=by
 have ha0':=Has.up0 ha0;have hp1':=Pt.up0 hp1;have hp2':=Pt.up0 hp2;refine CtK.mk 59 func170 rfl ntmps170 kr rfl ?_;intro Lf hKf;show T 59 _ [(0,.func (.yield l) #[] #[]),(1,.pointer (some ⟨g0_1,0,none⟩)),(2,.pointer (some ⟨g0_2,0,none⟩))] ([ye]++Lf);unfold Lv at hx;refine Y2 ?_;refine T_x (Ahq prog 57 Ed By rfl (fun g1=>?_));refine Y8 ?_;refine Tj (γ:=OA×Nat) hx (fun s3 y3=>[(0,.func (.yield l) #[] #[]),(4,.map (some g1)),(5,.slice y3.1 s3.2.length y3.2)]) (fun s3 y3=>[.r y3.1 s3.2.length y3.2 57 2 (s3.2.flatMap Fh),Bg prog 57 Ed By g1 s3.1,ye]++Lf) (fun s3 y3=>True) (fun s3 y3 hx0 hG0=>?_) (fun j3 hx=>?_)
 .refine Y3 ?_;refine Dg (Aap rfl 57 underlying58) rfl ?_;refine Y4 ?_;obtain⟨t0,hl0,ho0⟩:=Bk hx0;refine Lp (σ:=σ×Int) (γ:=Ent) hl0 (fun s0 y0=>[(0,.func (.yield l) #[] #[]),(4,.map (some g1)),(46,.slice y3.1 s3.2.length y3.2),(47,.int .i64 (s3.2.length:Int)),(48,.int .i64 s0.2)]) (fun s0 y0=>[.r y3.1 s3.2.length y3.2 57 2 (s3.2.flatMap Fh),Bg prog 57 Ed By g1 s3.1,y0]++Lf) (fun s0 y0=>Inv s0.1 y0/\True) ye ((by exact⟨hi0,trivial⟩)) (by exact .pick 0 rfl (.pick 0 rfl (.pick 0 rfl (.refl)))) ?_;intro s0 y0 hG1 x0 hx1 ht0;unfold Jm at hx1;obtain⟨hi138,-⟩:=hG1;refine Y6 ?_;refine Ti hx1 (s:=49) rfl (fun h0 hx2=>?_) (fun h0 hx3=>?_)
  .refine Y7 ?_;obtain⟨x1,h1,hx4⟩:=Bk hx2;refine Axm (k:=0) rfl dD (fun _=>rfl) h1 (fun b0 j0 hA0 hj0 hl1 hm0 hp0=>?_);refine Dg (Uv rfl rfl hA0 (j:=j0) hj0 hl1 Beh) rfl ?_;refine Dg (Ab2 rfl hp0 (sb 0) rfl Aea) rfl ?_;refine T_x (Uw Auj rfl (fun g0=>?_));refine T_h (Tg rfl rfl rfl (.here) (.put (.put (.done))) rfl (List.cons_ne_nil _ _) Aea.2 ?_);refine Y3 ?_;refine Bfo ?_;refine Tx (Ab1 rfl) rfl ?_;refine Tx (Ab1 rfl) rfl ?_;refine Tx (Uu rfl (i:=0) rfl rfl Aea) rfl ?_;obtain⟨h2,hx5⟩:=Em hx4;obtain⟨x2,h3,hx6⟩:=Bk hx5;refine Tx (Apl (x:=x1) (i:=2) (vv:=.agg #[.int .i64 x2.Id,.int .i64 x2.X,.int .i64 x2.Y,.int .i64 x2.Z.Lo,.int .i64 x2.Z.Hi,.int .i64 x2.Wide,.int .i64 x2.Num,.int .i64 x2.Of,.int .i64 x2.Class]) Aun underlying201 (fun w=>kr) Wg rfl rfl rfl rfl Vo (Auo x1 h2) h3 rfl) rfl ?_;obtain⟨x3,h4,hx7⟩:=Bk hx6;refine Bcn (i:=3) rfl rfl rfl (hy _ _ _ _ h4 hi138) rfl (fun e0 hi163=>?_);refine Tx (Asi rfl) rfl ?_;refine Bfn ?_;refine Y9 ?_;exact Rp (x3,w64 (s0.2+1)) e0 hx7 ((by exact⟨hi163,trivial⟩)) (by exact .pick 2 rfl (.pick 2 rfl (.pick 0 rfl (.drop 0 rfl (.refl)))))
  .refine Y3 ?_;obtain rfl:=Zw ht0 hx3;refine Y2 ?_;obtain rfl:=oI ho0;exact Axq (rs:=[]) results170 (.nil) (Ln:=[y0]) ⟨y0,rfl,hi138⟩ (by exact .pick 2 rfl (.drop 0 rfl (.drop 0 rfl (.refl))))
 .refine Y2 ?_;refine Dg (Sc rfl hp1' (SubE.appC (SubE.tail (SubE.tail hKf)) SubE.nil) rfl Aqd) rfl ?_;refine Dg (Aap rfl 30 underlying41) rfl ?_;refine Y4 ?_;obtain⟨t1,hl2,ho1⟩:=Bk hx;refine Ba 57 2 ?_;have hn0:0=(([]:List Ab)).length:=by simp[Fn,Amp,List.length_append] <;> omega
  refine An7 (.here) (e':=.r none ((([]:List Ab)).length) 0 57 2 ((([]:List Ab)).flatMap Fh)) (by first|(rw[<-hn0];done)|rfl) ?_;refine Lp (σ:=(List (Ab×Aa))×List Ab×Int) (γ:=OA×Nat) hl2 (fun s1 y1=>[(0,.func (.yield l) #[] #[]),(2,.pointer (some ⟨g0_2,0,none⟩)),(4,.map (some g1)),(5,.slice y1.1 s1.2.1.length y1.2),(14,.slice U0 p1.length E0),(15,.int .i64 (p1.length:Int)),(16,.int .i64 s1.2.2)]) (fun s1 y1=>[.r y1.1 s1.2.1.length y1.2 57 2 (s1.2.1.flatMap Fh),Bg prog 57 Ed By g1 s1.1,ye]++Lf) (fun s1 y1=>True) (none,0) trivial (by exact .pick 0 rfl (.pick 0 rfl (.pick 0 rfl (.refl)))) ?_;intro s1 y1 hG2 x4 hx8 ht1;unfold Ks at hx8;refine Y6 ?_;refine Ti hx8 (s:=17) rfl (fun h5 hx9=>?_) (fun h5 hx59=>?_)
  .refine Y3 ?_;refine Tj (γ:=OA×Nat) hx9 (fun s2 y2=>[(0,.func (.yield l) #[] #[]),(2,.pointer (some ⟨g0_2,0,none⟩)),(4,.map (some g1)),(5,.slice y2.1 s2.2.length y2.2),(14,.slice U0 p1.length E0),(15,.int .i64 (p1.length:Int)),(16,.int .i64 s1.2.2)]) (fun s2 y2=>[.r y2.1 s2.2.length y2.2 57 2 (s2.2.flatMap Fh),Bg prog 57 Ed By g1 s2.1,ye]++Lf) (fun s2 y2=>True) (fun s2 y2 hx10 hG3=>?_) (fun j1 hx9=>?_)
   .refine Y4 ?_;exact Rp (s2.1,s2.2,w64 (s1.2.2+1)) (y2.1,y2.2) hx10 trivial (by exact .pick 0 rfl (.pick 0 rfl (.pick 0 rfl (.refl))))
   .refine Y3 ?_;obtain⟨x5,h6,hx62⟩:=Bk hx9;obtain⟨b1,o0,j2,hA1,hj1,hl3,hp3⟩:=Has.at_idx ha0' h6;refine Dg (Uv rfl rfl hA1 (j:=j2) hj1 hl3 Aum) rfl ?_;refine Dg (Ab2 rfl hp3 (SubE.appC (SubE.tail (SubE.tail (SubE.tail hKf))) SubE.nil) rfl Ac2) rfl ?_;refine T_x (Uw Aqc rfl (fun g2=>?_));refine T_h (Tg rfl rfl rfl (.here) (.put (.put (.put (.put (.put (.put (.put (.put (.put (.done)))))))))) rfl (List.cons_ne_nil _ _) Ac2.2 ?_);refine Y4 ?_;refine Dg (Sc rfl hp2' (SubE.appC (SubE.tail (SubE.tail (SubE.tail (SubE.tail hKf)))) SubE.nil) rfl Bej) rfl ?_;refine Dg (Uu rfl (i:=0) rfl rfl Ac2) rfl ?_;obtain⟨x6,h7,hx73⟩:=Bk hx62;refine T_x (Ars (u:=x5) hkey rfl rfl h7 (SubE.tail (SubE.tail (SubE.tail (SubE.tail hKf)))) rfl ?_);refine T_x (Uw Auj rfl (fun g3=>?_));refine T_h (Tg rfl rfl rfl (.here) (.put (.put (.done))) rfl (List.cons_ne_nil _ _) Aea.2 ?_);refine Y5 ?_;refine Dg (Uu rfl (i:=0) rfl rfl Aea) rfl ?_;obtain⟨h8,hx76⟩:=Em hx73;obtain⟨x7,h9,hx79⟩:=Bk hx76;refine Dg (Aew (x:=x6) (i:=3) (vv:=.agg #[.int .i64 x7.Id,.int .i64 x7.X,.int .i64 x7.Y,.int .i64 x7.Z.Lo,.int .i64 x7.Z.Hi,.int .i64 x7.Wide,.int .i64 x7.Num,.int .i64 x7.Of,.int .i64 x7.Class]) Aun underlying201 (fun w=>kr) Wg rfl rfl rfl rfl Vo (Auo x6 h8) h9 rfl) rfl ?_;refine Y3 ?_;refine T_x (Uw Aqc rfl (fun g4=>?_));refine T_h (Tg rfl rfl rfl (.here) (.put (.put (.put (.put (.put (.put (.put (.put (.put (.done)))))))))) rfl (List.cons_ne_nil _ _) Ac2.2 ?_);refine Y3 ?_;refine Tj (γ:=OA×Nat) hx79 (fun s4 y4=>[(0,.func (.yield l) #[] #[]),(2,.pointer (some ⟨g0_2,0,none⟩)),(4,.map (some g1)),(5,.slice y4.1 s4.length y4.2),(7,.pointer (some ⟨g2,0,none⟩)),(8,.pointer (some ⟨g3,0,none⟩)),(9,.pointer (some ⟨g4,0,none⟩)),(10,.bool ((mget s1.1 x6).isSome)),(14,.slice U0 p1.length E0),(15,.int .i64 (p1.length:Int)),(16,.int .i64 s1.2.2)]) (fun s4 y4=>[.m g4 30 [.int .i64 x7.Id,.int .i64 x7.X,.int .i64 x7.Y,.int .i64 x7.Z.Lo,.int .i64 x7.Z.Hi,.int .i64 x7.Wide,.int .i64 x7.Num,.int .i64 x7.Of,.int .i64 x7.Class],.m g3 57 [.int .i64 x6.X,.int .i64 x6.Y],.m g2 30 [.int .i64 x5.Id,.int .i64 x5.X,.int .i64 x5.Y,.int .i64 x5.Z.Lo,.int .i64 x5.Z.Hi,.int .i64 x5.Wide,.int .i64 x5.Num,.int .i64 x5.Of,.int .i64 x5.Class],.r y4.1 s4.length y4.2 57 2 (s4.flatMap Fh),Bg prog 57 Ed By g1 s1.1,ye]++Lf) (fun s4 y4=>True) (fun s4 y4 hx89 hG4=>?_) (fun j4 hx79=>?_)
    .refine Tj (γ:=Unit) hx89 (fun s5 y5=>[(0,.func (.yield l) #[] #[]),(2,.pointer (some ⟨g0_2,0,none⟩)),(4,.map (some g1)),(5,.slice y4.1 s4.length y4.2),(7,.pointer (some ⟨g2,0,none⟩)),(8,.pointer (some ⟨g3,0,none⟩)),(14,.slice U0 p1.length E0),(15,.int .i64 (p1.length:Int)),(16,.int .i64 s1.2.2),(41,.bool s5)]) (fun s5 y5=>[.m g3 57 [.int .i64 x6.X,.int .i64 x6.Y],.m g2 30 [.int .i64 x5.Id,.int .i64 x5.X,.int .i64 x5.Y,.int .i64 x5.Z.Lo,.int .i64 x5.Z.Hi,.int .i64 x5.Wide,.int .i64 x5.Num,.int .i64 x5.Of,.int .i64 x5.Class],.r y4.1 s4.length y4.2 57 2 (s4.flatMap Fh),Bg prog 57 Ed By g1 s1.1,ye]++Lf) (fun s5 y5=>True) (fun s5 y5 hx97 hG5=>?_) (fun j5 hx89=>?_)
     .refine Zt (s:=41) rfl (fun h99=>?_) (fun h99=>?_)
      .have hx11:=Yv h99 hx97;refine Y3 ?_;refine Dg (Uu rfl (i:=0) rfl rfl Aea) rfl ?_;refine Dg (Uu rfl (i:=1) rfl rfl Ac2) rfl ?_;obtain⟨h10,hx12⟩:=Em hx11;obtain⟨h11,hx13⟩:=Em hx12;refine T_h (Aex (x:=x6) (y:=x5) Aun Wg underlying201 rfl rfl rfl rfl rfl (.there (.there (.there (.here)))) (Auo x6 h10) h11 ?_);refine Y2 ?_;exact Mt (mput s1.1 x6 x5,s4) (y4.1,y4.2) hx13 trivial (by exact .pick 2 rfl (.pick 2 rfl (.pick 2 rfl (.drop 0 rfl (.drop 0 rfl (.refl))))))
      .have hx14:=Aeb h99 hx97;refine Y3 ?_;exact Mt (s1.1,s4) (y4.1,y4.2) hx14 trivial (by exact .pick 2 rfl (.pick 2 rfl (.pick 2 rfl (.drop 0 rfl (.drop 0 rfl (.refl))))))
     .refine Y4 ?_;refine Afc (s:=37) rfl (fun h91=>?_) (fun h91=>?_)
      .have hx92:=Aeb h91 hx89;refine Y5 ?_;exact Mt true () hx92 trivial (by exact .pick 1 rfl (.pick 1 rfl (.pick 1 rfl (.pick 1 rfl (.pick 1 rfl (.drop 0 rfl (.refl)))))))
      .have hx93:=Yv h91 hx89;refine Ae4 rfl rfl rfl (Uu rfl (i:=2) rfl rfl Ac2) rfl ?_;refine Ae4 rfl rfl rfl (Uu rfl (i:=0) rfl rfl Ac2) rfl ?_;obtain⟨r0,h95,hx96⟩:=Bk hx93;refine T_xG rfl rfl rfl (Ux rfl (fun w1 hw1=>Ako x5 x7  h95 w1) rfl ?_);rintro _ _ hlo ⟨rfl,rfl,-⟩;refine Aqq ?_;refine Y2 ?_;exact Mt r0 () hx96 trivial (by exact .pick 1 rfl (.pick 1 rfl (.pick 1 rfl (.pick 1 rfl (.pick 1 rfl (.drop 0 rfl (.refl)))))))
    .refine Y6 ?_;refine Afc (s:=30) rfl (fun h81=>?_) (fun h81=>?_)
     .have hx82:=Aeb h81 hx79;refine Y3 ?_;refine Dg (Uu rfl (i:=1) rfl rfl Aea) rfl ?_;refine T_x (Iy rfl (Abg _ _) rfl (fun g5=>?_));obtain⟨h84,hx85⟩:=Em hx82;refine T_h (Wn Fh s1.2.1 [x6] rfl rfl rfl Bek (fun _=>rfl) (i':=0) rfl rfl rfl rfl h84 rfl (fun _ _=>.there (.there (.there (.there (.here))))) (fun _ _=>.drop .refl) dD (fun A0 c0=>?_));refine Y2 ?_;exact Mt (s1.2.1++[x6]) (A0,c0) hx85 trivial (by exact .pick 0 rfl (.pick 0 rfl (.pick 0 rfl (.pick 0 rfl (.pick 0 rfl (.pick 0 rfl (.refl)))))))
     .have hx88:=Yv h81 hx79;refine Y2 ?_;exact Mt s1.2.1 (y1.1,y1.2) hx88 trivial (by exact .pick 0 rfl (.pick 0 rfl (.pick 0 rfl (.pick 0 rfl (.pick 0 rfl (.pick 0 rfl (.refl)))))))
  .refine Y3 ?_;obtain rfl:=Zw ht1 hx59;refine Y2 ?_;exact Mt (s1.1,s1.2.1) (y1.1,y1.2) ho1 trivial (by exact .pick 0 rfl (.pick 0 rfl (.pick 0 rfl (.refl))))
theorem Agy(p0:Aa)(p1:Af){K:LE}{g0_1:Nat}(hp1:Pt K g0_1 0 [.int .i64 p1.Cell,.int .i64 p1.Reach,.int .i64 p1.Slope,.int .i64 p1.Link,.int .i64 p1.Flat,.int .i64 p1.Tall,.int .i64 p1.High,.int .i64 p1.Low,.int .i64 p1.Brush,.int .i64 p1.Few]){r:Ab}(hx:Pg p0 p1=some r)(w:World)(hK:∀e∈K,Ent.ok w e):CtL prog 120 [.agg #[.int .i64 p0.Id,.int .i64 p0.X,.int .i64 p0.Y,.int .i64 p0.Z.Lo,.int .i64 p0.Z.Hi,.int .i64 p0.Wide,.int .i64 p0.Num,.int .i64 p0.Of,.int .i64 p0.Class],.pointer (some ⟨g0_1,0,none⟩)] w fun v Ln=>v=.agg #[.int .i64 r.X,.int .i64 r.Y]/\Ln=[]/\True:=by
 have hp1':=Pt.low (E:=[]) (Pt.up0 hp1) hK;refine CtL.mk 15 func120 rfl ntmps120 kr rfl ?_;show T 15 _ [(0,.agg #[.int .i64 p0.Id,.int .i64 p0.X,.int .i64 p0.Y,.int .i64 p0.Z.Lo,.int .i64 p0.Z.Hi,.int .i64 p0.Wide,.int .i64 p0.Num,.int .i64 p0.Of,.int .i64 p0.Class]),(1,.pointer (some ⟨g0_1,0,none⟩))] _;unfold Pg at hx;refine Y2 ?_;refine T_x (Ab3 rfl rfl rfl (fun g1=>?_));refine T_x (Uw Auj rfl (fun g2=>?_));refine Y3 ?_;refine T_dr [0,1,0,1,2,0,1,0,1,2,0,3] (.q 0 (.q 1 (.q 2 (.q 3 (.q 5 (.q 6 (.q 7 (.q 8 (.e 4 (.e 9 (.q 10 (.e 11 (.done) (.stop))) (.stop)) (.stop)))))))))) mixed kr kr ?_;refine P_p rfl rfl (Ut rfl Auk rfl) rfl ?_;refine P_q rfl rfl (Rx rfl (i:=1) rfl rfl one3) rfl ?_;refine P_p rfl rfl (Ut rfl An1 rfl) rfl ?_;refine P_q rfl rfl (Xa (d:=0) rfl hp1' (sb 2) rfl one3) rfl ?_;refine P_p rfl rfl (Ut rfl Aul rfl) rfl ?_;refine P_q rfl rfl (Rx rfl (i:=1) rfl rfl one3) rfl ?_;refine P_p rfl rfl (Ut rfl An1 rfl) rfl ?_;refine P_q rfl rfl (Xa (d:=0) rfl hp1' (sb 2) rfl one3) rfl ?_;obtain⟨r3,h4,hx5⟩:=Bk hx;refine Pc (fun w1 hw1=>Ac4 p0.X p1.Cell  h4 w1) ?_;obtain⟨r6,h7,hx8⟩:=Bk hx5;refine Pc (fun w1 hw1=>Ac4 p0.Y p1.Cell  h7 w1) ?_;refine P_p rfl rfl (Akl rfl (Ac1 _ _)) rfl ?_;refine P_h rfl rfl (Tg rfl rfl rfl (.here) (.put (.put (.done))) rfl (List.cons_ne_nil _ _) Aea.2 ?_) ?_
 rotate_left;exact Aag;refine Y3 ?_;obtain rfl:=oI hx8;exact Pr (rs:=[.cell 3 57]) results120 (.cell rfl (i:=0) rfl rfl Aea (.nil)) (Ln:=[]) ⟨rfl,rfl,trivial⟩ Gg (by exact .drop 0 rfl (.drop 0 rfl (.refl)))
end Go.Proofs.YthlkpgdfifnagaaGreat
namespace Go.Proofs
open Go.Shelf Tryz
theorem lk0{α:Type _}{a b:α}(h:a=b:=by kernel_rfl):some a=some b:=congrArg some h
def Tryz.laysSort2_ren:Go.Shelf.Ren:=⟨fun|6=>176|15=>113|14=>233|28=>166|29=>167|20=>270|21=>271|22=>272|23=>273|24=>274|25=>275|26=>276|27=>277|46=>305|47=>226|48=>227|49=>306|50=>307|57=>321|n=>n,fun|22=>24|24=>103|25=>207|3=>3|39=>144|0=>0|53=>199|55=>167|4=>4|46=>192|45=>191|50=>196|5=>5|9=>9|66=>242|70=>246|76=>270|77=>165|n=>n,fun|n=>n⟩
theorem Tryz.laysSort2:Go.Proofs.SlLaysF0.n6 prog laysSort2_ren:={
 mixed:=by kernel_rfl
 f6:=⟨f176.name,by decide,func176.trans lk0⟩
 f14:=⟨f233.name,by decide,func233.trans lk0⟩
 f15:=func113.trans lk0
 f20:=⟨f270.name,by decide,func270.trans lk0⟩
 f21:=⟨f271.name,by decide,func271.trans lk0⟩
 f22:=⟨f272.name,by decide,func272.trans lk0⟩
 f23:=⟨f273.name,by decide,func273.trans lk0⟩
 f24:=⟨f274.name,by decide,func274.trans lk0⟩
 f25:=⟨f275.name,by decide,func275.trans lk0⟩
 f26:=⟨f276.name,by decide,func276.trans lk0⟩
 f27:=⟨f277.name,by decide,func277.trans lk0⟩
 f28:=func166.trans lk0
 f29:=func167.trans lk0
 f46:=⟨f305.name,by decide,func305.trans lk0⟩
 f47:=func226.trans lk0
 f48:=func227.trans lk0
 f49:=⟨f306.name,by decide,func306.trans lk0⟩
 f50:=⟨f307.name,by decide,func307.trans lk0⟩
 f57:=⟨f321.name,by decide,func321.trans lk0⟩
 t0:=underlying0
 a0:=isAgg0
 z0:=sizeOf0
 v0:=zeroValue0
 t3:=underlying3
 a3:=isAgg3
 z3:=sizeOf3
 v3:=zeroValue3
 t4:=underlying4
 a4:=isAgg4
 z4:=sizeOf4
 v4:=zeroValue4
 t5:=underlying5
 a5:=isAgg5
 z5:=sizeOf5
 v5:=zeroValue5
 t9:=underlying9
 a9:=isAgg9
 z9:=sizeOf9
 v9:=zeroValue9
 t22:=underlying24
 a22:=isAgg24
 z22:=sizeOf24
 v22:=zeroValue24
 t25:=underlying207
 a25:=isAgg207
 z25:=sizeOf207
 v25:=zeroValue207
 t39:=underlying144
 a39:=isAgg144
 z39:=sizeOf144
 v39:=zeroValue144
 t45:=underlying191
 a45:=isAgg191
 z45:=sizeOf191
 v45:=zeroValue191
 t46:=underlying192
 a46:=isAgg192
 z46:=sizeOf192
 v46:=zeroValue192
 t50:=underlying196
 a50:=isAgg196
 z50:=sizeOf196
 v50:=zeroValue196
 t53:=underlying199
 a53:=isAgg199
 z53:=sizeOf199
 v53:=zeroValue199
 t55:=underlying167
 a55:=isAgg167
 z55:=sizeOf167
 v55:=zeroValue167
 t66:=underlying242
 a66:=isAgg242
 z66:=sizeOf242
 v66:=zeroValue242
 t70:=underlying246
 a70:=isAgg246
 z70:=sizeOf246
 v70:=zeroValue246
 t76:=underlying270
 a76:=isAgg270
 z76:=sizeOf270
 v76:=zeroValue270
 t77:=underlying165
 a77:=isAgg165
 z77:=sizeOf165
 v77:=zeroValue165}
def Tryz.laysSort3_ren:Go.Shelf.Ren:=⟨fun|6=>188|15=>113|14=>237|28=>166|29=>167|20=>291|21=>292|22=>293|23=>294|24=>295|25=>296|26=>297|27=>298|46=>316|47=>226|48=>227|49=>317|50=>318|57=>326|n=>n,fun|22=>23|24=>101|25=>217|3=>3|39=>144|0=>0|53=>199|55=>167|4=>4|46=>192|45=>191|50=>196|5=>5|9=>9|66=>242|70=>246|76=>270|77=>165|n=>n,fun|n=>n⟩
theorem Tryz.laysSort3:Go.Proofs.SlLaysF0.n6 prog laysSort3_ren:={
 mixed:=by kernel_rfl
 f6:=⟨f188.name,by decide,func188.trans lk0⟩
 f14:=⟨f237.name,by decide,func237.trans lk0⟩
 f15:=func113.trans lk0
 f20:=⟨f291.name,by decide,func291.trans lk0⟩
 f21:=⟨f292.name,by decide,func292.trans lk0⟩
 f22:=⟨f293.name,by decide,func293.trans lk0⟩
 f23:=⟨f294.name,by decide,func294.trans lk0⟩
 f24:=⟨f295.name,by decide,func295.trans lk0⟩
 f25:=⟨f296.name,by decide,func296.trans lk0⟩
 f26:=⟨f297.name,by decide,func297.trans lk0⟩
 f27:=⟨f298.name,by decide,func298.trans lk0⟩
 f28:=func166.trans lk0
 f29:=func167.trans lk0
 f46:=⟨f316.name,by decide,func316.trans lk0⟩
 f47:=func226.trans lk0
 f48:=func227.trans lk0
 f49:=⟨f317.name,by decide,func317.trans lk0⟩
 f50:=⟨f318.name,by decide,func318.trans lk0⟩
 f57:=⟨f326.name,by decide,func326.trans lk0⟩
 t0:=underlying0
 a0:=isAgg0
 z0:=sizeOf0
 v0:=zeroValue0
 t3:=underlying3
 a3:=isAgg3
 z3:=sizeOf3
 v3:=zeroValue3
 t4:=underlying4
 a4:=isAgg4
 z4:=sizeOf4
 v4:=zeroValue4
 t5:=underlying5
 a5:=isAgg5
 z5:=sizeOf5
 v5:=zeroValue5
 t9:=underlying9
 a9:=isAgg9
 z9:=sizeOf9
 v9:=zeroValue9
 t22:=underlying23
 a22:=isAgg23
 z22:=sizeOf23
 v22:=zeroValue23
 t25:=underlying217
 a25:=isAgg217
 z25:=sizeOf217
 v25:=zeroValue217
 t39:=underlying144
 a39:=isAgg144
 z39:=sizeOf144
 v39:=zeroValue144
 t45:=underlying191
 a45:=isAgg191
 z45:=sizeOf191
 v45:=zeroValue191
 t46:=underlying192
 a46:=isAgg192
 z46:=sizeOf192
 v46:=zeroValue192
 t50:=underlying196
 a50:=isAgg196
 z50:=sizeOf196
 v50:=zeroValue196
 t53:=underlying199
 a53:=isAgg199
 z53:=sizeOf199
 v53:=zeroValue199
 t55:=underlying167
 a55:=isAgg167
 z55:=sizeOf167
 v55:=zeroValue167
 t66:=underlying242
 a66:=isAgg242
 z66:=sizeOf242
 v66:=zeroValue242
 t70:=underlying246
 a70:=isAgg246
 z70:=sizeOf246
 v70:=zeroValue246
 t76:=underlying270
 a76:=isAgg270
 z76:=sizeOf270
 v76:=zeroValue270
 t77:=underlying165
 a77:=isAgg165
 z77:=sizeOf165
 v77:=zeroValue165}
def Tryz.laysSort1_ren:Go.Shelf.Ren:=⟨fun|6=>182|15=>113|14=>234|28=>166|29=>167|20=>278|21=>279|22=>280|23=>281|24=>282|25=>283|26=>284|27=>285|46=>308|47=>226|48=>227|49=>309|50=>310|57=>322|n=>n,fun|22=>42|24=>3|25=>131|3=>3|39=>144|0=>0|53=>199|55=>167|4=>4|46=>192|45=>191|50=>196|5=>5|9=>9|66=>242|70=>246|76=>270|77=>165|n=>n,fun|n=>n⟩
theorem Tryz.laysSort1:Go.Proofs.SlLaysF.n6 prog laysSort1_ren:={
 mixed:=by kernel_rfl
 f6:=⟨f182.name,by decide,func182.trans lk0⟩
 f14:=⟨f234.name,by decide,func234.trans lk0⟩
 f15:=func113.trans lk0
 f20:=⟨f278.name,by decide,func278.trans lk0⟩
 f21:=⟨f279.name,by decide,func279.trans lk0⟩
 f22:=⟨f280.name,by decide,func280.trans lk0⟩
 f23:=⟨f281.name,by decide,func281.trans lk0⟩
 f24:=⟨f282.name,by decide,func282.trans lk0⟩
 f25:=⟨f283.name,by decide,func283.trans lk0⟩
 f26:=⟨f284.name,by decide,func284.trans lk0⟩
 f27:=⟨f285.name,by decide,func285.trans lk0⟩
 f28:=func166.trans lk0
 f29:=func167.trans lk0
 f46:=⟨f308.name,by decide,func308.trans lk0⟩
 f47:=func226.trans lk0
 f48:=func227.trans lk0
 f49:=⟨f309.name,by decide,func309.trans lk0⟩
 f50:=⟨f310.name,by decide,func310.trans lk0⟩
 f57:=⟨f322.name,by decide,func322.trans lk0⟩
 t0:=underlying0
 a0:=isAgg0
 z0:=sizeOf0
 v0:=zeroValue0
 t3:=underlying3
 a3:=isAgg3
 z3:=sizeOf3
 v3:=zeroValue3
 t4:=underlying4
 a4:=isAgg4
 z4:=sizeOf4
 v4:=zeroValue4
 t5:=underlying5
 a5:=isAgg5
 z5:=sizeOf5
 v5:=zeroValue5
 t9:=underlying9
 a9:=isAgg9
 z9:=sizeOf9
 v9:=zeroValue9
 t22:=underlying42
 a22:=isAgg42
 z22:=sizeOf42
 v22:=zeroValue42
 a24:=isAgg3
 z24:=sizeOf3
 t25:=underlying131
 a25:=isAgg131
 z25:=sizeOf131
 v25:=zeroValue131
 t39:=underlying144
 a39:=isAgg144
 z39:=sizeOf144
 v39:=zeroValue144
 t45:=underlying191
 a45:=isAgg191
 z45:=sizeOf191
 v45:=zeroValue191
 t46:=underlying192
 a46:=isAgg192
 z46:=sizeOf192
 v46:=zeroValue192
 t50:=underlying196
 a50:=isAgg196
 z50:=sizeOf196
 v50:=zeroValue196
 t53:=underlying199
 a53:=isAgg199
 z53:=sizeOf199
 v53:=zeroValue199
 t55:=underlying167
 a55:=isAgg167
 z55:=sizeOf167
 v55:=zeroValue167
 t66:=underlying242
 a66:=isAgg242
 z66:=sizeOf242
 v66:=zeroValue242
 t70:=underlying246
 a70:=isAgg246
 z70:=sizeOf246
 v70:=zeroValue246
 t76:=underlying270
 a76:=isAgg270
 z76:=sizeOf270
 v76:=zeroValue270
 t77:=underlying165
 a77:=isAgg165
 z77:=sizeOf165
 v77:=zeroValue165}
def Tryz.laysSortP_ren:Go.Shelf.Ren:=⟨fun|6=>60|15=>113|14=>112|28=>166|29=>167|20=>158|21=>159|22=>160|23=>161|24=>162|25=>163|26=>164|27=>165|46=>225|47=>226|48=>227|49=>228|50=>229|57=>266|n=>n,fun|22=>41|24=>30|25=>90|3=>3|39=>144|0=>0|53=>199|55=>167|4=>4|46=>192|45=>191|50=>196|5=>5|9=>9|66=>242|70=>246|76=>270|77=>165|n=>n,fun|n=>n⟩
theorem Tryz.laysSortP:Go.Proofs.SlLaysF0.n6 prog laysSortP_ren:={
 mixed:=by kernel_rfl
 f6:=⟨f60.name,by decide,func60.trans lk0⟩
 f14:=⟨f112.name,by decide,func112.trans lk0⟩
 f15:=func113.trans lk0
 f20:=⟨f158.name,by decide,func158.trans lk0⟩
 f21:=⟨f159.name,by decide,func159.trans lk0⟩
 f22:=⟨f160.name,by decide,func160.trans lk0⟩
 f23:=⟨f161.name,by decide,func161.trans lk0⟩
 f24:=⟨f162.name,by decide,func162.trans lk0⟩
 f25:=⟨f163.name,by decide,func163.trans lk0⟩
 f26:=⟨f164.name,by decide,func164.trans lk0⟩
 f27:=⟨f165.name,by decide,func165.trans lk0⟩
 f28:=func166.trans lk0
 f29:=func167.trans lk0
 f46:=⟨f225.name,by decide,func225.trans lk0⟩
 f47:=func226.trans lk0
 f48:=func227.trans lk0
 f49:=⟨f228.name,by decide,func228.trans lk0⟩
 f50:=⟨f229.name,by decide,func229.trans lk0⟩
 f57:=⟨f266.name,by decide,func266.trans lk0⟩
 t0:=underlying0
 a0:=isAgg0
 z0:=sizeOf0
 v0:=zeroValue0
 t3:=underlying3
 a3:=isAgg3
 z3:=sizeOf3
 v3:=zeroValue3
 t4:=underlying4
 a4:=isAgg4
 z4:=sizeOf4
 v4:=zeroValue4
 t5:=underlying5
 a5:=isAgg5
 z5:=sizeOf5
 v5:=zeroValue5
 t9:=underlying9
 a9:=isAgg9
 z9:=sizeOf9
 v9:=zeroValue9
 t22:=underlying41
 a22:=isAgg41
 z22:=sizeOf41
 v22:=zeroValue41
 t25:=underlying90
 a25:=isAgg90
 z25:=sizeOf90
 v25:=zeroValue90
 t39:=underlying144
 a39:=isAgg144
 z39:=sizeOf144
 v39:=zeroValue144
 t45:=underlying191
 a45:=isAgg191
 z45:=sizeOf191
 v45:=zeroValue191
 t46:=underlying192
 a46:=isAgg192
 z46:=sizeOf192
 v46:=zeroValue192
 t50:=underlying196
 a50:=isAgg196
 z50:=sizeOf196
 v50:=zeroValue196
 t53:=underlying199
 a53:=isAgg199
 z53:=sizeOf199
 v53:=zeroValue199
 t55:=underlying167
 a55:=isAgg167
 z55:=sizeOf167
 v55:=zeroValue167
 t66:=underlying242
 a66:=isAgg242
 z66:=sizeOf242
 v66:=zeroValue242
 t70:=underlying246
 a70:=isAgg246
 z70:=sizeOf246
 v70:=zeroValue246
 t76:=underlying270
 a76:=isAgg270
 z76:=sizeOf270
 v76:=zeroValue270
 t77:=underlying165
 a77:=isAgg165
 z77:=sizeOf165
 v77:=zeroValue165}
def Tryz.laysSort_ren:Go.Shelf.Ren:=⟨fun|189=>95|125=>113|257=>149|128=>166|129=>167|294=>215|295=>216|296=>217|297=>218|298=>219|299=>220|216=>221|300=>222|301=>223|328=>262|329=>226|330=>227|331=>263|332=>264|215=>265|343=>304|n=>n,fun|28=>42|3=>3|46=>144|0=>0|51=>199|53=>167|4=>4|183=>192|182=>191|131=>196|5=>5|9=>9|218=>242|222=>246|228=>270|229=>165|n=>n,fun|n=>n⟩
theorem Tryz.laysSort:Go.Proofs.Lays.n189 prog laysSort_ren:={
 mixed:=by kernel_rfl
 f125:=func113.trans lk0
 f128:=func166.trans lk0
 f129:=func167.trans lk0
 f189:=func95.trans lk0
 f215:=func265.trans lk0
 f216:=func221.trans lk0
 f257:=func149.trans lk0
 f294:=func215.trans lk0
 f295:=func216.trans lk0
 f296:=func217.trans lk0
 f297:=func218.trans lk0
 f298:=func219.trans lk0
 f299:=func220.trans lk0
 f300:=func222.trans lk0
 f301:=func223.trans lk0
 f328:=func262.trans lk0
 f329:=func226.trans lk0
 f330:=func227.trans lk0
 f331:=func263.trans lk0
 f332:=func264.trans lk0
 f343:=func304.trans lk0
 t0:=underlying0
 a0:=isAgg0
 z0:=sizeOf0
 v0:=zeroValue0
 t3:=underlying3
 a3:=isAgg3
 z3:=sizeOf3
 v3:=zeroValue3
 t4:=underlying4
 a4:=isAgg4
 z4:=sizeOf4
 v4:=zeroValue4
 t5:=underlying5
 a5:=isAgg5
 z5:=sizeOf5
 v5:=zeroValue5
 t9:=underlying9
 a9:=isAgg9
 z9:=sizeOf9
 v9:=zeroValue9
 t28:=underlying42
 a28:=isAgg42
 z28:=sizeOf42
 v28:=zeroValue42
 t46:=underlying144
 a46:=isAgg144
 z46:=sizeOf144
 v46:=zeroValue144
 t51:=underlying199
 a51:=isAgg199
 z51:=sizeOf199
 v51:=zeroValue199
 t53:=underlying167
 a53:=isAgg167
 z53:=sizeOf167
 v53:=zeroValue167
 t131:=underlying196
 a131:=isAgg196
 z131:=sizeOf196
 v131:=zeroValue196
 t182:=underlying191
 a182:=isAgg191
 z182:=sizeOf191
 v182:=zeroValue191
 t183:=underlying192
 a183:=isAgg192
 z183:=sizeOf192
 v183:=zeroValue192
 t218:=underlying242
 a218:=isAgg242
 z218:=sizeOf242
 v218:=zeroValue242
 t222:=underlying246
 a222:=isAgg246
 z222:=sizeOf246
 v222:=zeroValue246
 t228:=underlying270
 a228:=isAgg270
 z228:=sizeOf270
 v228:=zeroValue270
 t229:=underlying165
 a229:=isAgg165
 z229:=sizeOf165
 v229:=zeroValue165}
end Go.Proofs
namespace Go.Proofs.YthlkpgdfifnagaaGreat
open Go Go.RowKit Go.Shelf Go.Sort Tryz
theorem Ac5:∀l:LI,l.flatMap Ak=l.map (Value.int .i64)
 |[]=>rfl
 |x::r=>by rw[List.flatMap_cons,Ac5 r];rfl
theorem Amc(l:List Int)(hb:l.length<=1000000){A:Option Addr}{m c:Nat}{t:TypeId}(w:World)(hok:Ent.ok w (.r A m c t 1 (l.flatMap Ak))):
  Calls prog 95 #[.slice A m c] w fun e w'=>e=.returned (.tuple #[])/\w.grownBy w' (Ent.blk (.r A m c t 1 (l.flatMap Ak)))/\w.drawn<=w'.drawn/\Ent.ok w' (.r A m c t 1 ((Cq l).flatMap Ak)):=by
 obtain⟨hl,h2⟩:=hok;rw[Ac5,List.length_map,Nat.mul_one] at hl;subst hl;rcases h2 with⟨hv,h0⟩|⟨g,cap,cur,hv,hbg,hh,h3,h4,h5,h6⟩
 .injection hv with e1 e2 e3
  subst e1;subst e3;have hl0:l=[]:=List.eq_nil_of_length_eq_zero h0;subst hl0;refine (calls_of_every_depth fun D=>AnyS.slices_Sort_int_none_alone Tryz.laysSort D none 0 w).mono ?_;rintro e w' ⟨rfl,rfl⟩;refine⟨rfl,⟨rfl,rfl,rfl,nL _,fun _ _ _=>rfl⟩,nL _,by simp[Cq],.inl ⟨rfl,rfl⟩⟩
 .injection hv with e1 e2 e3
  subst e1;subst e3;rw[Ac5,Nat.mul_one] at h6;rw[Nat.mul_one] at h5;have hlt:=Dq hh;have hcell:∀j,(hj:j<l.length)->cur[j]? = some (Value.int .i64 l[j]):=fun j hj=>by
   have h7:(cur.toList.take l.length)[j]? = some (Value.int .i64 l[j]):=by rw[h6];simp[hj]
   rw[List.getElem?_take,iP hj] at h7;simpa using h7
  have hH:Holds (Value.int .i64) w g 0 l.toArray:=fun j hj=>by
   have hj':j<l.length:=by simpa using hj
   refine⟨?_,?_⟩
   .have:=hcell j hj';simp[World.cell?,hh,this,hj']
   .simp[World.frozen?,hh]
  refine (Any.slices_Sort_int Tryz.laysSort g 0 c l w hH hlt oo).mono ?_;rintro e w' ⟨rfl,q,os,rfl⟩;rw[show (l.mergeSort fun x y=>decide (x<=y))=Cq l from rfl];have hsz:(Cq l).length=l.length:=Lt;have hg0:∀k,k<w.heap.size->(grow (putRow (Value.int .i64) (Go.Sort.ahead w q) g 0 (Cq l).toArray) os).heap[k]? = (w.heap.modify g (onCells (putCells (Value.int .i64) 0 (Cq l).toArray)))[k]?:=fun k hk=>by
   show (((Go.Sort.ahead w q).heap.modify g (onCells (putCells (Value.int .i64) 0 (Cq l).toArray)))++os)[k]? = _;rw[Array.getElem?_append_left (by rw[Array.size_modify];exact hk)];rfl
  refine⟨rfl,⟨rfl,rfl,rfl,?_,fun k hk hne=>?_⟩,Nat.le_add_right _ _,by rw[Ac5,List.length_map,hsz,Nat.mul_one],.inr ⟨g,c,putCells (Value.int .i64) 0 (Cq l).toArray cur,rfl,Nat.zero_le _,?_,h3,h4,?_,?_⟩⟩
  .show w.heap.size<=(((Go.Sort.ahead w q).heap.modify g (onCells (putCells (Value.int .i64) 0 (Cq l).toArray)))++os).size;rw[Array.size_append,Array.size_modify];exact Nat.le_add_right _ _
  .rw[hg0 k hk,Array.getElem?_modify];rw[iN (fun he=>hne (by rw[he];rfl))]
  .rw[hg0 g hlt,Array.getElem?_modify,iP rfl,hh];rfl
  .simp[putCells,h5]
  .rw[Nat.mul_one,Ac5];apply List.ext_getElem?;intro j;rw[List.getElem?_take]
   by_cases hj:j<l.length
   ·rw[if_pos hj];have hj2:j<(Cq l).length:=oo;have hcj:=hcell j hj;have:(putCells (Value.int .i64) 0 (Cq l).toArray cur)[j]? = some (Value.int .i64 (Cq l)[j]):=by
     simp only[putCells,Array.getElem?_mapIdx,hcj,Option.map_some];rw[iP ⟨Nat.zero_le _,sV hj2⟩];simp[hj2]
    rw[<-Array.getElem?_toList] at this;rw[this];simp[hj2]
   .rw[iN hj];rw[List.getElem?_eq_none (by rw[List.length_map,hsz];omega)]
section
variable {n:Nat}{N:AW}{Q:Exit->AW}{fr:lF}{L L':LE}
theorem Bdt(l:LI){d i m c:Nat}{A:OA}{t:TypeId}{xs:List Operand}{ts:Array TypeId}{ty':TypeId}{pos:String}{after:AE}{guard:ON}(hx:evos fr xs=some [.slice A m c])(hb:l.length<=1000000)(hL:SetE L i (.r A m c t 1 (l.flatMap Ak)) (.r A m c t 1 ((Cq l).flatMap Ak)) L')(hd:Nat.blt d n=true)(k:T n N ((d,.tuple #[])::fr) L'):Wh prog Q n ⟨some d,.call ⟨.value (.func 95),xs.toArray,ts⟩,ty',pos,after,guard⟩ fr L N:=by
 intro a w ha hw;have he:Xx prog 95:=⟨_,func95,rfl,rfl⟩;simp only[Oper.wp,Ac0 he ha hx,Oper.upon_enter];refine (Amc l hb w (hw.ok _ hL.mem)).mono ?_;rintro e w' ⟨rfl,hg,hdr,hok⟩;exact k _ _ (ha.put hd) (Heap.turn (e:=.r A m c t 1 (l.flatMap Ak)) (e':=.r A m c t 1 ((Cq l).flatMap Ak)) hg hok (nL _) (fun _ hg=>.inl hg) hL hw (hd:=hdr))
end
instance:Sr1 prog 95 Ak Cq:=⟨⟨_,func95,rfl,rfl⟩,fun l hb _ _ _ _ w hok=>Amc l hb w hok⟩
end Go.Proofs.YthlkpgdfifnagaaGreat
