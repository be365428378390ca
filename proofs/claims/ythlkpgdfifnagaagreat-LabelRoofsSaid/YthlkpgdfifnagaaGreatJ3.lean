import Derived.Test.YthlkpgdfifnagaaGreatFlow19
import Derived.Test.YthlkpgdfifnagaaGreatProg
import Derived.Shelf.Lays
import Derived.Shelf.SlSortCmp.NoneTotal
import Derived.Ground.SlsfProg
import Derived.Ground.NamesProg
import Derived.Shelf.Sort.Plain
import Derived.Shelf.Slices.In.SortNone
set_option maxRecDepth 100000
set_option maxHeartbeats 1000000
namespace Go.Proofs.YthlkpgdfifnagaaGreat
open Go Go.RowKit Tryz
noncomputable section
theorem mixed:prog.follows .mixedOrders=true:=kr
instance:MixI prog:=⟨mixed⟩
instance:Bz prog 57 0 0:=⟨.mk underlying57 rfl rfl (show prog.info? 3=some Tryz.t3 from by kernel_rfl) (show Tryz.t3.size=1 from by kernel_rfl) rfl⟩
theorem one3:Vf prog 3:=.mk underlying3 rfl (show prog.info? 3=some Tryz.t3 from by kernel_rfl) kr
instance:OneI prog 3:=⟨one3⟩
instance:Bz prog 57 1 1:=⟨.mk underlying57 rfl rfl (show prog.info? 3=some Tryz.t3 from by kernel_rfl) (show Tryz.t3.size=1 from by kernel_rfl) rfl⟩
theorem Ate:Qw prog 57 [iq 0,iq 0]:=⟨_,zeroValue57,rfl⟩
instance:Ud prog 57 [iq 0,iq 0]:=⟨Ate⟩
theorem Atf:Hb prog 30 1 1:=.mk underlying30 rfl rfl (show prog.info? 3=some Tryz.t3 from by kernel_rfl) (show Tryz.t3.size=1 from by kernel_rfl) rfl
instance:Bz prog 30 1 1:=⟨Atf⟩
theorem Atg:Hb prog 30 2 2:=.mk underlying30 rfl rfl (show prog.info? 3=some Tryz.t3 from by kernel_rfl) (show Tryz.t3.size=1 from by kernel_rfl) rfl
instance:Bz prog 30 2 2:=⟨Atg⟩
theorem Acm(x0:Int)(x1:Int):Vv prog 57 [(0,iq x0),(1,iq x1)] [iq x0,iq x1]:=fun w=>kr
instance(x0:Int)(x1:Int):Je prog 57 [(0,iq x0),(1,iq x1)] [iq x0,iq x1]:=⟨Acm _ _⟩
theorem Uh:Rj prog 57 2:=.mk underlying57 rfl (show prog.info? 57=some t57 from by kernel_rfl) kr
instance:AggI prog 57 2:=⟨Uh⟩
theorem Afx:Hb prog 30 0 0:=.mk underlying30 rfl rfl (show prog.info? 3=some Tryz.t3 from by kernel_rfl) (show Tryz.t3.size=1 from by kernel_rfl) rfl
instance:Bz prog 30 0 0:=⟨Afx⟩
theorem Vg:Rj prog 30 9:=.mk underlying30 rfl (show prog.info? 30=some t30 from by kernel_rfl) kr
instance:AggI prog 30 9:=⟨Vg⟩
instance:Bz prog 30 3 3:=⟨.mk underlying30 rfl rfl (show prog.info? 28=some Tryz.t28 from by kernel_rfl) (show Tryz.t28.size=2 from by kernel_rfl) rfl⟩
theorem Afy:Hb prog 28 0 0:=.mk underlying28 rfl rfl (show prog.info? 3=some Tryz.t3 from by kernel_rfl) (show Tryz.t3.size=1 from by kernel_rfl) rfl
instance:Bz prog 28 0 0:=⟨Afy⟩
theorem Abc:Hb prog 28 1 1:=.mk underlying28 rfl rfl (show prog.info? 3=some Tryz.t3 from by kernel_rfl) (show Tryz.t3.size=1 from by kernel_rfl) rfl
instance:Bz prog 28 1 1:=⟨Abc⟩
instance:Bz prog 30 4 5:=⟨.mk underlying30 rfl rfl (show prog.info? 3=some Tryz.t3 from by kernel_rfl) (show Tryz.t3.size=1 from by kernel_rfl) rfl⟩
theorem Ath:Hb prog 30 5 6:=.mk underlying30 rfl rfl (show prog.info? 3=some Tryz.t3 from by kernel_rfl) (show Tryz.t3.size=1 from by kernel_rfl) rfl
instance:Bz prog 30 5 6:=⟨Ath⟩
theorem Anj:Hb prog 30 6 7:=.mk underlying30 rfl rfl (show prog.info? 3=some Tryz.t3 from by kernel_rfl) (show Tryz.t3.size=1 from by kernel_rfl) rfl
instance:Bz prog 30 6 7:=⟨Anj⟩
theorem Al5:Mr prog 41 30 9:=.mk underlying41 (show prog.info? 30=some t30 from by kernel_rfl) kr
instance:Ph prog 41 30 9:=⟨Al5⟩
theorem Aj7:Qw prog 30 [iq 0,iq 0,iq 0,iq 0,iq 0,iq 0,iq 0,iq 0,iq 0]:=⟨_,zeroValue30,rfl⟩
instance:Ud prog 30 [iq 0,iq 0,iq 0,iq 0,iq 0,iq 0,iq 0,iq 0,iq 0]:=⟨Aj7⟩
instance:Bz prog 32 1 1:=⟨.mk underlying32 rfl rfl (show prog.info? 3=some Tryz.t3 from by kernel_rfl) (show Tryz.t3.size=1 from by kernel_rfl) rfl⟩
instance:Bz prog 32 4 4:=⟨.mk underlying32 rfl rfl (show prog.info? 3=some Tryz.t3 from by kernel_rfl) (show Tryz.t3.size=1 from by kernel_rfl) rfl⟩
theorem Ati:Hb prog 32 5 5:=.mk underlying32 rfl rfl (show prog.info? 3=some Tryz.t3 from by kernel_rfl) (show Tryz.t3.size=1 from by kernel_rfl) rfl
instance:Bz prog 32 5 5:=⟨Ati⟩
theorem Atj:Hb prog 32 6 6:=.mk underlying32 rfl rfl (show prog.info? 3=some Tryz.t3 from by kernel_rfl) (show Tryz.t3.size=1 from by kernel_rfl) rfl
instance:Bz prog 32 6 6:=⟨Atj⟩
instance:Bz prog 32 7 7:=⟨.mk underlying32 rfl rfl (show prog.info? 3=some Tryz.t3 from by kernel_rfl) (show Tryz.t3.size=1 from by kernel_rfl) rfl⟩
instance:Bz prog 32 8 8:=⟨.mk underlying32 rfl rfl (show prog.info? 3=some Tryz.t3 from by kernel_rfl) (show Tryz.t3.size=1 from by kernel_rfl) rfl⟩
instance(x0:Int)(x1:Int)(x2:Int)(x3:Int)(x4:Int)(x5:Int):Je prog 96 [(0,iq x0),(1,iq x1),(2,iq x2),(3,iq x3),(4,iq x4),(5,iq x5)] [iq x0,iq x1,iq x2,iq x3,iq x4,iq x5]:=⟨fun w=>kr⟩
theorem Ank:Hb prog 32 0 0:=.mk underlying32 rfl rfl (show prog.info? 3=some Tryz.t3 from by kernel_rfl) (show Tryz.t3.size=1 from by kernel_rfl) rfl
instance:Bz prog 32 0 0:=⟨Ank⟩
instance:Bz prog 32 2 2:=⟨.mk underlying32 rfl rfl (show prog.info? 3=some Tryz.t3 from by kernel_rfl) (show Tryz.t3.size=1 from by kernel_rfl) rfl⟩
instance:Bz prog 32 3 3:=⟨.mk underlying32 rfl rfl (show prog.info? 3=some Tryz.t3 from by kernel_rfl) (show Tryz.t3.size=1 from by kernel_rfl) rfl⟩
instance:Bz prog 32 9 9:=⟨.mk underlying32 rfl rfl (show prog.info? 3=some Tryz.t3 from by kernel_rfl) (show Tryz.t3.size=1 from by kernel_rfl) rfl⟩
theorem Apl:Rj prog 32 10:=.mk underlying32 rfl (show prog.info? 32=some t32 from by kernel_rfl) kr
instance:AggI prog 32 10:=⟨Apl⟩
theorem Cu(x0:Int)(x1:Int)(x2:Int)(x3:Int)(x4:Int)(x5:Int)(x6:Int)(x7:Int)(x8:Int):Gd prog 41 1 [(0,.agg #[iq x0,iq x1,iq x2,iq x3,iq x4,iq x5,iq x6,iq x7,iq x8])] 30 [iq x0,iq x1,iq x2,iq x3,iq x4,iq x5,iq x6,iq x7,iq x8]:=fun w=>kr
instance(x0:Int)(x1:Int)(x2:Int)(x3:Int)(x4:Int)(x5:Int)(x6:Int)(x7:Int)(x8:Int):Rc prog 41 1 [(0,.agg #[iq x0,iq x1,iq x2,iq x3,iq x4,iq x5,iq x6,iq x7,iq x8])] 30 [iq x0,iq x1,iq x2,iq x3,iq x4,iq x5,iq x6,iq x7,iq x8]:=⟨Cu _ _ _ _ _ _ _ _ _⟩
theorem Apm:Xl prog 41 30 9 72:=⟨underlying41,⟨t30,.agg #[iq 0,iq 0,iq 0,iq 0,iq 0,iq 0,iq 0,iq 0,iq 0],kr,kr,kr,kr,rfl⟩,dD⟩
instance:Ag6 prog 41 30 9 72:=⟨Apm⟩
theorem Bch:Mr prog 58 57 2:=.mk underlying58 (show prog.info? 57=some t57 from by kernel_rfl) kr
instance:Ph prog 58 57 2:=⟨Bch⟩
def Af(x:Int):List Value:=[iq x]
instance(x0:Int):DecI Af [iq x0] x0:=⟨rfl⟩
instance:EncI 3 Af:=⟨trivial⟩
def Cd(p0:Int)(p1:Int)(p2:Int):Option Bool :=
 jn (fun (s2:Bool)=>
 some s2)
 (fun j2=>if p0<=p1 then (j2 (decide (p1<=p2)))
 else (j2 false))
structure Ac where
 X:Int
 Y:Int
def Hy(p0:Ac):Option Bool :=
 jn (fun (s2:Bool)=>
 some s2)
 (fun j2=>bnd (Cd (-268435456) p0.X 268435456) fun r2=>
 if r2=true then (bnd (Cd (-268435456) p0.Y 268435456) fun r7=>
 j2 r7)
 else (j2 false))
structure Aw where
 Lo:Int
 Hi:Int
structure Aa where
 Id:Int
 X:Int
 Y:Int
 Z:Aw
 Wide:Int
 Num:Int
 Of:Int
 Class:Int
structure Ad where
 X:Int
 Y:Int
 Z:Aw
structure Aj where
 Neg:Bool
 L:List Int
structure Al where
 N:Aj
 D:List Int
structure Cg where
 X:Al
 Y:Al
def Ci(p0:Aa):Option Ac :=
 some (⟨p0.X,p0.Y⟩:Ac)
def Ow(p0:Aa):Option Bool :=
 jn (fun (s2:Bool)=>
 some s2)
 (fun j2=>bnd (Cd 0 p0.Id 1152921504606846976) fun r2=>
 if r2=true then (bnd (Ci p0) fun r7=>
 bnd (Hy r7) fun r0=>
 if r0=true then (bnd (Cd (-268435456) p0.Z.Lo p0.Z.Hi) fun r1=>
 if r1=true then (if p0.Z.Hi<=268435456 then (bnd (Cd 0 p0.Wide 268435456) fun r3=>
 if r3=true then (bnd (Cd 1 p0.Num p0.Of) fun r4=>
 if r4=true then (j2 (decide (p0.Of<=15)))
 else (j2 false))
 else (j2 false))
 else (j2 false))
 else (j2 false))
 else (j2 false))
 else (j2 false))
instance:UndI prog 41 (.slice 30):=⟨underlying41⟩
def Cs(x:Int):Value:=iq x
theorem Aad(x y:Int)(h:Cs x=Cs y):x=y:=by simpa[Cs] using h
instance(x:Int):UnfI Cs x (iq x):=⟨rfl⟩
instance(x0:Int):Ab4 Cs (iq x0) x0:=⟨rfl⟩
instance:ValI prog 3 Cs 0:=⟨Aad,fun w=>kr⟩
theorem key3:Maps.Keyed prog 3:=Maps.int_keyed underlying3
theorem isk3(x:Int)(h:(-9223372036854775808<=x/\x<=9223372036854775807)):(keyOf prog 3 (Cs x)).isSome=true:=Bdx underlying3 (Ajo h)
instance:KeyI prog 3 Cs (fun x=>(-9223372036854775808<=x/\x<=9223372036854775807)):=⟨key3,Aad,isk3⟩
instance:UndI prog 136 (.map 3 4):=⟨underlying136⟩
def Bu(x:Bool):Value:=.bool x
theorem Arb(x y:Bool)(h:Bu x=Bu y):x=y:=by simpa[Bu] using h
instance(x:Bool):UnfI Bu x (.bool x):=⟨rfl⟩
instance(x0:Bool):Ab4 Bu (.bool x0) x0:=⟨rfl⟩
instance:ValI prog 4 Bu false:=⟨Arb,fun w=>kr⟩
def Lu(p0:List Aa):((List (Int × Bool)) × Int)->Option (Sum ((List (Int × Bool)) × Int) (Sum Unit Bool)):=fun s0=>
 if s0.2<(p0.length:Int) then (bnd (idx p0 s0.2) fun x0=>
 jn (fun (s1:Bool)=>
 if s1=true then (some (.inr (.inr false)))
 else (gd ((-9223372036854775808<=x0.Id/\x0.Id<=9223372036854775807))<|
 gd (s0.1.length<9223372036854775807)<|
 some (.inl (mput s0.1 x0.Id true,w64 (s0.2+1)))))
 (fun j0=>bnd (Ow x0) fun r0=>
 if r0=true then (gd ((-9223372036854775808<=x0.Id/\x0.Id<=9223372036854775807))<|
 bnd (some ((mget s0.1 x0.Id).getD false)) fun x1=>
 j0 x1)
 else (j0 true)))
 else (some (.inr (.inl ())))
def Wj(p0:List Aa):Option Bool :=
 if 1024<(p0.length:Int) then (some false)
 else (jn (fun (s6:Unit)=>
 some true)
 (fun j6=>bnd (lfix (Lu p0) (([]:List (Int × Bool)),0)) fun t0=>
 (match t0 with
 | (.inl z0)=>j6 z0
 | (.inr z0)=>some z0
 )))
def Ai(x:Aa):List Value:=[iq x.Id,iq x.X,iq x.Y,iq x.Z.Lo,iq x.Z.Hi,iq x.Wide,iq x.Num,iq x.Of,iq x.Class]
instance(x0:Int)(x1:Int)(x2:Int)(x3:Int)(x4:Int)(x5:Int)(x6:Int)(x7:Int)(x8:Int):DecI Ai [iq x0,iq x1,iq x2,iq x3,iq x4,iq x5,iq x6,iq x7,iq x8] (⟨x0,x1,x2,⟨x3,x4⟩,x5,x6,x7,x8⟩):=⟨rfl⟩
instance:EncI 30 Ai:=⟨trivial⟩
structure Ag where
 Cell:Int
 Reach:Int
 Slope:Int
 Link:Int
 Flat:Int
 Tall:Int
 High:Int
 Low:Int
 Brush:Int
 Few:Int
theorem Bci(x0:Int)(x1:Int)(x2:Int)(x3:Int)(x4:Int)(x5:Int):Am5 prog 96 [iq x0,iq x1,iq x2,iq x3,iq x4,iq x5]:=by
 intro j h k w;have h':j<6:=h
 match j,h,h' with
 | 0,_,_=>exact (show (Instr.index 96 (.agg ([.int .i64 x0,.int .i64 x1,.int .i64 x2,.int .i64 x3,.int .i64 x4,.int .i64 x5]:List Value).toArray) (.int k ((0:Nat):Int))).run prog w = .ok (.int .i64 x0) w by kernel_rfl)
 | 1,_,_=>exact (show (Instr.index 96 (.agg ([.int .i64 x0,.int .i64 x1,.int .i64 x2,.int .i64 x3,.int .i64 x4,.int .i64 x5]:List Value).toArray) (.int k ((1:Nat):Int))).run prog w = .ok (.int .i64 x1) w by kernel_rfl)
 | 2,_,_=>exact (show (Instr.index 96 (.agg ([.int .i64 x0,.int .i64 x1,.int .i64 x2,.int .i64 x3,.int .i64 x4,.int .i64 x5]:List Value).toArray) (.int k ((2:Nat):Int))).run prog w = .ok (.int .i64 x2) w by kernel_rfl)
 | 3,_,_=>exact (show (Instr.index 96 (.agg ([.int .i64 x0,.int .i64 x1,.int .i64 x2,.int .i64 x3,.int .i64 x4,.int .i64 x5]:List Value).toArray) (.int k ((3:Nat):Int))).run prog w = .ok (.int .i64 x3) w by kernel_rfl)
 | 4,_,_=>exact (show (Instr.index 96 (.agg ([.int .i64 x0,.int .i64 x1,.int .i64 x2,.int .i64 x3,.int .i64 x4,.int .i64 x5]:List Value).toArray) (.int k ((4:Nat):Int))).run prog w = .ok (.int .i64 x4) w by kernel_rfl)
 | 5,_,_=>exact (show (Instr.index 96 (.agg ([.int .i64 x0,.int .i64 x1,.int .i64 x2,.int .i64 x3,.int .i64 x4,.int .i64 x5]:List Value).toArray) (.int k ((5:Nat):Int))).run prog w = .ok (.int .i64 x5) w by kernel_rfl)
instance(x0:Int)(x1:Int)(x2:Int)(x3:Int)(x4:Int)(x5:Int):Aww prog 96 [iq x0,iq x1,iq x2,iq x3,iq x4,iq x5]:=⟨Bci _ _ _ _ _ _⟩
instance(x0:Int)(x1:Int)(x2:Int)(x3:Int)(x4:Int)(x5:Int):Asp prog 96 [iq x0,iq x1,iq x2,iq x3,iq x4,iq x5] (Value.int .i64) [x0,x1,x2,x3,x4,x5]:=⟨Bci _ _ _ _ _ _⟩
def Jq(p0:Ag):Int->Option (Sum Int (Sum Unit Bool)):=fun s0=>
 if s0<6 then (bnd (idx [p0.Reach,p0.Flat,p0.Tall,p0.High,p0.Low,p0.Brush] s0) fun x0=>
 bnd (Cd 0 x0 1000000) fun r0=>
 if r0=true then (some (.inl (w64 (s0+1))))
 else (some (.inr (.inr false))))
 else (some (.inr (.inl ())))
def Ox(p0:Ag):Option Bool :=
 jn (fun (s2:Unit)=>
 jn (fun (s0:Bool)=>
 some s0)
 (fun j0=>bnd (Cd 1 p0.Cell 10000000) fun r0=>
 if r0=true then (bnd (Cd 0 p0.Slope 100000) fun r1=>
 if r1=true then (bnd (Cd 1 p0.Link 1000000) fun r2=>
 if r2=true then (bnd (Cd 1 p0.Few 1024) fun r3=>
 j0 r3)
 else (j0 false))
 else (j0 false))
 else (j0 false)))
 (fun j2=>bnd (lfix (Jq p0) 0) fun t0=>
 (match t0 with
 | (.inl z0)=>j2 z0
 | (.inr z0)=>some z0
 ))
def Ui(p0:Aa)(p1:Aa):Option Bool :=
 jn (fun (s2:Bool)=>
 some s2)
 (fun j2=>if p0.Z.Hi<p1.Z.Hi then (j2 true)
 else (if p0.Z.Hi=p1.Z.Hi then (j2 (decide (p0.Id<p1.Id)))
 else (j2 false)))
def Ux(p0:Ac)(p1:Ac):Option Int :=
 some (w64 ((w64 ((w64 (p0.X-p1.X))*(w64 (p0.X-p1.X))))+(w64 ((w64 (p0.Y-p1.Y))*(w64 (p0.Y-p1.Y))))))
def Vr(p0:Aa)(p1:Aa)(p2:Int):Option Bool :=
 bnd (Ci p0) fun r3=>
 bnd (Ci p1) fun r6=>
 bnd (Ux r3 r6) fun r9=>
 some (decide (r9<=(w64 (p2*p2))))
def Ns(p0:List Aa)(p1:Ag):Option Int :=
 bnd (Ox p1) fun r2=>
 if r2=true then (bnd (Wj p0) fun r8=>
 if r8=true then (some 0)
 else (some 70))
 else (some 71)
def Qj(p0:List Aa)(p1:Int)(p2:Ag):(Bool × Int)->Option (Sum (Bool × Int) (Sum Bool Bool)):=fun s0=>
 if s0.2<(p0.length:Int) then (jn (fun (s1:Bool)=>
 some (.inl (s1,w64 (s0.2+1))))
 (fun j0=>bnd (idx p0 s0.2) fun x0=>
 jn (fun (s2:Bool)=>
 if s2=true then (j0 s0.1)
 else (bnd (idx p0 p1) fun x1=>
 if (w64 (x0.Z.Lo-x1.Z.Hi))<=p2.Low then (some (.inr (.inr false)))
 else (j0 true)))
 (fun j1=>if s0.2=p1 then (j1 true)
 else (bnd (idx p0 p1) fun x2=>
 bnd (Vr x2 x0 p2.Link) fun r0=>
 j1 (!(r0))))))
 else (some (.inr (.inl s0.1)))
def Uy(p0:List Aa)(p1:Int)(p2:Ag):Option Bool :=
 jn (fun (s3:Bool)=>
 some s3)
 (fun j3=>bnd (lfix (Qj p0 p1 p2) (false,0)) fun t0=>
 (match t0 with
 | (.inl z0)=>j3 z0
 | (.inr z0)=>some z0
 ))
def Mh(p0:List Aa)(p1:Ag):(List Aa × List Aa × Int)->Option (Sum (List Aa × List Aa × Int) (List Aa × List Aa)):=fun s0=>
 if s0.2.2<(p0.length:Int) then (jn (fun (s1:List Aa × List Aa)=>
 some (.inl (s1.1,s1.2,w64 (s0.2.2+1))))
 (fun j0=>bnd (idx p0 s0.2.2) fun x0=>
 bnd (Uy p0 s0.2.2 p1) fun r0=>
 if r0=true then (gd ((s0.2.1.length+1)*72<=140737488355328)<|
 j0 (s0.1,s0.2.1++[x0]))
 else (gd ((s0.1.length+1)*72<=140737488355328)<|
 j0 (s0.1++[x0],s0.2.1))))
 else (some (.inr (s0.1,s0.2.1)))
def Pq(p0:List Aa)(p1:Ag):Option (List Aa × List Aa):=
 jn (fun (s2:List Aa × List Aa)=>
 some (s2.1,s2.2))
 (fun j2=>bnd (lfix (Mh p0 p1) (([]:List Aa),([]:List Aa),0)) fun t0=>
 j2 t0)
def Rw(p0:Int)(p1:Int):Option Int :=
 gd (p1≠0)<|
 jn (fun (s3:Int)=>
 some s3)
 (fun j3=>gd (p1≠0)<|
 if (Int.tmod p0 p1)<0 then (j3 (w64 ((w64 (Int.tdiv p0 p1))-1)))
 else (j3 (w64 (Int.tdiv p0 p1))))
def Tw(p0:Ac)(p1:Ac)(p2:Ac):Option Int :=
 if 0<(w64 ((w64 ((w64 (p1.X-p0.X))*(w64 (p2.Y-p0.Y))))-(w64 ((w64 (p1.Y-p0.Y))*(w64 (p2.X-p0.X)))))) then (some 1)
 else (if (w64 ((w64 ((w64 (p1.X-p0.X))*(w64 (p2.Y-p0.Y))))-(w64 ((w64 (p1.Y-p0.Y))*(w64 (p2.X-p0.X))))))<0 then (some (-1))
 else (some 0))
def Acn(p0:Ac)(p1:Ac)(p2:Ac):Option Bool :=
 jn (fun (s2:Bool)=>
 some s2)
 (fun j2=>bnd (Tw p0 p1 p2) fun r4=>
 if r4=0 then (bnd (Cd (min p0.X p1.X) p2.X (max p0.X p1.X)) fun r9=>
 if r9=true then (bnd (Cd (min p0.Y p1.Y) p2.Y (max p0.Y p1.Y)) fun r0=>
 j2 r0)
 else (j2 false))
 else (j2 false))
instance:UndI prog 4 (.bool):=⟨underlying4⟩
def Tf(p0:Ac)(p1:Ac)(p2:Ac):Option Bool :=
 if ((decide (p2.Y<p0.Y)) == (decide (p2.Y<p1.Y)))=true then (some false)
 else (if p0.Y<p1.Y then (bnd (Tw p0 p1 p2) fun r9=>
 some (decide (0<r9)))
 else (bnd (Tw p1 p0 p2) fun r0=>
 some (decide (0<r0))))
instance:UndI prog 58 (.slice 57):=⟨underlying58⟩
def Mi(p0:List Ac)(p1:Ac):(Bool × Int × Int × Int)->Option (Sum (Bool × Int × Int × Int) (Sum Bool Bool)):=fun s0=>
 if s0.2.2.2<(p0.length:Int) then (bnd (idx p0 s0.2.2.2) fun x0=>
 bnd (Acn (⟨s0.2.1,s0.2.2.1⟩:Ac) x0 p1) fun r0=>
 if r0=true then (some (.inr (.inr true)))
 else (jn (fun (s1:Bool)=>
 some (.inl (s1,x0.X,x0.Y,w64 (s0.2.2.2+1))))
 (fun j0=>bnd (Tf (⟨s0.2.1,s0.2.2.1⟩:Ac) x0 p1) fun r1=>
 if r1=true then (j0 (!(s0.1)))
 else (j0 s0.1))))
 else (some (.inr (.inl s0.1)))
def Uz(p0:List Ac)(p1:Ac):Option Bool :=
 bnd (idx p0 (w64 ((p0.length:Int)-1))) fun x2=>
 jn (fun (s4:Bool)=>
 some s4)
 (fun j4=>bnd (lfix (Mi p0 p1) (false,x2.X,x2.Y,0)) fun t0=>
 (match t0 with
 | (.inl z0)=>j4 z0
 | (.inr z0)=>some z0
 ))
def Ne(x:Ac):List Value:=[iq x.X,iq x.Y]
instance(x0:Int)(x1:Int):DecI Ne [iq x0,iq x1] (⟨x0,x1⟩):=⟨rfl⟩
instance:EncI 57 Ne:=⟨trivial⟩
def Lv(p0:List Ac):Int->Option (Sum Int (Sum Unit Bool)):=fun s0=>
 if s0<(p0.length:Int) then (bnd (idx p0 s0) fun x0=>
 bnd (Hy x0) fun r0=>
 if r0=true then (some (.inl (w64 (s0+1))))
 else (some (.inr (.inr false))))
 else (some (.inr (.inl ())))
def Qk(p0:List Ac):Option Bool :=
 bnd (Cd 3 (p0.length:Int) 64) fun r1=>
 if r1=true then (jn (fun (s5:Unit)=>
 some true)
 (fun j5=>bnd (lfix (Lv p0) 0) fun t0=>
 (match t0 with
 | (.inl z0)=>j5 z0
 | (.inr z0)=>some z0
 )))
 else (some false)
def Ik(p0:List Ac)(p1:Ac):Option (Bool × Int):=
 bnd (Qk p0) fun r2=>
 if r2=true then (bnd (Hy p1) fun r8=>
 if r8=true then (bnd (Uz p0 p1) fun r0=>
 some (r0,0))
 else (some (false,11)))
 else (some (false,72))
instance Aj8(p0:Int)(p1:Int)(p2:Int):Con (Cd p0 p1 p2) prog 69 (fun _ vs=>vs=[iq p0,iq p1,iq p2]) (fun _ r=>fun v Ln=>v = .bool r/\Ln=[]/\True):=⟨by
 rintro _ _ r rfl hx w hK;unfold Cd at hx;refine CtS ntmps69 results69 ?_;exact au⟩
theorem Ahx(p0:Int)(p1:Int)(p2:Int){r:Bool}(hx:Cd p0 p1 p2=some r)(w:World):CtL prog 69 [iq p0,iq p1,iq p2] w fun v Ln=>v = .bool r/\Ln=[]/\True:=(Aj8 p0 p1 p2).h [] _ _ rfl hx w (fun _ h=>absurd h List.not_mem_nil)
instance(p0:Ac):Con (Hy p0) prog 66 (fun _ vs=>vs=[.agg #[iq p0.X,iq p0.Y]]) (fun _ r=>fun v Ln=>v = .bool r/\Ln=[]/\True):=⟨by
 rintro _ _ r rfl hx w hK;unfold Hy at hx;refine CtS ntmps66 results66 ?_;exact au⟩
instance Akx(p0:Aa):Con (Ci p0) prog 70 (fun _ vs=>vs=[.agg #[iq p0.Id,iq p0.X,iq p0.Y,iq p0.Z.Lo,iq p0.Z.Hi,iq p0.Wide,iq p0.Num,iq p0.Of,iq p0.Class]]) (fun _ r=>fun v Ln=>v = .agg #[iq r.X,iq r.Y]/\Ln=[]/\True):=⟨by
 rintro _ _ r rfl hx w hK;unfold Ci at hx;refine CtS ntmps70 results70 ?_;exact au⟩
theorem Aj9(p0:Aa){r:Ac}(hx:Ci p0=some r)(w:World):CtL prog 70 [.agg #[iq p0.Id,iq p0.X,iq p0.Y,iq p0.Z.Lo,iq p0.Z.Hi,iq p0.Wide,iq p0.Num,iq p0.Of,iq p0.Class]] w fun v Ln=>v = .agg #[iq r.X,iq r.Y]/\Ln=[]/\True:=(Akx p0).h [] _ _ rfl hx w (fun _ h=>absurd h List.not_mem_nil)
instance(p0:Aa):Con (Ow p0) prog 32 (fun _ vs=>vs=[.agg #[iq p0.Id,iq p0.X,iq p0.Y,iq p0.Z.Lo,iq p0.Z.Hi,iq p0.Wide,iq p0.Num,iq p0.Of,iq p0.Class]]) (fun _ r=>fun v Ln=>v = .bool r/\Ln=[]/\True):=⟨by
 rintro _ _ r rfl hx w hK;unfold Ow at hx;refine CtS ntmps32 results32 ?_;try (refine pre ?_;intros;rename_i hx)
 refine Bh ?_;try (refine pre ?_;intros;rename_i hx)
 apply Jr (γ:=Unit) hx [] (fun s2 y2 f=>(2,.bool s2)::f) [999] (fun s2 y2 l=>l);exact kk
 ·intro s2 y2 hx;exact au
 ·intro _ hx;try (refine pre ?_;intros;rename_i hx)
  refine Cq3 (s:=6) hx rfl (fun _ hx=>?_) (fun _ hx=>?_)
  ·try (refine pre ?_;intros;rename_i hx)
   refine Cq3 (s:=11) hx rfl (fun _ hx=>?_) (fun _ hx=>?_)
   ·exact au
   ·exact au
  ·exact au⟩
instance(p0:List Aa):Con (Wj p0) prog 91 (fun K vs=>∃ E0 G0,vs=[.slice E0 p0.length G0]/\Has K E0 p0.length G0 9 Ai p0/\True) (fun _ r=>fun v Ln=>v = .bool r/\Ln=[]/\True):=⟨by
 rintro K _ r ⟨E0,G0,rfl,ha0,-⟩ hx w hK;replace ha0:=Has.lo ha0 hK;unfold Wj at hx;refine CtS ntmps91 results91 ?_;try (refine pre ?_;intros;rename_i hx)
 refine Cq1 (s:=8) hx rfl (fun _ hx=>?_) (fun _ hx=>?_)
 ·exact au
 ·try (refine pre ?_;intros;rename_i hx)
  refine Bh ?_;try (refine pre ?_;intros;rename_i hx)
  apply Jr (γ:=Unit) hx [] (fun s6 y6 f=>f) [999] (fun s6 y6 l=>l);exact kk
  ·intro s6 y6 hx;exact au
  ·intro _ hx;try (refine pre ?_;intros;rename_i hx)
   apply Lr (γ:=Nat) hx [12,13] (fun s0 y0 f=>(3,.map (some y0))::(14,iq s0.2)::f) [999] (fun s0 y0 l=>Bb prog 3 Cs Bu y0 s0.1::l) _;exact kk;exact sk;intro s0 y0 x0 hx _;unfold Lu at hx;exact au⟩
instance(p0:Ag):Con (Ox p0) prog 31 (fun _ vs=>vs=[.agg #[iq p0.Cell,iq p0.Reach,iq p0.Slope,iq p0.Link,iq p0.Flat,iq p0.Tall,iq p0.High,iq p0.Low,iq p0.Brush,iq p0.Few]]) (fun _ r=>fun v Ln=>v = .bool r/\Ln=[]/\True):=⟨by
 rintro _ _ r rfl hx w hK;unfold Ox at hx;refine CtS ntmps31 results31 ?_;try (refine pre ?_;intros;rename_i hx)
 refine Bh ?_;try (refine pre ?_;intros;rename_i hx)
 apply Jr (γ:=Unit) hx [1] (fun s2 y2 f=>f) [0,999] (fun s2 y2 l=>l);exact kk
 ·intro s2 y2 hx;exact au
 ·intro _ hx;try (refine pre ?_;intros;rename_i hx)
  apply Lr (γ:=Unit) hx [1,17] (fun s0 y0 f=>(18,iq s0)::f) [0,999] (fun s0 y0 l=>l) ();exact kk;exact sk;intro s0 y0 x0 hx _;unfold Jq at hx;exact au⟩
instance Aky(p0:Aa)(p1:Aa):Con (Ui p0 p1) prog 93 (fun _ vs=>vs=[.agg #[iq p0.Id,iq p0.X,iq p0.Y,iq p0.Z.Lo,iq p0.Z.Hi,iq p0.Wide,iq p0.Num,iq p0.Of,iq p0.Class],.agg #[iq p1.Id,iq p1.X,iq p1.Y,iq p1.Z.Lo,iq p1.Z.Hi,iq p1.Wide,iq p1.Num,iq p1.Of,iq p1.Class]]) (fun _ r=>fun v Ln=>v = .bool r/\Ln=[]/\True):=⟨by
 rintro _ _ r rfl hx w hK;unfold Ui at hx;refine CtS ntmps93 results93 ?_;exact au⟩
theorem Aka(p0:Aa)(p1:Aa){r:Bool}(hx:Ui p0 p1=some r)(w:World):CtL prog 93 [.agg #[iq p0.Id,iq p0.X,iq p0.Y,iq p0.Z.Lo,iq p0.Z.Hi,iq p0.Wide,iq p0.Num,iq p0.Of,iq p0.Class],.agg #[iq p1.Id,iq p1.X,iq p1.Y,iq p1.Z.Lo,iq p1.Z.Hi,iq p1.Wide,iq p1.Num,iq p1.Of,iq p1.Class]] w fun v Ln=>v = .bool r/\Ln=[]/\True:=(Aky p0 p1).h [] _ _ rfl hx w (fun _ h=>absurd h List.not_mem_nil)
instance(p0:Ac)(p1:Ac):Con (Ux p0 p1) prog 78 (fun _ vs=>vs=[.agg #[iq p0.X,iq p0.Y],.agg #[iq p1.X,iq p1.Y]]) (fun _ r=>fun v Ln=>v = iq r/\Ln=[]/\True):=⟨by
 rintro _ _ r rfl hx w hK;unfold Ux at hx;have:=dl 1 [0,1,0,1,0,0,1,0,1,0,2,2] [0,1,2,3,4,5,6,7,8,9,10,11];refine CtS ntmps78 results78 ?_;exact au⟩
instance(p0:Aa)(p1:Aa)(p2:Int):Con (Vr p0 p1 p2) prog 155 (fun _ vs=>vs=[.agg #[iq p0.Id,iq p0.X,iq p0.Y,iq p0.Z.Lo,iq p0.Z.Hi,iq p0.Wide,iq p0.Num,iq p0.Of,iq p0.Class],.agg #[iq p1.Id,iq p1.X,iq p1.Y,iq p1.Z.Lo,iq p1.Z.Hi,iq p1.Wide,iq p1.Num,iq p1.Of,iq p1.Class],iq p2]) (fun _ r=>fun v Ln=>v = .bool r/\Ln=[]/\True):=⟨by
 rintro _ _ r rfl hx w hK;unfold Vr at hx;have:=dl 1 [1,2,1,2,2,0,0,0,0,2] [0,2,5,6,7,1,3,4,8,9];refine CtS ntmps155 results155 ?_;exact au⟩
instance Ahy(p0:List Aa)(p1:Ag):Con (Ns p0 p1) prog 42 (fun K vs=>∃ E0 G0,vs=[.slice E0 p0.length G0,.agg #[iq p1.Cell,iq p1.Reach,iq p1.Slope,iq p1.Link,iq p1.Flat,iq p1.Tall,iq p1.High,iq p1.Low,iq p1.Brush,iq p1.Few]]/\Has K E0 p0.length G0 9 Ai p0/\True) (fun _ r=>fun v Ln=>v = iq r/\Ln=[]/\True):=⟨by
 rintro K _ r ⟨E0,G0,rfl,ha0,-⟩ hx w hK;replace ha0:=Has.lo ha0 hK;unfold Ns at hx;refine CtS ntmps42 results42 ?_;exact au⟩
theorem Ags(p0:List Aa)(p1:Ag){K:List Ent}{E0:Option Addr}{G0:Nat}(ha0:Has K E0 p0.length G0 9 Ai p0){r:Int}(hx:Ns p0 p1=some r)(w:World)(hK:∀ e∈K,Ent.ok w e):CtL prog 42 [.slice E0 p0.length G0,.agg #[iq p1.Cell,iq p1.Reach,iq p1.Slope,iq p1.Link,iq p1.Flat,iq p1.Tall,iq p1.High,iq p1.Low,iq p1.Brush,iq p1.Few]] w fun v Ln=>v = iq r/\Ln=[]/\True:=(Ahy p0 p1).h K _ _ ⟨_,_,rfl,ha0,trivial⟩ hx w hK
instance(p0:List Aa)(p1:Int)(p2:Ag):Con (Uy p0 p1 p2) prog 150 (fun K vs=>∃ E0 G0,vs=[.slice E0 p0.length G0,iq p1,.agg #[iq p2.Cell,iq p2.Reach,iq p2.Slope,iq p2.Link,iq p2.Flat,iq p2.Tall,iq p2.High,iq p2.Low,iq p2.Brush,iq p2.Few]]/\Has K E0 p0.length G0 9 Ai p0/\True) (fun _ r=>fun v Ln=>v = .bool r/\Ln=[]/\True):=⟨by
 rintro K _ r ⟨E0,G0,rfl,ha0,-⟩ hx w hK;replace ha0:=Has.lo ha0 hK;unfold Uy at hx;have:=dl 5 [0,0,0,0,0,0,0,1,1,0,1,2,0,0] [0,1,2,3,4,5,6,7,8,9,10,11,12,13];have:=dl 6 [0,0,1,0,0,0,0,0,1,0,0,1,0] [0,1,2,3,4,5,6,7,8,9,10,11,12];refine CtS ntmps150 results150 ?_;try (refine pre ?_;intros;rename_i hx)
 refine Bh ?_;try (refine pre ?_;intros;rename_i hx)
 refine Bh ?_;try (refine pre ?_;intros;rename_i hx)
 apply Jr (γ:=Unit) hx [] (fun s3 y3 f=>(7,.bool s3)::f) [999] (fun s3 y3 l=>l);exact kk
 ·intro s3 y3 hx;exact au
 ·intro _ hx;try (refine pre ?_;intros;rename_i hx)
  apply Lr (γ:=Unit) hx [0,1,5,10,11] (fun s0 y0 f=>(7,.bool s0.1)::(12,iq s0.2)::f) [0,999] (fun s0 y0 l=>l) ();exact kk;exact sk;intro s0 y0 x0 hx _;unfold Qj at hx;try (refine pre ?_;intros;rename_i hx)
  refine Cq1 (s:=13) hx rfl (fun _ hx=>?_) (fun _ hx=>?_)
  ·try (refine pre ?_;intros;rename_i hx)
   apply Jr (γ:=Unit) hx [0,1,5,10,11,12] (fun s1 y1 f=>(7,.bool s1)::f) [0,999] (fun s1 y1 l=>l);exact kk
   ·intro s1 y1 hx;exact au
   ·intro _ hx;try (refine pre ?_;intros;rename_i hx)
    refine Bh ?_;try (refine pre ?_;intros;rename_i hx)
    apply Jr (γ:=Unit) hx [0,1,5,7,9,10,11,12] (fun s2 y2 f=>(30,.bool s2)::f) [0,1,999] (fun s2 y2 l=>l);exact kk
    ·intro s2 y2 hx;exact au
    ·intro _ hx;exact au
  ·exact au⟩
instance Akb(p0:List Aa)(p1:Ag):Con (Pq p0 p1) prog 96 (fun K vs=>∃ E0 G0,vs=[.slice E0 p0.length G0,.agg #[iq p1.Cell,iq p1.Reach,iq p1.Slope,iq p1.Link,iq p1.Flat,iq p1.Tall,iq p1.High,iq p1.Low,iq p1.Brush,iq p1.Few]]/\Has K E0 p0.length G0 9 Ai p0/\True) (fun _ r=>fun v Ln=>∃ A0 c0 A2 c2,v = .tuple #[.slice A0 r.1.length c0,.slice A2 r.2.length c2]/\Ln=[.r A0 r.1.length c0 30 9 (r.1.flatMap Ai),.r A2 r.2.length c2 30 9 (r.2.flatMap Ai)]/\True):=⟨by
 rintro K _ r ⟨E0,G0,rfl,ha0,-⟩ hx w hK;replace ha0:=Has.lo ha0 hK;unfold Pq at hx;refine CtS ntmps96 results96 ?_;try (refine pre ?_;intros;rename_i hx)
 refine Bh ?_;try (refine pre ?_;intros;rename_i hx)
 apply Jr (γ:=Option Addr × Nat × Option Addr × Nat) hx [] (fun s2 y2 f=>(4,.slice y2.1 s2.1.length y2.2.1)::(5,.slice y2.2.2.1 s2.2.length y2.2.2.2)::f) [999] (fun s2 y2 l=>.r y2.1 s2.1.length y2.2.1 30 9 (s2.1.flatMap Ai) :: .r y2.2.2.1 s2.2.length y2.2.2.2 30 9 (s2.2.flatMap Ai)::l);exact kk
 ·intro s2 y2 hx;exact au
 ·intro _ hx;try (refine pre ?_;intros;rename_i hx)
  refine Bi 30 9 ?_;refine Bi 30 9 ?_;apply Lr (γ:=Option Addr × Nat × Option Addr × Nat) hx [0,3,8,9] (fun s0 y0 f=>(4,.slice y0.1 s0.1.length y0.2.1)::(5,.slice y0.2.2.1 s0.2.1.length y0.2.2.2)::(10,iq s0.2.2)::f) [2,999] (fun s0 y0 l=>.r y0.1 s0.1.length y0.2.1 30 9 (s0.1.flatMap Ai) :: .r y0.2.2.1 s0.2.1.length y0.2.2.2 30 9 (s0.2.1.flatMap Ai)::l) (_,_,_,_);exact kk;exact sk;intro s0 y0 x0 hx _;unfold Mh at hx;exact au⟩
theorem Ahz(p0:List Aa)(p1:Ag){K:List Ent}{E0:Option Addr}{G0:Nat}(ha0:Has K E0 p0.length G0 9 Ai p0){r:List Aa × List Aa}(hx:Pq p0 p1=some r)(w:World)(hK:∀ e∈K,Ent.ok w e):CtL prog 96 [.slice E0 p0.length G0,.agg #[iq p1.Cell,iq p1.Reach,iq p1.Slope,iq p1.Link,iq p1.Flat,iq p1.Tall,iq p1.High,iq p1.Low,iq p1.Brush,iq p1.Few]] w fun v Ln=>∃ (A0:Option Addr) (c0:Nat) (A2:Option Addr) (c2:Nat),v = .tuple #[.slice A0 r.1.length c0,.slice A2 r.2.length c2]/\Ln=[.r A0 r.1.length c0 30 9 (r.1.flatMap Ai),.r A2 r.2.length c2 30 9 (r.2.flatMap Ai)]/\True:=(Akb p0 p1).h K _ _ ⟨_,_,rfl,ha0,trivial⟩ hx w hK
instance Akz(p0:Int)(p1:Int):Con (Rw p0 p1) prog 121 (fun _ vs=>vs=[iq p0,iq p1]) (fun _ r=>fun v Ln=>v = iq r/\Ln=[]/\True):=⟨by
 rintro _ _ r rfl hx w hK;unfold Rw at hx;refine CtS ntmps121 results121 ?_;exact au⟩
theorem Aco(p0:Int)(p1:Int){r:Int}(hx:Rw p0 p1=some r)(w:World):CtL prog 121 [iq p0,iq p1] w fun v Ln=>v = iq r/\Ln=[]/\True:=(Akz p0 p1).h [] _ _ rfl hx w (fun _ h=>absurd h List.not_mem_nil)
instance(p0:Ac)(p1:Ac)(p2:Ac):Con (Tw p0 p1 p2) prog 169 (fun _ vs=>vs=[.agg #[iq p0.X,iq p0.Y],.agg #[iq p1.X,iq p1.Y],.agg #[iq p2.X,iq p2.Y]]) (fun _ r=>fun v Ln=>v = iq r/\Ln=[]/\True):=⟨by
 rintro _ _ r rfl hx w hK;unfold Tw at hx;refine CtS ntmps169 results169 ?_;exact au⟩
instance(p0:Ac)(p1:Ac)(p2:Ac):Con (Acn p0 p1 p2) prog 118 (fun _ vs=>vs=[.agg #[iq p0.X,iq p0.Y],.agg #[iq p1.X,iq p1.Y],.agg #[iq p2.X,iq p2.Y]]) (fun _ r=>fun v Ln=>v = .bool r/\Ln=[]/\True):=⟨by
 rintro _ _ r rfl hx w hK;unfold Acn at hx;refine CtS ntmps118 results118 ?_;exact au⟩
instance(p0:Ac)(p1:Ac)(p2:Ac):Con (Tf p0 p1 p2) prog 119 (fun _ vs=>vs=[.agg #[iq p0.X,iq p0.Y],.agg #[iq p1.X,iq p1.Y],.agg #[iq p2.X,iq p2.Y]]) (fun _ r=>fun v Ln=>v = .bool r/\Ln=[]/\True):=⟨by
 rintro _ _ r rfl hx w hK;unfold Tf at hx;refine CtS ntmps119 results119 ?_;exact au⟩
instance(p0:List Ac)(p1:Ac):Con (Uz p0 p1) prog 67 (fun K vs=>∃ E0 G0,vs=[.slice E0 p0.length G0,.agg #[iq p1.X,iq p1.Y]]/\Has K E0 p0.length G0 2 Ne p0/\True) (fun _ r=>fun v Ln=>v = .bool r/\Ln=[]/\True):=⟨by
 rintro K _ r ⟨E0,G0,rfl,ha0,-⟩ hx w hK;replace ha0:=Has.lo ha0 hK;unfold Uz at hx;refine CtS ntmps67 results67 ?_;try (refine pre ?_;intros;rename_i hx)
 apply Jr (γ:=Unit) hx [] (fun s4 y4 f=>(5,.bool s4)::f) [999] (fun s4 y4 l=>l);exact kk
 ·intro s4 y4 hx;exact au
 ·intro _ hx;try (refine pre ?_;intros;rename_i hx)
  apply Lr (γ:=Nat) hx [3,15,16] (fun s44 y44 f=>(5,.bool s44.1)::(6,.pointer (some ⟨y44,0,none⟩))::(17,iq s44.2.2.2)::f) [1,999] (fun s44 y44 l=>.m y44 57 [iq s44.2.1,iq s44.2.2.1]::l) _;exact kk;exact sk;intro s44 y44 x44 hx _;unfold Mi at hx;exact au⟩
instance(p0:List Ac):Con (Qk p0) prog 65 (fun K vs=>∃ E0 G0,vs=[.slice E0 p0.length G0]/\Has K E0 p0.length G0 2 Ne p0/\True) (fun _ r=>fun v Ln=>v = .bool r/\Ln=[]/\True):=⟨by
 rintro K _ r ⟨E0,G0,rfl,ha0,-⟩ hx w hK;replace ha0:=Has.lo ha0 hK;unfold Qk at hx;refine CtS ntmps65 results65 ?_;try (refine pre ?_;intros;rename_i hx)
 refine Cq4 (s:=8) hx rfl (fun _ hx=>?_) (fun _ hx=>?_)
 ·exact au
 ·try (refine pre ?_;intros;rename_i hx)
  apply Jr (γ:=Unit) hx [] (fun s5 y5 f=>f) [999] (fun s5 y5 l=>l);exact kk
  ·intro s5 y5 hx;exact au
  ·intro _ hx;try (refine pre ?_;intros;rename_i hx)
   apply Lr (γ:=Unit) hx [9,10] (fun s29 y29 f=>(11,iq s29)::f) [999] (fun s29 y29 l=>l) ();exact kk;exact sk;intro s29 y29 x29 hx _;unfold Lv at hx;exact au⟩
instance(p0:List Ac)(p1:Ac):Con (Ik p0 p1) prog 29 (fun K vs=>∃ E0 G0,vs=[.slice E0 p0.length G0,.agg #[iq p1.X,iq p1.Y]]/\Has K E0 p0.length G0 2 Ne p0/\True) (fun _ r=>fun v Ln=>v = .tuple #[.bool r.1,iq r.2]/\Ln=[]/\True):=⟨by
 rintro K _ r ⟨E0,G0,rfl,ha0,-⟩ hx w hK;replace ha0:=Has.lo ha0 hK;unfold Ik at hx;refine CtS ntmps29 results29 ?_;exact au⟩
end
theorem Aok:Vf prog 41:=.mk underlying41 rfl (show prog.info? 41=some t41 from by kernel_rfl) kr
instance:OneI prog 41:=⟨Aok⟩
theorem Bb5:Vf prog 98:=.mk underlying98 rfl (show prog.info? 98=some t98 from by kernel_rfl) kr
instance:OneI prog 98:=⟨Bb5⟩
theorem Zr(x0:Int)(x1:Int):Gd prog 58 1 [(0,.agg #[iq x0,iq x1])] 57 [iq x0,iq x1]:=fun w=>kr
instance(x0:Int)(x1:Int):Rc prog 58 1 [(0,.agg #[iq x0,iq x1])] 57 [iq x0,iq x1]:=⟨Zr _ _⟩
theorem Bb6:Xl prog 58 57 2 16:=⟨underlying58,⟨t57,.agg #[iq 0,iq 0],kr,kr,kr,kr,rfl⟩,dD⟩
instance:Ag6 prog 58 57 2 16:=⟨Bb6⟩
def Eo(x:Ac):Value:=.agg #[iq x.X,iq x.Y]
theorem Ur(x y:Ac)(h:Eo x=Eo y):x=y:=by
 rcases x with⟨_,_⟩;rcases y with⟨_,_⟩;simp[Eo] at h;simp[h]
instance(x:Ac):UnfI Eo x (.agg #[iq x.X,iq x.Y]):=⟨rfl⟩
instance(x0:Int)(x1:Int):Ab4 Eo (.agg #[iq x0,iq x1]) (⟨x0,x1⟩):=⟨rfl⟩
instance:ValI prog 57 Eo ((⟨0,0⟩:Ac)):=⟨Ur,fun w=>kr⟩
theorem Aol:laidOutB prog=true:=kr
theorem Bdt:(match prog.underlying 57 with | some (.array _ _) | some (.struct _)=>true | _=>false)=true:=kr
theorem Ast:Maps.Keyed prog 57:=Maps.Keyed.of_law (deep_law_laid Aol (m:=3) oo (of_decide_eq_true kr) kr Bdt)
theorem Asu(x:Ac)(h:(-9223372036854775808<=x.X/\x.X<=9223372036854775807)/\(-9223372036854775808<=x.Y/\x.Y<=9223372036854775807)):(keyOf prog 57 (Eo x)).isSome=true:=by
 refine Aqr (cs:=[iq x.X,iq x.Y]) (d:=333) kr underlying57 kr kr kr (fun f hf=>?_);simp only[List.mem_cons,List.not_mem_nil,or_false] at hf;rcases hf with rfl | rfl
 ·exact⟨.i64,x.X,underlying3,kr,Ajo h.1⟩
 ·exact⟨.i64,x.Y,underlying3,kr,Ajo h.2⟩
instance:KeyI prog 57 Eo (fun x=>(-9223372036854775808<=x.X/\x.X<=9223372036854775807)/\(-9223372036854775808<=x.Y/\x.Y<=9223372036854775807)):=⟨Ast,Ur,Asu⟩
instance:UndI prog 201 (.map 57 30):=⟨underlying201⟩
def Ce(x:Aa):Value:=.agg #[iq x.Id,iq x.X,iq x.Y,iq x.Z.Lo,iq x.Z.Hi,iq x.Wide,iq x.Num,iq x.Of,iq x.Class]
theorem Ahq(x y:Aa)(h:Ce x=Ce y):x=y:=by
 rcases x with⟨_,_,_,⟨_,_⟩,_,_,_,_⟩;rcases y with⟨_,_,_,⟨_,_⟩,_,_,_,_⟩;simp[Ce] at h;simp[h]
instance(x:Aa):UnfI Ce x (.agg #[iq x.Id,iq x.X,iq x.Y,iq x.Z.Lo,iq x.Z.Hi,iq x.Wide,iq x.Num,iq x.Of,iq x.Class]):=⟨rfl⟩
instance(x0:Int)(x1:Int)(x2:Int)(x3:Int)(x4:Int)(x5:Int)(x6:Int)(x7:Int)(x8:Int):Ab4 Ce (.agg #[iq x0,iq x1,iq x2,iq x3,iq x4,iq x5,iq x6,iq x7,iq x8]) (⟨x0,x1,x2,⟨x3,x4⟩,x5,x6,x7,x8⟩):=⟨rfl⟩
instance:ValI prog 30 Ce ((⟨0,0,0,(⟨0,0⟩:Aw),0,0,0,0⟩:Aa)):=⟨Ahq,fun w=>kr⟩
noncomputable def Jj(p1:List Aa)(ky:Aa->Option Ac):((List (Ac × Aa)) × List Ac × Int)->Option (Sum ((List (Ac × Aa)) × List Ac × Int) ((List (Ac × Aa)) × List Ac)):=fun s0=>
 if s0.2.2<(p1.length:Int) then (jn (fun (s1:(List (Ac × Aa)) × List Ac)=>
 some (.inl (s1.1,s1.2,w64 (s0.2.2+1))))
 (fun j0=>bnd (idx p1 s0.2.2) fun x0=>
 bnd (ky x0) fun x1=>
 gd ((-9223372036854775808<=x1.X/\x1.X<=9223372036854775807)/\(-9223372036854775808<=x1.Y/\x1.Y<=9223372036854775807))<|
 bnd (some ((mget s0.1 x1).getD ((⟨0,0,0,(⟨0,0⟩:Aw),0,0,0,0⟩:Aa)))) fun x2=>
 jn (fun (s2:List Ac)=>
 jn (fun (s3:Bool)=>
 if s3=true then (gd ((-9223372036854775808<=x1.X/\x1.X<=9223372036854775807)/\(-9223372036854775808<=x1.Y/\x1.Y<=9223372036854775807))<|
 gd (s0.1.length<9223372036854775807)<|
 j0 (mput s0.1 x1 x0,s2))
 else (j0 (s0.1,s2)))
 (fun j1=>if ((mget s0.1 x1).isSome)=true then (bnd (Ui x0 x2) fun r0=>
 j1 r0)
 else (j1 true)))
 (fun j2=>if ((mget s0.1 x1).isSome)=true then (j2 s0.2.1)
 else (gd ((s0.2.1.length+1)*16<=140737488355328)<|
 j2 (s0.2.1++[x1])))))
 else (some (.inr (s0.1,s0.2.1)))
noncomputable def Im{σ:Type}(s3:(List (Ac × Aa)) × List Ac)(st:σ->Aa->Option σ):(σ × Int)->Option (Sum (σ × Int) σ):=fun s0=>
 if s0.2<(s3.2.length:Int) then (bnd (idx s3.2 s0.2) fun x0=>
 gd ((-9223372036854775808<=x0.X/\x0.X<=9223372036854775807)/\(-9223372036854775808<=x0.Y/\x0.Y<=9223372036854775807))<|
 bnd (some ((mget s3.1 x0).getD ((⟨0,0,0,(⟨0,0⟩:Aw),0,0,0,0⟩:Aa)))) fun x1=>
 bnd (st s0.1 x1) fun x2=>
 some (.inl (x2,w64 (s0.2+1))))
 else (some (.inr s0.1))
noncomputable def Kg{σ:Type}(ky:Aa->Option Ac)(st:σ->Aa->Option σ)(p1:List Aa)(ys:σ):Option σ :=
 jn (fun (s3:(List (Ac × Aa)) × List Ac)=>
 bnd (lfix (Im s3 st) (ys,0)) fun t0=>
 some t0)
 (fun j3=>bnd (lfix (Jj p1 ky) (([]:List (Ac × Aa)),([]:List Ac),0)) fun t1=>
 j3 t1)
noncomputable def Nm(p0:Aa)(p1:Ag):Option Ac :=
 bnd (Rw p0.X p1.Cell) fun r3=>
 bnd (Rw p0.Y p1.Cell) fun r6=>
 some (⟨r3,r6⟩:Ac)
theorem Wu{σ:Type}(ky:Aa->Option Ac)(st:σ->Aa->Option σ)(p1:List Aa)(ys:σ){kv:Value}{l:Nat}{Inv:σ->Ent->Prop}{ye:Ent}{K:List Ent}{E0:Option Addr}{G0:Nat}(ha0:Has K E0 p1.length G0 9 Ai p1){g0_1:Nat}{g0_2:Nat}(hp1:Pt K g0_1 0 [.slice E0 p1.length G0])(hp2:Pt K g0_2 0 [kv])(hkey:Abh prog K kv Ce Eo ky)(hy:∀ s x s' e,st s x=some s'->Inv s e->Ak8 prog l [Ce x] e (Inv s'))(hi0:Inv ys ye){r:σ}(hx:Kg ky st p1 ys=some r):CtK prog 170 [.func (.yield l) #[] #[],.pointer (some ⟨g0_1,0,none⟩),.pointer (some ⟨g0_2,0,none⟩)] K [ye] (fun _ Ln=>∃ e,Ln=[e]/\Inv r e):=by
 have ha0':=Has.up0 ha0;have hp1':=Pt.up0 hp1;have hp2':=Pt.up0 hp2;refine CtK.mk 59 func170 rfl ntmps170 kr rfl ?_;intro Lf hKf;show T 59 _ [(0,.func (.yield l) #[] #[]),(1,.pointer (some ⟨g0_1,0,none⟩)),(2,.pointer (some ⟨g0_2,0,none⟩))] ([ye]++Lf);unfold Kg at hx;refine Y2 ?_;refine T_x (Abt prog 57 Eo Ce rfl (fun g1=>?_));refine Y8 ?_;refine Tj (γ:=Option Addr × Nat) hx (fun s3 y3=>[(0,.func (.yield l) #[] #[]),(4,.map (some g1)),(5,.slice y3.1 s3.2.length y3.2)]) (fun s3 y3=>[.r y3.1 s3.2.length y3.2 57 2 (s3.2.flatMap Ne),Bb prog 57 Eo Ce g1 s3.1,ye]++Lf) (fun s3 y3=>True) (fun s3 y3 hx0 hG0=>?_) (fun j3 hx=>?_)
 ·refine Y3 ?_;refine At (Dn rfl 57 underlying58) rfl ?_;refine Y4 ?_;obtain⟨t0,hl0,ho0⟩:=Ao hx0;refine Lp (σ:=σ × Int) (γ:=Ent) hl0 (fun s0 y0=>[(0,.func (.yield l) #[] #[]),(4,.map (some g1)),(46,.slice y3.1 s3.2.length y3.2),(47,iq (s3.2.length:Int)),(48,iq s0.2)]) (fun s0 y0=>[.r y3.1 s3.2.length y3.2 57 2 (s3.2.flatMap Ne),Bb prog 57 Eo Ce g1 s3.1,y0]++Lf) (fun s0 y0=>Inv s0.1 y0/\True) ye ((by exact⟨hi0,trivial⟩)) (by exact .pick 0 rfl (.pick 0 rfl (.pick 0 rfl (.refl)))) ?_;intro s0 y0 hG1 x0 hx1 ht0;unfold Im at hx1;obtain⟨hi138,-⟩:=hG1;refine Y6 ?_;refine Ti hx1 (s:=49) rfl (fun h0 hx2=>?_) (fun h0 hx3=>?_)
  ·refine Y7 ?_;obtain⟨x1,h1,hx4⟩:=Ao hx2;refine Aa6 (k:=0) rfl dD (fun _=>rfl) h1 (fun b0 j0 hA0 hj0 hl1 hm0 hp0=>?_);refine At (Bl rfl rfl hA0 (j:=j0) hj0 hl1 Bch) rfl ?_;refine At (Db rfl hp0 (sb 0) rfl Uh) rfl ?_;refine T_x (Bt Ate rfl (fun g0=>?_));refine T_h (Ay rfl rfl rfl (.here) (.put (.put (.done))) rfl (List.cons_ne_nil _ _) Uh.2 ?_);refine Y3 ?_;refine Bco ?_;refine Sr (Aao rfl) rfl ?_;refine Sr (Aao rfl) rfl ?_;refine Sr (Bo rfl (i:=0) rfl rfl Uh) rfl ?_;obtain⟨h2,hx5⟩:=Bv hx4;obtain⟨x2,h3,hx6⟩:=Ao hx5;refine Sr (Aip (x:=x1) (i:=2) (vv:=.agg #[iq x2.Id,iq x2.X,iq x2.Y,iq x2.Z.Lo,iq x2.Z.Hi,iq x2.Wide,iq x2.Num,iq x2.Of,iq x2.Class]) Ast underlying201 (fun w=>kr) Ur rfl rfl rfl rfl Rl (Asu x1 h2) h3 rfl) rfl ?_;obtain⟨x3,h4,hx7⟩:=Ao hx6;refine Azk (i:=3) rfl rfl rfl (hy _ _ _ _ h4 hi138) rfl (fun e0 hi163=>?_);refine Sr (Ap4 rfl) rfl ?_;refine Bcn ?_;refine Y9 ?_;exact Rp (x3,w64 (s0.2+1)) e0 hx7 ((by exact⟨hi163,trivial⟩)) (by exact .pick 2 rfl (.pick 2 rfl (.pick 0 rfl (.drop 0 rfl (.refl)))))
  ·refine Y3 ?_;obtain rfl:=Ii ht0 hx3;refine Y2 ?_;obtain rfl:=Option.some.inj ho0;exact Axm (rs:=[]) results170 (.nil) (Ln:=[y0]) ⟨y0,rfl,hi138⟩ (by exact .pick 2 rfl (.drop 0 rfl (.drop 0 rfl (.refl))))
 ·refine Y2 ?_;refine At (Ch rfl hp1' (SubE.appC (SubE.tail (SubE.tail hKf)) SubE.nil) rfl Aok) rfl ?_;refine At (Dn rfl 30 underlying41) rfl ?_;refine Y4 ?_;obtain⟨t1,hl2,ho1⟩:=Ao hx;refine Bi 57 2 ?_;have hn0:0=(([]:List Ac)).length:=by simp[Dr,Tm,List.length_append] <;> omega
  refine Wc (.here) (e':=.r none ((([]:List Ac)).length) 0 57 2 ((([]:List Ac)).flatMap Ne)) (by first | (rw[<- hn0];done) | rfl) ?_;refine Lp (σ:=(List (Ac × Aa)) × List Ac × Int) (γ:=Option Addr × Nat) hl2 (fun s1 y1=>[(0,.func (.yield l) #[] #[]),(2,.pointer (some ⟨g0_2,0,none⟩)),(4,.map (some g1)),(5,.slice y1.1 s1.2.1.length y1.2),(14,.slice E0 p1.length G0),(15,iq (p1.length:Int)),(16,iq s1.2.2)]) (fun s1 y1=>[.r y1.1 s1.2.1.length y1.2 57 2 (s1.2.1.flatMap Ne),Bb prog 57 Eo Ce g1 s1.1,ye]++Lf) (fun s1 y1=>True) (none,0) trivial (by exact .pick 0 rfl (.pick 0 rfl (.pick 0 rfl (.refl)))) ?_;intro s1 y1 hG2 x4 hx8 ht1;unfold Jj at hx8;refine Y6 ?_;refine Ti hx8 (s:=17) rfl (fun h5 hx9=>?_) (fun h5 hx59=>?_)
  ·refine Y3 ?_;refine Tj (γ:=Option Addr × Nat) hx9 (fun s2 y2=>[(0,.func (.yield l) #[] #[]),(2,.pointer (some ⟨g0_2,0,none⟩)),(4,.map (some g1)),(5,.slice y2.1 s2.2.length y2.2),(14,.slice E0 p1.length G0),(15,iq (p1.length:Int)),(16,iq s1.2.2)]) (fun s2 y2=>[.r y2.1 s2.2.length y2.2 57 2 (s2.2.flatMap Ne),Bb prog 57 Eo Ce g1 s2.1,ye]++Lf) (fun s2 y2=>True) (fun s2 y2 hx10 hG3=>?_) (fun j1 hx9=>?_)
   ·refine Y4 ?_;exact Rp (s2.1,s2.2,w64 (s1.2.2+1)) (y2.1,y2.2) hx10 trivial (by exact .pick 0 rfl (.pick 0 rfl (.pick 0 rfl (.refl))))
   ·refine Y3 ?_;obtain⟨x5,h6,hx62⟩:=Ao hx9;obtain⟨b1,o0,j2,hA1,hj1,hl3,hp3⟩:=Has.at_idx ha0' h6;refine At (Bl rfl rfl hA1 (j:=j2) hj1 hl3 Al5) rfl ?_;refine At (Db rfl hp3 (SubE.appC (SubE.tail (SubE.tail (SubE.tail hKf))) SubE.nil) rfl Vg) rfl ?_;refine T_x (Bt Aj7 rfl (fun g2=>?_));refine T_h (Ay rfl rfl rfl (.here) (.put (.put (.put (.put (.put (.put (.put (.put (.put (.done)))))))))) rfl (List.cons_ne_nil _ _) Vg.2 ?_);refine Y4 ?_;refine At (Ch rfl hp2' (SubE.appC (SubE.tail (SubE.tail (SubE.tail (SubE.tail hKf)))) SubE.nil) rfl Bb5) rfl ?_;refine At (Bo rfl (i:=0) rfl rfl Vg) rfl ?_;obtain⟨x6,h7,hx73⟩:=Ao hx62;refine T_x (Ap7 (u:=x5) hkey rfl rfl h7 (SubE.tail (SubE.tail (SubE.tail (SubE.tail hKf)))) rfl ?_);refine T_x (Bt Ate rfl (fun g3=>?_));refine T_h (Ay rfl rfl rfl (.here) (.put (.put (.done))) rfl (List.cons_ne_nil _ _) Uh.2 ?_);refine Y5 ?_;refine At (Bo rfl (i:=0) rfl rfl Uh) rfl ?_;obtain⟨h8,hx76⟩:=Bv hx73;obtain⟨x7,h9,hx79⟩:=Ao hx76;refine At (Aas (x:=x6) (i:=3) (vv:=.agg #[iq x7.Id,iq x7.X,iq x7.Y,iq x7.Z.Lo,iq x7.Z.Hi,iq x7.Wide,iq x7.Num,iq x7.Of,iq x7.Class]) Ast underlying201 (fun w=>kr) Ur rfl rfl rfl rfl Rl (Asu x6 h8) h9 rfl) rfl ?_;refine Y3 ?_;refine T_x (Bt Aj7 rfl (fun g4=>?_));refine T_h (Ay rfl rfl rfl (.here) (.put (.put (.put (.put (.put (.put (.put (.put (.put (.done)))))))))) rfl (List.cons_ne_nil _ _) Vg.2 ?_);refine Y3 ?_;refine Tj (γ:=Option Addr × Nat) hx79 (fun s4 y4=>[(0,.func (.yield l) #[] #[]),(2,.pointer (some ⟨g0_2,0,none⟩)),(4,.map (some g1)),(5,.slice y4.1 s4.length y4.2),(7,.pointer (some ⟨g2,0,none⟩)),(8,.pointer (some ⟨g3,0,none⟩)),(9,.pointer (some ⟨g4,0,none⟩)),(10,.bool ((mget s1.1 x6).isSome)),(14,.slice E0 p1.length G0),(15,iq (p1.length:Int)),(16,iq s1.2.2)]) (fun s4 y4=>[.m g4 30 [iq x7.Id,iq x7.X,iq x7.Y,iq x7.Z.Lo,iq x7.Z.Hi,iq x7.Wide,iq x7.Num,iq x7.Of,iq x7.Class],.m g3 57 [iq x6.X,iq x6.Y],.m g2 30 [iq x5.Id,iq x5.X,iq x5.Y,iq x5.Z.Lo,iq x5.Z.Hi,iq x5.Wide,iq x5.Num,iq x5.Of,iq x5.Class],.r y4.1 s4.length y4.2 57 2 (s4.flatMap Ne),Bb prog 57 Eo Ce g1 s1.1,ye]++Lf) (fun s4 y4=>True) (fun s4 y4 hx89 hG4=>?_) (fun j4 hx79=>?_)
    ·refine Tj (γ:=Unit) hx89 (fun s5 y5=>[(0,.func (.yield l) #[] #[]),(2,.pointer (some ⟨g0_2,0,none⟩)),(4,.map (some g1)),(5,.slice y4.1 s4.length y4.2),(7,.pointer (some ⟨g2,0,none⟩)),(8,.pointer (some ⟨g3,0,none⟩)),(14,.slice E0 p1.length G0),(15,iq (p1.length:Int)),(16,iq s1.2.2),(41,.bool s5)]) (fun s5 y5=>[.m g3 57 [iq x6.X,iq x6.Y],.m g2 30 [iq x5.Id,iq x5.X,iq x5.Y,iq x5.Z.Lo,iq x5.Z.Hi,iq x5.Wide,iq x5.Num,iq x5.Of,iq x5.Class],.r y4.1 s4.length y4.2 57 2 (s4.flatMap Ne),Bb prog 57 Eo Ce g1 s1.1,ye]++Lf) (fun s5 y5=>True) (fun s5 y5 hx97 hG5=>?_) (fun j5 hx89=>?_)
     ·refine Jv (s:=41) rfl (fun h99=>?_) (fun h99=>?_)
      ·have hx11:=Io h99 hx97;refine Y3 ?_;refine At (Bo rfl (i:=0) rfl rfl Uh) rfl ?_;refine At (Bo rfl (i:=1) rfl rfl Vg) rfl ?_;obtain⟨h10,hx12⟩:=Bv hx11;obtain⟨h11,hx13⟩:=Bv hx12;refine T_h (Ad0 (x:=x6) (y:=x5) Ast Ur underlying201 rfl rfl rfl rfl rfl (.there (.there (.there (.here)))) (Asu x6 h10) h11 ?_);refine Y2 ?_;exact Mt (mput s1.1 x6 x5,s4) (y4.1,y4.2) hx13 trivial (by exact .pick 2 rfl (.pick 2 rfl (.pick 2 rfl (.drop 0 rfl (.drop 0 rfl (.refl))))))
      ·have hx14:=Nn h99 hx97;refine Y3 ?_;exact Mt (s1.1,s4) (y4.1,y4.2) hx14 trivial (by exact .pick 2 rfl (.pick 2 rfl (.pick 2 rfl (.drop 0 rfl (.drop 0 rfl (.refl))))))
     ·refine Y4 ?_;refine Xw (s:=37) rfl (fun h91=>?_) (fun h91=>?_)
      ·have hx92:=Nn h91 hx89;refine Y5 ?_;exact Mt true () hx92 trivial (by exact .pick 1 rfl (.pick 1 rfl (.pick 1 rfl (.pick 1 rfl (.pick 1 rfl (.drop 0 rfl (.refl)))))))
      ·have hx93:=Io h91 hx89;refine Qv rfl rfl rfl (Bo rfl (i:=2) rfl rfl Vg) rfl ?_;refine Qv rfl rfl rfl (Bo rfl (i:=0) rfl rfl Vg) rfl ?_;obtain⟨r0,h95,hx96⟩:=Ao hx93;refine T_xG rfl rfl rfl (Br rfl (fun w1 hw1=>Aka x5 x7  h95 w1) rfl ?_);rintro _ _ hlo ⟨rfl,rfl,-⟩;refine Ya ?_;refine Y2 ?_;exact Mt r0 () hx96 trivial (by exact .pick 1 rfl (.pick 1 rfl (.pick 1 rfl (.pick 1 rfl (.pick 1 rfl (.drop 0 rfl (.refl)))))))
    ·refine Y6 ?_;refine Xw (s:=30) rfl (fun h81=>?_) (fun h81=>?_)
     ·have hx82:=Nn h81 hx79;refine Y3 ?_;refine At (Bo rfl (i:=1) rfl rfl Uh) rfl ?_;refine T_x (Bs rfl (Zr _ _) rfl (fun g5=>?_));obtain⟨h84,hx85⟩:=Bv hx82;refine T_h (Ho Ne s1.2.1 [x6] rfl rfl rfl Bb6 (fun _=>rfl) (i':=0) rfl rfl rfl rfl h84 rfl (fun _ _=>.there (.there (.there (.there (.here))))) (fun _ _=>.drop .refl) dD (fun A0 c0=>?_));refine Y2 ?_;exact Mt (s1.2.1++[x6]) (A0,c0) hx85 trivial (by exact .pick 0 rfl (.pick 0 rfl (.pick 0 rfl (.pick 0 rfl (.pick 0 rfl (.pick 0 rfl (.refl)))))))
     ·have hx88:=Io h81 hx79;refine Y2 ?_;exact Mt s1.2.1 (y1.1,y1.2) hx88 trivial (by exact .pick 0 rfl (.pick 0 rfl (.pick 0 rfl (.pick 0 rfl (.pick 0 rfl (.pick 0 rfl (.refl)))))))
  ·refine Y3 ?_;obtain rfl:=Ii ht1 hx59;refine Y2 ?_;exact Mt (s1.1,s1.2.1) (y1.1,y1.2) ho1 trivial (by exact .pick 0 rfl (.pick 0 rfl (.pick 0 rfl (.refl))))
theorem Agl(p0:Aa)(p1:Ag){K:List Ent}{g0_1:Nat}(hp1:Pt K g0_1 0 [iq p1.Cell,iq p1.Reach,iq p1.Slope,iq p1.Link,iq p1.Flat,iq p1.Tall,iq p1.High,iq p1.Low,iq p1.Brush,iq p1.Few]){r:Ac}(hx:Nm p0 p1=some r)(w:World)(hK:∀ e∈K,Ent.ok w e):CtL prog 120 [.agg #[iq p0.Id,iq p0.X,iq p0.Y,iq p0.Z.Lo,iq p0.Z.Hi,iq p0.Wide,iq p0.Num,iq p0.Of,iq p0.Class],.pointer (some ⟨g0_1,0,none⟩)] w fun v Ln=>v = .agg #[iq r.X,iq r.Y]/\Ln=[]/\True:=by
 have hp1':=Pt.low (E:=[]) (Pt.up0 hp1) hK;refine CtL.mk 15 func120 rfl ntmps120 kr rfl ?_;show T 15 _ [(0,.agg #[iq p0.Id,iq p0.X,iq p0.Y,iq p0.Z.Lo,iq p0.Z.Hi,iq p0.Wide,iq p0.Num,iq p0.Of,iq p0.Class]),(1,.pointer (some ⟨g0_1,0,none⟩))] _;unfold Nm at hx;refine Y2 ?_;refine T_x (Pf rfl rfl rfl (fun g1=>?_));refine T_x (Bt Ate rfl (fun g2=>?_));refine Y3 ?_;refine T_dr [0,1,0,1,2,0,1,0,1,2,0,3] (.q 0 (.q 1 (.q 2 (.q 3 (.q 5 (.q 6 (.q 7 (.q 8 (.e 4 (.e 9 (.q 10 (.e 11 (.done) (.stop))) (.stop)) (.stop)))))))))) mixed kr kr ?_;refine P_p rfl rfl (Bf rfl Atf rfl) rfl ?_;refine P_q rfl rfl (Bd rfl (i:=1) rfl rfl one3) rfl ?_;refine P_p rfl rfl (Bf rfl Ank rfl) rfl ?_;refine P_q rfl rfl (Ef (d:=0) rfl hp1' (sb 2) rfl one3) rfl ?_;refine P_p rfl rfl (Bf rfl Atg rfl) rfl ?_;refine P_q rfl rfl (Bd rfl (i:=1) rfl rfl one3) rfl ?_;refine P_p rfl rfl (Bf rfl Ank rfl) rfl ?_;refine P_q rfl rfl (Ef (d:=0) rfl hp1' (sb 2) rfl one3) rfl ?_;obtain⟨r3,h4,hx5⟩:=Ao hx;refine Pc (fun w1 hw1=>Aco p0.X p1.Cell  h4 w1) ?_;obtain⟨r6,h7,hx8⟩:=Ao hx5;refine Pc (fun w1 hw1=>Aco p0.Y p1.Cell  h7 w1) ?_;refine P_p rfl rfl (En rfl (Acm _ _)) rfl ?_;refine P_h rfl rfl (Ay rfl rfl rfl (.here) (.put (.put (.done))) rfl (List.cons_ne_nil _ _) Uh.2 ?_) ?_
 rotate_left;exact Bg;refine Y3 ?_;obtain rfl:=Option.some.inj hx8;exact Df (rs:=[.cell 3 57]) results120 (.cell rfl (i:=0) rfl rfl Uh (.nil)) (Ln:=[]) ⟨rfl,rfl,trivial⟩ Cr (by exact .drop 0 rfl (.drop 0 rfl (.refl)))
end Go.Proofs.YthlkpgdfifnagaaGreat
namespace Go.Proofs
open Go.Shelf Tryz
theorem lk0{α:Type _}{a b:α}(h:a=b:=by kernel_rfl):some a=some b:=congrArg some h
def Tryz.laysSort2_ren:Go.Shelf.Ren:=⟨fun | 6=>176 | 15=>113 | 14=>233 | 28=>166 | 29=>167 | 20=>270 | 21=>271 | 22=>272 | 23=>273 | 24=>274 | 25=>275 | 26=>276 | 27=>277 | 46=>305 | 47=>226 | 48=>227 | 49=>306 | 50=>307 | 57=>321 | n=>n,fun | 22=>24 | 24=>103 | 25=>207 | 3=>3 | 39=>144 | 0=>0 | 53=>199 | 55=>167 | 4=>4 | 46=>192 | 45=>191 | 50=>196 | 5=>5 | 9=>9 | 66=>242 | 70=>246 | 76=>270 | 77=>165 | n=>n,fun | n=>n⟩
theorem Tryz.laysSort2:Go.Proofs.SlLaysF0.n6 prog laysSort2_ren:={
 mixed:=by kernel_rfl
 f6:=⟨f176.name,by decide,func176.trans lk0⟩
 f14:=⟨f233.name,by decide,func233.trans lk0⟩
 f15:=func113.trans lk0
 f20:=⟨f270.name,by decide,func270.trans lk0⟩
 f21:=⟨f271.name,by decide,func271.trans lk0⟩
 f22:=⟨f272.name,by decide,func272.trans lk0⟩
 f23:=⟨f273.name,by decide,func273.trans lk0⟩
 f24:=⟨f274.name,by decide,func274.trans lk0⟩
 f25:=⟨f275.name,by decide,func275.trans lk0⟩
 f26:=⟨f276.name,by decide,func276.trans lk0⟩
 f27:=⟨f277.name,by decide,func277.trans lk0⟩
 f28:=func166.trans lk0
 f29:=func167.trans lk0
 f46:=⟨f305.name,by decide,func305.trans lk0⟩
 f47:=func226.trans lk0
 f48:=func227.trans lk0
 f49:=⟨f306.name,by decide,func306.trans lk0⟩
 f50:=⟨f307.name,by decide,func307.trans lk0⟩
 f57:=⟨f321.name,by decide,func321.trans lk0⟩
 t0:=underlying0
 a0:=isAgg0
 z0:=sizeOf0
 v0:=zeroValue0
 t3:=underlying3
 a3:=isAgg3
 z3:=sizeOf3
 v3:=zeroValue3
 t4:=underlying4
 a4:=isAgg4
 z4:=sizeOf4
 v4:=zeroValue4
 t5:=underlying5
 a5:=isAgg5
 z5:=sizeOf5
 v5:=zeroValue5
 t9:=underlying9
 a9:=isAgg9
 z9:=sizeOf9
 v9:=zeroValue9
 t22:=underlying24
 a22:=isAgg24
 z22:=sizeOf24
 v22:=zeroValue24
 t25:=underlying207
 a25:=isAgg207
 z25:=sizeOf207
 v25:=zeroValue207
 t39:=underlying144
 a39:=isAgg144
 z39:=sizeOf144
 v39:=zeroValue144
 t45:=underlying191
 a45:=isAgg191
 z45:=sizeOf191
 v45:=zeroValue191
 t46:=underlying192
 a46:=isAgg192
 z46:=sizeOf192
 v46:=zeroValue192
 t50:=underlying196
 a50:=isAgg196
 z50:=sizeOf196
 v50:=zeroValue196
 t53:=underlying199
 a53:=isAgg199
 z53:=sizeOf199
 v53:=zeroValue199
 t55:=underlying167
 a55:=isAgg167
 z55:=sizeOf167
 v55:=zeroValue167
 t66:=underlying242
 a66:=isAgg242
 z66:=sizeOf242
 v66:=zeroValue242
 t70:=underlying246
 a70:=isAgg246
 z70:=sizeOf246
 v70:=zeroValue246
 t76:=underlying270
 a76:=isAgg270
 z76:=sizeOf270
 v76:=zeroValue270
 t77:=underlying165
 a77:=isAgg165
 z77:=sizeOf165
 v77:=zeroValue165 }
def Tryz.laysSort3_ren:Go.Shelf.Ren:=⟨fun | 6=>188 | 15=>113 | 14=>237 | 28=>166 | 29=>167 | 20=>291 | 21=>292 | 22=>293 | 23=>294 | 24=>295 | 25=>296 | 26=>297 | 27=>298 | 46=>316 | 47=>226 | 48=>227 | 49=>317 | 50=>318 | 57=>326 | n=>n,fun | 22=>23 | 24=>101 | 25=>217 | 3=>3 | 39=>144 | 0=>0 | 53=>199 | 55=>167 | 4=>4 | 46=>192 | 45=>191 | 50=>196 | 5=>5 | 9=>9 | 66=>242 | 70=>246 | 76=>270 | 77=>165 | n=>n,fun | n=>n⟩
theorem Tryz.laysSort3:Go.Proofs.SlLaysF0.n6 prog laysSort3_ren:={
 mixed:=by kernel_rfl
 f6:=⟨f188.name,by decide,func188.trans lk0⟩
 f14:=⟨f237.name,by decide,func237.trans lk0⟩
 f15:=func113.trans lk0
 f20:=⟨f291.name,by decide,func291.trans lk0⟩
 f21:=⟨f292.name,by decide,func292.trans lk0⟩
 f22:=⟨f293.name,by decide,func293.trans lk0⟩
 f23:=⟨f294.name,by decide,func294.trans lk0⟩
 f24:=⟨f295.name,by decide,func295.trans lk0⟩
 f25:=⟨f296.name,by decide,func296.trans lk0⟩
 f26:=⟨f297.name,by decide,func297.trans lk0⟩
 f27:=⟨f298.name,by decide,func298.trans lk0⟩
 f28:=func166.trans lk0
 f29:=func167.trans lk0
 f46:=⟨f316.name,by decide,func316.trans lk0⟩
 f47:=func226.trans lk0
 f48:=func227.trans lk0
 f49:=⟨f317.name,by decide,func317.trans lk0⟩
 f50:=⟨f318.name,by decide,func318.trans lk0⟩
 f57:=⟨f326.name,by decide,func326.trans lk0⟩
 t0:=underlying0
 a0:=isAgg0
 z0:=sizeOf0
 v0:=zeroValue0
 t3:=underlying3
 a3:=isAgg3
 z3:=sizeOf3
 v3:=zeroValue3
 t4:=underlying4
 a4:=isAgg4
 z4:=sizeOf4
 v4:=zeroValue4
 t5:=underlying5
 a5:=isAgg5
 z5:=sizeOf5
 v5:=zeroValue5
 t9:=underlying9
 a9:=isAgg9
 z9:=sizeOf9
 v9:=zeroValue9
 t22:=underlying23
 a22:=isAgg23
 z22:=sizeOf23
 v22:=zeroValue23
 t25:=underlying217
 a25:=isAgg217
 z25:=sizeOf217
 v25:=zeroValue217
 t39:=underlying144
 a39:=isAgg144
 z39:=sizeOf144
 v39:=zeroValue144
 t45:=underlying191
 a45:=isAgg191
 z45:=sizeOf191
 v45:=zeroValue191
 t46:=underlying192
 a46:=isAgg192
 z46:=sizeOf192
 v46:=zeroValue192
 t50:=underlying196
 a50:=isAgg196
 z50:=sizeOf196
 v50:=zeroValue196
 t53:=underlying199
 a53:=isAgg199
 z53:=sizeOf199
 v53:=zeroValue199
 t55:=underlying167
 a55:=isAgg167
 z55:=sizeOf167
 v55:=zeroValue167
 t66:=underlying242
 a66:=isAgg242
 z66:=sizeOf242
 v66:=zeroValue242
 t70:=underlying246
 a70:=isAgg246
 z70:=sizeOf246
 v70:=zeroValue246
 t76:=underlying270
 a76:=isAgg270
 z76:=sizeOf270
 v76:=zeroValue270
 t77:=underlying165
 a77:=isAgg165
 z77:=sizeOf165
 v77:=zeroValue165 }
def Tryz.laysSort1_ren:Go.Shelf.Ren:=⟨fun | 6=>182 | 15=>113 | 14=>234 | 28=>166 | 29=>167 | 20=>278 | 21=>279 | 22=>280 | 23=>281 | 24=>282 | 25=>283 | 26=>284 | 27=>285 | 46=>308 | 47=>226 | 48=>227 | 49=>309 | 50=>310 | 57=>322 | n=>n,fun | 22=>42 | 24=>3 | 25=>131 | 3=>3 | 39=>144 | 0=>0 | 53=>199 | 55=>167 | 4=>4 | 46=>192 | 45=>191 | 50=>196 | 5=>5 | 9=>9 | 66=>242 | 70=>246 | 76=>270 | 77=>165 | n=>n,fun | n=>n⟩
theorem Tryz.laysSort1:Go.Proofs.SlLaysF.n6 prog laysSort1_ren:={
 mixed:=by kernel_rfl
 f6:=⟨f182.name,by decide,func182.trans lk0⟩
 f14:=⟨f234.name,by decide,func234.trans lk0⟩
 f15:=func113.trans lk0
 f20:=⟨f278.name,by decide,func278.trans lk0⟩
 f21:=⟨f279.name,by decide,func279.trans lk0⟩
 f22:=⟨f280.name,by decide,func280.trans lk0⟩
 f23:=⟨f281.name,by decide,func281.trans lk0⟩
 f24:=⟨f282.name,by decide,func282.trans lk0⟩
 f25:=⟨f283.name,by decide,func283.trans lk0⟩
 f26:=⟨f284.name,by decide,func284.trans lk0⟩
 f27:=⟨f285.name,by decide,func285.trans lk0⟩
 f28:=func166.trans lk0
 f29:=func167.trans lk0
 f46:=⟨f308.name,by decide,func308.trans lk0⟩
 f47:=func226.trans lk0
 f48:=func227.trans lk0
 f49:=⟨f309.name,by decide,func309.trans lk0⟩
 f50:=⟨f310.name,by decide,func310.trans lk0⟩
 f57:=⟨f322.name,by decide,func322.trans lk0⟩
 t0:=underlying0
 a0:=isAgg0
 z0:=sizeOf0
 v0:=zeroValue0
 t3:=underlying3
 a3:=isAgg3
 z3:=sizeOf3
 v3:=zeroValue3
 t4:=underlying4
 a4:=isAgg4
 z4:=sizeOf4
 v4:=zeroValue4
 t5:=underlying5
 a5:=isAgg5
 z5:=sizeOf5
 v5:=zeroValue5
 t9:=underlying9
 a9:=isAgg9
 z9:=sizeOf9
 v9:=zeroValue9
 t22:=underlying42
 a22:=isAgg42
 z22:=sizeOf42
 v22:=zeroValue42
 a24:=isAgg3
 z24:=sizeOf3
 t25:=underlying131
 a25:=isAgg131
 z25:=sizeOf131
 v25:=zeroValue131
 t39:=underlying144
 a39:=isAgg144
 z39:=sizeOf144
 v39:=zeroValue144
 t45:=underlying191
 a45:=isAgg191
 z45:=sizeOf191
 v45:=zeroValue191
 t46:=underlying192
 a46:=isAgg192
 z46:=sizeOf192
 v46:=zeroValue192
 t50:=underlying196
 a50:=isAgg196
 z50:=sizeOf196
 v50:=zeroValue196
 t53:=underlying199
 a53:=isAgg199
 z53:=sizeOf199
 v53:=zeroValue199
 t55:=underlying167
 a55:=isAgg167
 z55:=sizeOf167
 v55:=zeroValue167
 t66:=underlying242
 a66:=isAgg242
 z66:=sizeOf242
 v66:=zeroValue242
 t70:=underlying246
 a70:=isAgg246
 z70:=sizeOf246
 v70:=zeroValue246
 t76:=underlying270
 a76:=isAgg270
 z76:=sizeOf270
 v76:=zeroValue270
 t77:=underlying165
 a77:=isAgg165
 z77:=sizeOf165
 v77:=zeroValue165 }
def Tryz.laysSortP_ren:Go.Shelf.Ren:=⟨fun | 6=>60 | 15=>113 | 14=>112 | 28=>166 | 29=>167 | 20=>158 | 21=>159 | 22=>160 | 23=>161 | 24=>162 | 25=>163 | 26=>164 | 27=>165 | 46=>225 | 47=>226 | 48=>227 | 49=>228 | 50=>229 | 57=>266 | n=>n,fun | 22=>41 | 24=>30 | 25=>90 | 3=>3 | 39=>144 | 0=>0 | 53=>199 | 55=>167 | 4=>4 | 46=>192 | 45=>191 | 50=>196 | 5=>5 | 9=>9 | 66=>242 | 70=>246 | 76=>270 | 77=>165 | n=>n,fun | n=>n⟩
theorem Tryz.laysSortP:Go.Proofs.SlLaysF0.n6 prog laysSortP_ren:={
 mixed:=by kernel_rfl
 f6:=⟨f60.name,by decide,func60.trans lk0⟩
 f14:=⟨f112.name,by decide,func112.trans lk0⟩
 f15:=func113.trans lk0
 f20:=⟨f158.name,by decide,func158.trans lk0⟩
 f21:=⟨f159.name,by decide,func159.trans lk0⟩
 f22:=⟨f160.name,by decide,func160.trans lk0⟩
 f23:=⟨f161.name,by decide,func161.trans lk0⟩
 f24:=⟨f162.name,by decide,func162.trans lk0⟩
 f25:=⟨f163.name,by decide,func163.trans lk0⟩
 f26:=⟨f164.name,by decide,func164.trans lk0⟩
 f27:=⟨f165.name,by decide,func165.trans lk0⟩
 f28:=func166.trans lk0
 f29:=func167.trans lk0
 f46:=⟨f225.name,by decide,func225.trans lk0⟩
 f47:=func226.trans lk0
 f48:=func227.trans lk0
 f49:=⟨f228.name,by decide,func228.trans lk0⟩
 f50:=⟨f229.name,by decide,func229.trans lk0⟩
 f57:=⟨f266.name,by decide,func266.trans lk0⟩
 t0:=underlying0
 a0:=isAgg0
 z0:=sizeOf0
 v0:=zeroValue0
 t3:=underlying3
 a3:=isAgg3
 z3:=sizeOf3
 v3:=zeroValue3
 t4:=underlying4
 a4:=isAgg4
 z4:=sizeOf4
 v4:=zeroValue4
 t5:=underlying5
 a5:=isAgg5
 z5:=sizeOf5
 v5:=zeroValue5
 t9:=underlying9
 a9:=isAgg9
 z9:=sizeOf9
 v9:=zeroValue9
 t22:=underlying41
 a22:=isAgg41
 z22:=sizeOf41
 v22:=zeroValue41
 t25:=underlying90
 a25:=isAgg90
 z25:=sizeOf90
 v25:=zeroValue90
 t39:=underlying144
 a39:=isAgg144
 z39:=sizeOf144
 v39:=zeroValue144
 t45:=underlying191
 a45:=isAgg191
 z45:=sizeOf191
 v45:=zeroValue191
 t46:=underlying192
 a46:=isAgg192
 z46:=sizeOf192
 v46:=zeroValue192
 t50:=underlying196
 a50:=isAgg196
 z50:=sizeOf196
 v50:=zeroValue196
 t53:=underlying199
 a53:=isAgg199
 z53:=sizeOf199
 v53:=zeroValue199
 t55:=underlying167
 a55:=isAgg167
 z55:=sizeOf167
 v55:=zeroValue167
 t66:=underlying242
 a66:=isAgg242
 z66:=sizeOf242
 v66:=zeroValue242
 t70:=underlying246
 a70:=isAgg246
 z70:=sizeOf246
 v70:=zeroValue246
 t76:=underlying270
 a76:=isAgg270
 z76:=sizeOf270
 v76:=zeroValue270
 t77:=underlying165
 a77:=isAgg165
 z77:=sizeOf165
 v77:=zeroValue165 }
def Tryz.laysSort_ren:Go.Shelf.Ren:=⟨fun | 189=>95 | 125=>113 | 257=>149 | 128=>166 | 129=>167 | 294=>215 | 295=>216 | 296=>217 | 297=>218 | 298=>219 | 299=>220 | 216=>221 | 300=>222 | 301=>223 | 328=>262 | 329=>226 | 330=>227 | 331=>263 | 332=>264 | 215=>265 | 343=>304 | n=>n,fun | 28=>42 | 3=>3 | 46=>144 | 0=>0 | 51=>199 | 53=>167 | 4=>4 | 183=>192 | 182=>191 | 131=>196 | 5=>5 | 9=>9 | 218=>242 | 222=>246 | 228=>270 | 229=>165 | n=>n,fun | n=>n⟩
theorem Tryz.laysSort:Go.Proofs.Lays.n189 prog laysSort_ren:={
 mixed:=by kernel_rfl
 f125:=func113.trans lk0
 f128:=func166.trans lk0
 f129:=func167.trans lk0
 f189:=func95.trans lk0
 f215:=func265.trans lk0
 f216:=func221.trans lk0
 f257:=func149.trans lk0
 f294:=func215.trans lk0
 f295:=func216.trans lk0
 f296:=func217.trans lk0
 f297:=func218.trans lk0
 f298:=func219.trans lk0
 f299:=func220.trans lk0
 f300:=func222.trans lk0
 f301:=func223.trans lk0
 f328:=func262.trans lk0
 f329:=func226.trans lk0
 f330:=func227.trans lk0
 f331:=func263.trans lk0
 f332:=func264.trans lk0
 f343:=func304.trans lk0
 t0:=underlying0
 a0:=isAgg0
 z0:=sizeOf0
 v0:=zeroValue0
 t3:=underlying3
 a3:=isAgg3
 z3:=sizeOf3
 v3:=zeroValue3
 t4:=underlying4
 a4:=isAgg4
 z4:=sizeOf4
 v4:=zeroValue4
 t5:=underlying5
 a5:=isAgg5
 z5:=sizeOf5
 v5:=zeroValue5
 t9:=underlying9
 a9:=isAgg9
 z9:=sizeOf9
 v9:=zeroValue9
 t28:=underlying42
 a28:=isAgg42
 z28:=sizeOf42
 v28:=zeroValue42
 t46:=underlying144
 a46:=isAgg144
 z46:=sizeOf144
 v46:=zeroValue144
 t51:=underlying199
 a51:=isAgg199
 z51:=sizeOf199
 v51:=zeroValue199
 t53:=underlying167
 a53:=isAgg167
 z53:=sizeOf167
 v53:=zeroValue167
 t131:=underlying196
 a131:=isAgg196
 z131:=sizeOf196
 v131:=zeroValue196
 t182:=underlying191
 a182:=isAgg191
 z182:=sizeOf191
 v182:=zeroValue191
 t183:=underlying192
 a183:=isAgg192
 z183:=sizeOf192
 v183:=zeroValue192
 t218:=underlying242
 a218:=isAgg242
 z218:=sizeOf242
 v218:=zeroValue242
 t222:=underlying246
 a222:=isAgg246
 z222:=sizeOf246
 v222:=zeroValue246
 t228:=underlying270
 a228:=isAgg270
 z228:=sizeOf270
 v228:=zeroValue270
 t229:=underlying165
 a229:=isAgg165
 z229:=sizeOf165
 v229:=zeroValue165 }
end Go.Proofs
namespace Go.Proofs.YthlkpgdfifnagaaGreat
open Go Go.RowKit Go.Shelf Go.Sort Tryz
theorem Ab5:∀ l:List Int,l.flatMap Af=l.map (Value.int .i64)
 | []=>rfl
 | x::r=>by rw[List.flatMap_cons,Ab5 r];rfl
theorem Alj(l:List Int)(hb:l.length<=1000000){A:Option Addr}{m c:Nat}{t:TypeId}(w:World)(hok:Ent.ok w (.r A m c t 1 (l.flatMap Af))):
  Calls prog 95 #[.slice A m c] w fun e w'=>e = .returned (.tuple #[])/\w.grownBy w' (Ent.blk (.r A m c t 1 (l.flatMap Af)))/\w.drawn<=w'.drawn/\Ent.ok w' (.r A m c t 1 ((Gf l).flatMap Af)):=by
 obtain⟨hl,h2⟩:=hok;rw[Ab5,List.length_map,Nat.mul_one] at hl;subst hl;rcases h2 with⟨hv,h0⟩|⟨g,cap,cur,hv,hbg,hh,h3,h4,h5,h6⟩
 ·injection hv with e1 e2 e3
  subst e1;subst e3;have hl0:l=[]:=List.eq_nil_of_length_eq_zero h0;subst hl0;refine (calls_of_every_depth fun D=>AnyS.slices_Sort_int_none_alone Tryz.laysSort D none 0 w).mono ?_;rintro e w' ⟨rfl,rfl⟩;refine⟨rfl,⟨rfl,rfl,rfl,Nat.le_refl _,fun _ _ _=>rfl⟩,Nat.le_refl _,by simp[Gf],.inl ⟨rfl,rfl⟩⟩
 ·injection hv with e1 e2 e3
  subst e1;subst e3;rw[Ab5,Nat.mul_one] at h6;rw[Nat.mul_one] at h5;have hlt:=Eq hh;have hcell:∀ j,(hj:j<l.length)->cur[j]? = some (Value.int .i64 l[j]):=fun j hj=>by
   have h7:(cur.toList.take l.length)[j]? = some (Value.int .i64 l[j]):=by rw[h6];simp[hj]
   rw[List.getElem?_take,if_pos hj] at h7;simpa using h7
  have hH:Holds (Value.int .i64) w g 0 l.toArray:=fun j hj=>by
   have hj':j<l.length:=by simpa using hj
   refine⟨?_,?_⟩
   ·have:=hcell j hj';simp[World.cell?,hh,this,hj']
   ·simp[World.frozen?,hh]
  refine (Any.slices_Sort_int Tryz.laysSort g 0 c l w hH hlt oo).mono ?_;rintro e w' ⟨rfl,q,os,rfl⟩;rw[show (l.mergeSort fun x y=>decide (x<=y))=Gf l from rfl];have hsz:(Gf l).length=l.length:=Kf;have hg0:∀ k,k<w.heap.size->(grow (putRow (Value.int .i64) (Go.Sort.ahead w q) g 0 (Gf l).toArray) os).heap[k]? = (w.heap.modify g (onCells (putCells (Value.int .i64) 0 (Gf l).toArray)))[k]?:=fun k hk=>by
   show (((Go.Sort.ahead w q).heap.modify g (onCells (putCells (Value.int .i64) 0 (Gf l).toArray)))++os)[k]? = _;rw[Array.getElem?_append_left (by rw[Array.size_modify];exact hk)];rfl
  refine⟨rfl,⟨rfl,rfl,rfl,?_,fun k hk hne=>?_⟩,Nat.le_add_right _ _,by rw[Ab5,List.length_map,hsz,Nat.mul_one],.inr ⟨g,c,putCells (Value.int .i64) 0 (Gf l).toArray cur,rfl,Nat.zero_le _,?_,h3,h4,?_,?_⟩⟩
  ·show w.heap.size<=(((Go.Sort.ahead w q).heap.modify g (onCells (putCells (Value.int .i64) 0 (Gf l).toArray)))++os).size;rw[Array.size_append,Array.size_modify];exact Nat.le_add_right _ _
  ·rw[hg0 k hk,Array.getElem?_modify];rw[if_neg (fun he=>hne (by rw[he];rfl))]
  ·rw[hg0 g hlt,Array.getElem?_modify,if_pos rfl,hh];rfl
  ·simp[putCells,h5]
  ·rw[Nat.mul_one,Ab5];apply List.ext_getElem?;intro j;rw[List.getElem?_take]
   by_cases hj:j<l.length
   ·rw[if_pos hj];have hj2:j<(Gf l).length:=oo;have hcj:=hcell j hj;have:(putCells (Value.int .i64) 0 (Gf l).toArray cur)[j]? = some (Value.int .i64 (Gf l)[j]):=by
     simp only[putCells,Array.getElem?_mapIdx,hcj,Option.map_some];rw[if_pos ⟨Nat.zero_le _,by simpa using hj2⟩];simp[hj2]
    rw[<- Array.getElem?_toList] at this;rw[this];simp[hj2]
   ·rw[if_neg hj];rw[List.getElem?_eq_none (by rw[List.length_map,hsz];omega)]
section
variable {n:Nat} {N:Act->World->Prop} {Q:Exit->Act->World->Prop} {fr:List (Nat × Value)} {L L':List Ent}
theorem Bah(l:List Int){d i m c:Nat}{A:Option Addr}{t:TypeId}{xs:List Operand}{ts:Array TypeId}{ty':TypeId}{pos:String}{after:Array Edge}{guard:Option (Nat × Bool)}(hx:evos fr xs=some [.slice A m c])(hb:l.length<=1000000)(hL:SetE L i (.r A m c t 1 (l.flatMap Af)) (.r A m c t 1 ((Gf l).flatMap Af)) L')(hd:Nat.blt d n=true)(k:T n N ((d,.tuple #[])::fr) L'):Wh prog Q n ⟨some d,.call ⟨.value (.func 95),xs.toArray,ts⟩,ty',pos,after,guard⟩ fr L N:=by
 intro a w ha hw;have he:Wo prog 95:=⟨_,func95,rfl,rfl⟩;simp only[Oper.wp,Abq he ha hx,Oper.upon_enter];refine (Alj l hb w (hw.ok _ hL.mem)).mono ?_;rintro e w' ⟨rfl,hg,hdr,hok⟩;exact k _ _ (ha.put hd) (Heap.turn (e:=.r A m c t 1 (l.flatMap Af)) (e':=.r A m c t 1 ((Gf l).flatMap Af)) hg hok (Nat.le_refl _) (fun _ hg=>.inl hg) hL hw (hd:=hdr))
end
instance:Sr1 prog 95 Af Gf:=⟨⟨_,func95,rfl,rfl⟩,fun l hb _ _ _ _ w hok=>Alj l hb w hok⟩
end Go.Proofs.YthlkpgdfifnagaaGreat
namespace Go.Proofs.YthlkpgdfifnagaaGreat
open Go Go.RowKit Tryz
theorem Ab6:Vf prog 42:=.mk underlying42 rfl (show prog.info? 42=some t42 from by kernel_rfl) kr
instance:OneI prog 42:=⟨Ab6⟩
theorem Bb7:Qw prog 42 [.slice none 0 0]:=⟨_,zeroValue42,rfl⟩
instance:Ud prog 42 [.slice none 0 0]:=⟨Bb7⟩
theorem Afc:Xl prog 42 3 1 8:=⟨underlying42,⟨Tryz.t3,iq 0,kr,kr,kr,kr,rfl⟩,dD⟩
instance:Ag6 prog 42 3 1 8:=⟨Afc⟩
theorem Ju(x0:Int):Gd prog 42 1 [(0,iq x0)] 3 [iq x0]:=fun w=>kr
instance(x0:Int):Rc prog 42 1 [(0,iq x0)] 3 [iq x0]:=⟨Ju _⟩
theorem CtL.of{P:Program}{f:FuncId}{vs:List Value}{w:World}{R S:Value->List Ent->Prop}(h:CtL P f vs w R)(k:∀ v Ln,R v Ln->S v Ln):CtL P f vs w S:=by
 obtain⟨h1,h2⟩:=h;exact⟨h1,h2.mono (by rintro e w' ⟨v,Ln,h3,h4,h6,h7⟩;exact⟨v,Ln,h3,k _ _ h4,h6,h7⟩)⟩
theorem Abh.low{α β:Type}{P:Program}{K:List Ent}{kv:Value}{ax:α->Value}{ry:β->Value}{ky:α->Option β}{w:World}(h:Abh P K kv ax ry ky)(hK:∀ e∈K,Ent.ok w e):Abh P [.old w] kv ax ry ky:=by
 obtain⟨f,caps,h1,h2⟩:=h;exact⟨f,caps,h1,fun x y hxy w' hw'=>h2 x y hxy w' fun e he=>Ent.ext (hK e he) (hw' (.old w) List.mem_cons_self)⟩
theorem Abh.up{α β:Type}{P:Program}{K L:List Ent}{kv:Value}{ax:α->Value}{ry:β->Value}{ky:α->Option β}(h:Abh P K kv ax ry ky)(hs:SubE K L):Abh P L kv ax ry ky:=by
 obtain⟨f,caps,h1,h2⟩:=h;exact⟨f,caps,h1,fun x y hxy w hw=>h2 x y hxy w (hs.ok w hw)⟩
def Ajb(acc:List Aa)(x:Aa):Option (List Aa):=gd ((acc.length+1)*72<=140737488355328) <| some (acc++[x])
def Alk(acc:List Int)(x:Aa):Option (List Int):=gd ((acc.length+1)*8<=140737488355328) <| some (acc++[x.Id])
noncomputable def Us(ky:Aa->Option Ac)(l:List Aa):Option (List Aa):=
 Kg ky Ajb l []
theorem Amy(ky:Aa->Option Ac)(p1:List Aa){K:List Ent}{A0:Option Addr}{c0:Nat}(ha0:Has K A0 p1.length c0 9 Ai p1){g1 g2:Nat}{kv:Value}(hp1:Pt K g1 0 [.slice A0 p1.length c0])(hp2:Pt K g2 0 [kv])(hkey:Abh prog K kv Ce Eo ky){r:List Aa}(hx:Us ky p1=some r)(w:World)(hK:∀ e∈K,Ent.ok w e):
  CtL prog 224 [.slice none 0 0,.func (.func 170) #[] #[.pointer (some ⟨g1,0,none⟩),.pointer (some ⟨g2,0,none⟩)]] w (fun v Ln=>∃ A c,v = .slice A r.length c/\Ln=[.r A r.length c 30 9 (r.flatMap Ai)]):=by
 have hb0:Has [.old w] A0 p1.length c0 9 Ai p1:=Has.low (E:=[]) (by rw[List.append_nil];exact ha0) hK;have hq1:Pt [.old w] g1 0 _:=Pt.low (E:=[]) (by rw[List.append_nil];exact hp1) hK;have hq2:Pt [.old w] g2 0 _:=Pt.low (E:=[]) (by rw[List.append_nil];exact hp2) hK;have hky:=hkey.low hK;unfold Us at hx;refine CtL.mkI 13 func224 rfl ntmps224 kr rfl ?_;show T 13 _ [(0,.slice none 0 0),(1,.func (.func 170) #[] #[.pointer (some ⟨g1,0,none⟩),.pointer (some ⟨g2,0,none⟩)])] _;refine Abr ?_;refine Zn ?_;refine I_x (Pf rfl rfl rfl (fun g3=>?_));refine Sr (Ee rfl) rfl ?_;refine Zm ?_;refine Xm ?_;refine Abr ?_;refine Abr ?_;refine Zn ?_;refine Sr (Aao rfl) rfl ?_;refine Zm ?_;refine Xm ?_;refine Ah3 ?_;refine Bi 30 9 ?_;refine Ar6 (p:=7) (Hs:=[.m g3 41 [.slice none 0 0],.r none 0 0 30 9 []]) (Lr:=[.old w]) (K:=[.old w]) (Rf:=fun Hs'=>∃ A c,Hs'=[.m g3 41 [.slice A r.length c],.r A r.length c 30 9 (r.flatMap Ai)]) rfl (by exact .pick 1 rfl (.pick 0 rfl .refl)) (Bj rfl (Bj rfl Cr)) ⟨fun w hw=>hw⟩ ?_ ?_
 ·intro l q a0 hfr hst hpe hpa htm has hbo;have hi0:∃ (A:Option Addr) (c:Nat),bunS [Qz l q,.m g3 41 [.slice none 0 0],.r none 0 0 30 9 []]=bunS [Qz l q,.m g3 41 [.slice A ([]:List Aa).length c],.r A ([]:List Aa).length c 30 9 (([]:List Aa).flatMap Ai)]:=⟨none,0,rfl⟩;have key:=Wu ky Ajb p1 ([]:List Aa) (K:=[.old w]) (kv:=kv) (l:=l)
   (Inv:=fun s e=>∃ A c,e=bunS [Qz l q,.m g3 41 [.slice A s.length c],.r A s.length c 30 9 (s.flatMap Ai)]) (ye:=bunS [Qz l q,.m g3 41 [.slice none 0 0],.r none 0 0 30 9 []]) hb0 hq1 hq2 hky ?_ hi0 hx
  ·refine⟨key.1,fun Lf w' hs hw'=>(key.2 Lf w' hs hw').mono ?_⟩;rintro e w'' ⟨v,Ln,rfl,⟨e',rfl,A,c,rfl⟩,hh⟩;exact⟨v,_,rfl,⟨_,⟨A,c,rfl⟩,Bj rfl (Bj rfl Cr),rfl⟩,hh⟩
  ·rintro s x s' e hs ⟨A,c,rfl⟩;obtain⟨hb,hs⟩:=Bv hs;obtain rfl:=Option.some.inj hs;refine Ak8.mk hfr hpa htm rfl (Bj rfl (Bj rfl Cr)) (fun Lf=>?_);rw[has,hbo];show T 13 _ ((7,.agg #[iq x.Id,iq x.X,iq x.Y,iq x.Z.Lo,iq x.Z.Hi,iq x.Wide,iq x.Num,iq x.Of,iq x.Class])::_) ([Qz l q,.m g3 41 [.slice A s.length c],.r A s.length c 30 9 (s.flatMap Ai)]++Lf);refine Zn ?_;refine I_x (Bt Aj7 rfl (fun g5=>?_));refine I_h (Ay rfl rfl rfl (.here) (.put (.put (.put (.put (.put (.put (.put (.put (.put (.done)))))))))) rfl (List.cons_ne_nil _ _) Vg.2 ?_);refine Zm ?_;refine Ar3 (i:=1) (.there .here) hst ?_;refine Ah3 ?_;refine Zn ?_;refine Sr (Bd rfl (i:=2) rfl rfl Aok) rfl ?_;refine Sr (Bo rfl (i:=0) rfl rfl Vg) rfl ?_;refine I_x (Bs rfl (Cu _ _ _ _ _ _ _ _ _) rfl (fun g0=>?_));refine I_h (Ho Ai s [x] rfl rfl rfl Apm (fun _=>rfl) (i':=0) rfl rfl rfl rfl hb rfl (fun _ _=>.there (.there (.there (.there (.here))))) (fun _ _=>.drop .refl) dD (fun A1 c1=>?_));refine I_h (Ay rfl rfl rfl (.there (.there .here)) (.put .done) rfl (List.cons_ne_nil _ _) Aok.2 ?_);refine Zm ?_;refine Ar2 ?_;exact Ar4 (i:=1) (.there .here) hst hpe (fun w3 hw3=>⟨rfl,_,⟨A1,c1,rfl⟩,Acw (Bj rfl (Bj rfl (Bj rfl Cr))) (hw3.pick (.pick 1 rfl (.pick 1 rfl (.pick 1 rfl (.drop 0 rfl .refl)))))⟩)
 ·rintro D Hs' ⟨A,c,rfl⟩ -;refine Ar2 ?_;refine Xm ?_;refine Abr ?_;refine Zn ?_;refine Sr (Bd rfl (i:=1) rfl rfl Aok) rfl ?_;refine Sr (Ee rfl) rfl ?_;refine Zm ?_;refine Xm ?_;refine Bbu ?_;exact Bbv (rs:=[.tmp 4]) (i:=0) results224 (.tmp rfl .nil) (Ln:=[.r A r.length c 30 9 (r.flatMap Ai)]) ⟨A,c,rfl,rfl⟩ (Bj rfl Cr) .here (.tmp rfl .nil) (.pick 2 rfl (.pick 2 rfl (.drop 0 rfl (.drop 0 rfl .refl))))
theorem Ajc(ky:Aa->Option Ac)(p1:List Aa){K:List Ent}{A0:Option Addr}{c0:Nat}(ha0:Has K A0 p1.length c0 9 Ai p1){g1 g2:Nat}{kv:Value}(hp1:Pt K g1 0 [.slice A0 p1.length c0])(hp2:Pt K g2 0 [kv])(hkey:Abh prog K kv Ce Eo ky){r:List Aa}(hx:Us ky p1=some r)(w:World)(hK:∀ e∈K,Ent.ok w e):
  CtL prog 151 [.func (.func 170) #[] #[.pointer (some ⟨g1,0,none⟩),.pointer (some ⟨g2,0,none⟩)]] w (fun v Ln=>∃ A c,v = .slice A r.length c/\Ln=[.r A r.length c 30 9 (r.flatMap Ai)]):=by
 have hb0:Has [.old w] A0 p1.length c0 9 Ai p1:=Has.low (E:=[]) (by rw[List.append_nil];exact ha0) hK;have hq1:Pt [.old w] g1 0 _:=Pt.low (E:=[]) (by rw[List.append_nil];exact hp1) hK;have hq2:Pt [.old w] g2 0 _:=Pt.low (E:=[]) (by rw[List.append_nil];exact hp2) hK;have hky:=hkey.low hK;refine CtL.mk 5 func151 rfl ntmps151 kr rfl ?_;show T 5 _ [(0,.func (.func 170) #[] #[.pointer (some ⟨g1,0,none⟩),.pointer (some ⟨g2,0,none⟩)])] _;refine Y8 ?_;refine T_x (Br rfl (fun w1 hw1=>Amy ky p1 hb0 hq1 hq2 hky hx w1 hw1.ok) rfl ?_);rintro _ _ hlo ⟨A,c,rfl,rfl⟩;refine Lz ?_;refine Y4 ?_;exact Df (rs:=[.tmp 2]) results151 (.tmp rfl .nil) (Ln:=[.r A r.length c 30 9 (r.flatMap Ai)]) ⟨A,c,rfl,rfl⟩ (Bj rfl Cr) (.pick 0 rfl (.pick 0 rfl .refl))
theorem Ab7(A:Option Addr)(n c:Nat)(f:Nat)(caps:List Value)(w:World):CtL prog 122 [.slice A n c,.func (.func f) #[] caps.toArray] w (fun v Ln=>∃ g1 g2,v = .func (.func 170) #[] #[.pointer (some ⟨g1,0,none⟩),.pointer (some ⟨g2,0,none⟩)]/\Ln=[.m g2 98 [.func (.func f) #[] caps.toArray],.m g1 41 [.slice A n c]]):=by
 refine CtL.mk 6 func122 rfl ntmps122 kr rfl ?_;show T 6 _ [(0,.slice A n c),(1,.func (.func f) #[] caps.toArray)] _;refine Y2 ?_;refine T_x (Pf rfl rfl rfl (fun g1=>?_));refine T_x (Pf (cs:=[.func (.func f) #[] caps.toArray]) rfl rfl rfl (fun g2=>?_));refine Y10 ?_;exact Df (rs:=[.tmp 4]) results122 (.tmp rfl .nil) (Ln:=[.m g2 98 [.func (.func f) #[] caps.toArray],.m g1 41 [.slice A n c]]) ⟨g1,g2,rfl,rfl⟩ (Bj rfl (Bj rfl Cr)) (.pick 0 rfl (.pick 0 rfl (.pick 0 rfl .refl)))
theorem Aom:Abh prog [] (.func (.func 70) #[] #[]) Ce Eo Ci :=
 ⟨70,[],rfl,fun x y hxy w _=>(Aj9 x hxy w).of fun v Ln ⟨h1,h2,_⟩=>⟨h1,h2⟩⟩
theorem Bai(tr:Ag){g:Nat}{K:List Ent}(hp:Pt K g 0 [iq tr.Cell,iq tr.Reach,iq tr.Slope,iq tr.Link,iq tr.Flat,iq tr.Tall,iq tr.High,iq tr.Low,iq tr.Brush,iq tr.Few]):Abh prog K (.func (.func 120) #[] #[.pointer (some ⟨g,0,none⟩)]) Ce Eo (fun p=>Nm p tr):=
 ⟨120,[_],rfl,fun x y hxy w hw=>(Agl x tr hp hxy w hw).of fun v Ln ⟨h1,h2,_⟩=>⟨h1,h2⟩⟩
noncomputable def Ys(p0:List Aa)(p1:Ag):Option (List Int):=
 bnd (Kg (fun p=>Nm p p1) Alk p0 ([]:List Int)) fun out=>gd (out.length<=1000000) <| some (Gf out)
theorem Ajd(p0:List Aa)(p1:Ag){K:List Ent}{E0:Option Addr}{G0:Nat}(ha0:Has K E0 p0.length G0 9 Ai p0){r:List Int}(hx:Ys p0 p1=some r)(w:World)(hK:∀ e∈K,Ent.ok w e):
  CtL prog 68 [.slice E0 p0.length G0,.agg #[iq p1.Cell,iq p1.Reach,iq p1.Slope,iq p1.Link,iq p1.Flat,iq p1.Tall,iq p1.High,iq p1.Low,iq p1.Brush,iq p1.Few]] w (fun v Ln=>∃ (A0:Option Addr) (c0:Nat),v = .slice A0 r.length c0/\Ln=[.r A0 r.length c0 3 1 (r.flatMap Af)]/\True):=by
 obtain⟨out,hout,hx⟩:=Ao hx;obtain⟨hn,hx⟩:=Bv hx;obtain rfl:=Option.some.inj hx;have hb0:Has [.old w] E0 p0.length G0 9 Ai p0:=Has.low (E:=[]) (by rw[List.append_nil];exact ha0) hK;refine CtL.mkI 21 func68 rfl ntmps68 kr rfl ?_;show T 21 _ [(0,.slice E0 p0.length G0),(1,.agg #[iq p1.Cell,iq p1.Reach,iq p1.Slope,iq p1.Link,iq p1.Flat,iq p1.Tall,iq p1.High,iq p1.Low,iq p1.Brush,iq p1.Few])] _;refine Abr ?_;refine Zn ?_;refine I_x (Pf rfl rfl rfl (fun g3=>?_));refine Sr (Ee rfl) rfl ?_;refine Zm ?_;refine Xm ?_;refine Abr ?_;refine Zn ?_;refine Sr (Abs rfl) rfl ?_;refine Sr (Ee rfl) rfl ?_;refine Zm ?_;refine Xm ?_;refine Abr ?_;refine Zn ?_;refine I_x (Bt Bb7 rfl (fun g6=>?_));refine Zm ?_;refine Xm ?_;refine Abr ?_;refine Abr ?_;refine Zn ?_;refine Sr (Aao rfl) rfl ?_;refine Sr (Aao rfl) rfl ?_;refine I_x (Br rfl (fun w1 _=>Ab7 E0 p0.length G0 120 [.pointer (some ⟨g3,0,none⟩)] w1) rfl ?_);rintro _ _ hlo ⟨g1,g2,rfl,rfl⟩;refine Zc ?_;refine Zm ?_;refine Xm ?_;refine Ah3 ?_;refine Bi 3 1 ?_;obtain⟨KK,hKK⟩:∃ KK:List Ent,KK=[.m g2 98 [.func (.func 120) #[] #[.pointer (some ⟨g3,0,none⟩)]],.m g1 41 [.slice E0 p0.length G0],.m g3 32 [iq p1.Cell,iq p1.Reach,iq p1.Slope,iq p1.Link,iq p1.Flat,iq p1.Tall,iq p1.High,iq p1.Low,iq p1.Brush,iq p1.Few],.old w]:=⟨_,rfl⟩;have k1:Pt KK g1 0 [.slice E0 p0.length G0]:=Pt.m0 (by rw[hKK];exact .tail _ (.head _));have k2:Pt KK g2 0 [.func (.func 120) #[] #[.pointer (some ⟨g3,0,none⟩)]]:=Pt.m0 (by rw[hKK];exact .head _);have k3:Pt KK g3 0 [iq p1.Cell,iq p1.Reach,iq p1.Slope,iq p1.Link,iq p1.Flat,iq p1.Tall,iq p1.High,iq p1.Low,iq p1.Brush,iq p1.Few]:=Pt.m0 (by rw[hKK];exact .tail _ (.tail _ (.head _)));have k0:Has KK E0 p0.length G0 9 Ai p0:=Has.up hb0 (by rw[hKK];exact SubE.cons2 (i:=3) rfl SubE.nil);refine Ar6 (p:=12) (Hs:=[.m g6 42 [.slice none 0 0],.r none 0 0 3 1 []]) (Lr:=KK) (K:=KK) (Rf:=fun Hs'=>∃ A c,Hs'=[.m g6 42 [.slice A out.length c],.r A out.length c 3 1 (out.flatMap Af)]) rfl (by rw[hKK];exact .pick 3 rfl (.pick 0 rfl .refl)) (Bj rfl (Bj rfl Cr)) ⟨fun w hw=>hw⟩ ?_ ?_
 ·intro l q a0 hfr hst hpe hpa htm has hbo;have hi0:∃ (A:Option Addr) (c:Nat),bunS [Qz l q,.m g6 42 [.slice none 0 0],.r none 0 0 3 1 []]=bunS [Qz l q,.m g6 42 [.slice A ([]:List Int).length c],.r A ([]:List Int).length c 3 1 (([]:List Int).flatMap Af)]:=⟨none,0,rfl⟩;have key:=Wu (fun p=>Nm p p1) Alk p0 ([]:List Int) (K:=KK) (kv:=.func (.func 120) #[] #[.pointer (some ⟨g3,0,none⟩)]) (l:=l)
   (Inv:=fun s e=>∃ A c,e=bunS [Qz l q,.m g6 42 [.slice A s.length c],.r A s.length c 3 1 (s.flatMap Af)]) (ye:=bunS [Qz l q,.m g6 42 [.slice none 0 0],.r none 0 0 3 1 []]) k0 k1 k2 (Bai p1 k3) ?_ hi0 hout
  ·refine⟨key.1,fun Lf w' hs hw'=>(key.2 Lf w' hs hw').mono ?_⟩;rintro e w'' ⟨v,Ln,rfl,⟨e',rfl,A,c,rfl⟩,hh⟩;exact⟨v,_,rfl,⟨_,⟨A,c,rfl⟩,Bj rfl (Bj rfl Cr),rfl⟩,hh⟩
  ·rintro s x s' e hs ⟨A,c,rfl⟩;obtain⟨hb,hs⟩:=Bv hs;obtain rfl:=Option.some.inj hs;refine Ak8.mk hfr hpa htm rfl (Bj rfl (Bj rfl Cr)) (fun Lf=>?_);rw[has,hbo];show T 21 _ ((12,.agg #[iq x.Id,iq x.X,iq x.Y,iq x.Z.Lo,iq x.Z.Hi,iq x.Wide,iq x.Num,iq x.Of,iq x.Class])::_) ([Qz l q,.m g6 42 [.slice A s.length c],.r A s.length c 3 1 (s.flatMap Af)]++Lf);refine Zn ?_;refine I_x (Bt Aj7 rfl (fun g5=>?_));refine I_h (Ay rfl rfl rfl (.here) (.put (.put (.put (.put (.put (.put (.put (.put (.put (.done)))))))))) rfl (List.cons_ne_nil _ _) Vg.2 ?_);refine Zm ?_;refine Ar3 (i:=1) (.there .here) hst ?_;refine Ah3 ?_;refine Zn ?_;refine Sr (Bd rfl (i:=2) rfl rfl Ab6) rfl ?_;refine Sr (Bf rfl Afx rfl) rfl ?_;refine Sr (Bd rfl (i:=0) rfl rfl one3) rfl ?_;refine I_x (Bs rfl (Ju _) rfl (fun g0=>?_));refine I_h (Ho Af s [x.Id] rfl rfl rfl Afc (fun _=>rfl) (i':=0) rfl rfl rfl rfl hb rfl (fun _ _=>.there (.there (.there (.there (.here))))) (fun _ _=>.drop .refl) dD (fun A1 c1=>?_));refine I_h (Ay rfl rfl rfl (.there (.there .here)) (.put .done) rfl (List.cons_ne_nil _ _) Ab6.2 ?_);refine Zm ?_;refine Ar2 ?_;exact Ar4 (i:=1) (.there .here) hst hpe (fun w3 hw3=>⟨rfl,_,⟨A1,c1,rfl⟩,Acw (Bj rfl (Bj rfl (Bj rfl Cr))) (hw3.pick (.pick 1 rfl (.pick 1 rfl (.pick 1 rfl (.drop 0 rfl .refl)))))⟩)
 ·rintro D Hs' ⟨A,c,rfl⟩ -;subst hKK;refine Ar2 ?_;refine Xm ?_;refine Abr ?_;refine Zn ?_;refine Sr (Bd rfl (i:=1) rfl rfl Ab6) rfl ?_;refine I_h (Bah out rfl hn (.there (.there .here)) rfl ?_);refine Zm ?_;refine Xm ?_;refine Abr ?_;refine Zn ?_;refine Sr (Bd rfl (i:=1) rfl rfl Ab6) rfl ?_;refine Sr (Ee rfl) rfl ?_;refine Zm ?_;refine Xm ?_;refine Bbu ?_;have hlen:out.length=(Gf out).length:=Kf.symm;refine Ab8 (s:=4) (v':=.slice A (Gf out).length c) rfl (by rw[hlen]) ?_;refine Wc (i:=2) (.there (.there .here)) (e':=.r A (Gf out).length c 3 1 ((Gf out).flatMap Af)) (by rw[hlen]) ?_;exact Bbv (rs:=[.tmp 4]) (i:=0) results68 (.tmp rfl .nil) (Ln:=[.r A (Gf out).length c 3 1 ((Gf out).flatMap Af)]) ⟨A,c,rfl,rfl,trivial⟩ (Bj rfl Cr) .here (.tmp rfl .nil) (.pick 2 rfl (.pick 5 rfl (.drop 0 rfl (.drop 0 rfl (.drop 0 rfl (.drop 0 rfl (.drop 0 rfl .refl)))))))
instance:MkI prog 42 3 1 8 Af 0:=⟨Tryz.t3,iq 0,underlying42,kr,kr,rfl,kr,kr⟩
noncomputable def Ut(p0:List Aa):(List Int × Int)->Option (Sum (List Int × Int) (List Int)):=fun s0=>
 if s0.2<(p0.length:Int) then (bnd (idx p0 s0.2) fun x0=>
 gd ((s0.1.length+1)*8<=140737488355328)<|
 some (.inl (s0.1++[x0.Id],w64 (s0.2+1))))
 else (some (.inr s0.1))
noncomputable def Zs(p0:List Aa):Option (List Int):=
 gd ((0:Int)<=(p0.length:Int)/\8*Int.toNat (p0.length:Int)<=140737488355328)<|
 jn (fun (s3:List Int)=>
 gd (s3.length<=1000000)<|
 some (Gf s3))
 (fun j3=>bnd (lfix (Ut p0) (([]:List Int),0)) fun t0=>
 j3 t0)
noncomputable def Rm(p0:List Aa):(List Aa × Int)->Option (Sum (List Aa × Int) (List Aa)):=fun s0=>
 if s0.2<(p0.length:Int) then (jn (fun (s1:List Aa)=>
 some (.inl (s1,w64 (s0.2+1))))
 (fun j0=>bnd (idx p0 s0.2) fun x0=>
 if x0.Num=x0.Of then (gd ((s0.1.length+1)*72<=140737488355328)<|
 j0 (s0.1++[x0]))
 else (j0 s0.1)))
 else (some (.inr s0.1))
noncomputable def Ue(p0:List Aa):Option (List Aa):=
 jn (fun (s3:List Aa)=>
 bnd (Us Ci s3) fun r0=>
 some r0)
 (fun j3=>bnd (lfix (Rm p0) (([]:List Aa),0)) fun t0=>
 j3 t0)
noncomputable def Kh(p0:List Aa)(p1:Ag):Option (List Aa):=
 bnd (Pq p0 p1) fun r2=>
 bnd (Ue r2.1) fun r0=>
 some r0
noncomputable def Pd(p0:List Aa)(p1:Ag):Option (List Int × Int):=
 bnd (Ns p0 p1) fun r2=>
 if r2=0 then (bnd (Kh p0 p1) fun r8=>
 bnd (Ys r8 p1) fun r0=>
 some (r0,0))
 else (some (([]:List Int),r2))
instance(p0:List Aa):Con (Zs p0) prog 106 (fun K vs=>∃ E0 G0,vs=[.slice E0 p0.length G0]/\Has K E0 p0.length G0 9 Ai p0/\True) (fun _ r=>fun v Ln=>∃ A0 c0,v = .slice A0 r.length c0/\Ln=[.r A0 r.length c0 3 1 (r.flatMap Af)]/\True):=⟨by
 rintro K _ r ⟨E0,G0,rfl,ha0,-⟩ hx w hK;replace ha0:=Has.lo ha0 hK;unfold Zs at hx;refine CtS ntmps106 results106 ?_;try (refine pre ?_;intros;rename_i hx)
 apply Jr (γ:=Option Addr × Nat) hx [] (fun s3 y3 f=>(3,.slice y3.1 s3.length y3.2)::f) [999] (fun s3 y3 l=>.r y3.1 s3.length y3.2 3 1 (s3.flatMap Af)::l);exact kk
 ·intro s3 y3 hx;exact au
 ·intro _ hx;try (refine pre ?_;intros;rename_i hx)
  apply Lr (γ:=Option Addr × Nat) hx [9,10] (fun s28 y28 f=>(3,.slice y28.1 s28.1.length y28.2)::(11,iq s28.2)::f) [999] (fun s28 y28 l=>.r y28.1 s28.1.length y28.2 3 1 (s28.1.flatMap Af)::l) (_,_);exact kk;exact sk;intro s28 y28 x28 hx _;unfold Ut at hx;exact au⟩
theorem Aje(p0:List Aa){K:List Ent}{E0:Option Addr}{G0:Nat}(ha0:Has K E0 p0.length G0 9 Ai p0){r:List Aa}(hx:Ue p0=some r)(w:World)(hK:∀ e∈K,Ent.ok w e):CtL prog 97 [.slice E0 p0.length G0] w fun v Ln=>∃ (A0:Option Addr) (c0:Nat),v = .slice A0 r.length c0/\Ln=[.r A0 r.length c0 30 9 (r.flatMap Ai)]/\True:=by
 have ha0':=Has.up0 ha0;refine CtL.mk 25 func97 rfl ntmps97 kr rfl ?_;show T 25 _ [(0,.slice E0 p0.length G0)] _;unfold Ue at hx;refine Y10 ?_;refine Tj (γ:=Option Addr × Nat) hx (fun s3 y3=>[(3,.slice y3.1 s3.length y3.2)]) (fun s3 y3=>[.r y3.1 s3.length y3.2 30 9 (s3.flatMap Ai)]++[.old w]) (fun s3 y3=>True) (fun s3 y3 hx0 hG0=>?_) (fun j3 hx=>?_)
 ·refine Y3 ?_;refine T_x (Br rfl (fun w1 _=>Ab7 y3.1 s3.length y3.2 70 [] w1) rfl ?_);rintro _ _ hlo ⟨g0,g1,rfl,rfl⟩;refine Zc ?_;refine Gb (k:=2) rfl dD (fun _=>rfl) (fun hn0 hs0=>?_);obtain⟨r0,h0,hx1⟩:=Ao hx0;refine T_x (Br rfl (fun w1 hw1=>Ajc Ci s3 (Has.up (L:=([.r y3.1 s3.length y3.2 30 9 (s3.flatMap Ai),.m g0 41 [.slice y3.1 s3.length y3.2],.m g1 98 [.func (.func 70) #[] #[]]]:List Ent)) hs0 (sb 0)) (Pt.m0 (.tail _ (.head _))) (Pt.m0 (.tail _ (.tail _ (.head _)))) (Aom.up (K:=[]) SubE.nil) h0 w1 (Wd (K:=([.r y3.1 s3.length y3.2 30 9 (s3.flatMap Ai),.m g0 41 [.slice y3.1 s3.length y3.2],.m g1 98 [.func (.func 70) #[] #[]]]:List Ent)) (by exact (SubE.cons2 (i:=2) rfl (SubE.cons2 (i:=1) rfl (sb 0)))) hw1)) rfl ?_);rintro _ _ hlo ⟨A1,c1,rfl,rfl⟩;refine Lz ?_;refine Y4 ?_;obtain rfl:=Option.some.inj hx1;exact Df (rs:=[.tmp 2]) results97 (.tmp rfl (.nil)) (Ln:=[.r A1 r0.length c1 30 9 (r0.flatMap Ai)]) ⟨A1,c1,rfl,rfl,trivial⟩ (Bj rfl Cr) (by exact .pick 0 rfl (.drop 0 rfl (.drop 0 rfl (.drop 0 rfl (.refl)))))
 ·refine Y3 ?_;refine At (Dn rfl 30 underlying41) rfl ?_;refine Y4 ?_;obtain⟨t0,hl0,ho0⟩:=Ao hx;refine Bi 30 9 ?_;have hn1:0=(([]:List Aa)).length:=by simp[Dr,Tm,List.length_append] <;> omega
  refine Wc (.here) (e':=.r none ((([]:List Aa)).length) 0 30 9 ((([]:List Aa)).flatMap Ai)) (by first | (rw[<- hn1];done) | rfl) ?_;refine Lp (σ:=List Aa × Int) (γ:=Option Addr × Nat) hl0 (fun s0 y0=>[(3,.slice y0.1 s0.1.length y0.2),(6,.slice E0 p0.length G0),(7,iq (p0.length:Int)),(8,iq s0.2)]) (fun s0 y0=>[.r y0.1 s0.1.length y0.2 30 9 (s0.1.flatMap Ai)]++[.old w]) (fun s0 y0=>True) (none,0) trivial (by exact .pick 0 rfl (.refl)) ?_;intro s0 y0 hG1 x0 hx2 ht0;unfold Rm at hx2;refine Y6 ?_;refine Ti hx2 (s:=9) rfl (fun h1 hx3=>?_) (fun h1 hx4=>?_)
  ·refine Y3 ?_;refine Tj (γ:=Option Addr × Nat) hx3 (fun s1 y1=>[(3,.slice y1.1 s1.length y1.2),(6,.slice E0 p0.length G0),(7,iq (p0.length:Int)),(8,iq s0.2)]) (fun s1 y1=>[.r y1.1 s1.length y1.2 30 9 (s1.flatMap Ai)]++[.old w]) (fun s1 y1=>True) (fun s1 y1 hx5 hG2=>?_) (fun j0 hx3=>?_)
   ·refine Y4 ?_;exact Rp (s1,w64 (s0.2+1)) (y1.1,y1.2) hx5 trivial (by exact .pick 0 rfl (.refl))
   ·refine Y3 ?_;obtain⟨x1,h2,hx6⟩:=Ao hx3;have hw0:=Has.low (E:=[]) ha0' hK;obtain⟨b0,o0,j1,hA0,hj0,hl1,hp0⟩:=Has.at_idx hw0 h2;refine At (Bl rfl rfl hA0 (j:=j1) hj0 hl1 Al5) rfl ?_;refine At (Db rfl hp0 (sb 1) rfl Vg) rfl ?_;refine T_x (Bt Aj7 rfl (fun g2=>?_));refine T_h (Ay rfl rfl rfl (.here) (.put (.put (.put (.put (.put (.put (.put (.put (.put (.done)))))))))) rfl (List.cons_ne_nil _ _) Vg.2 ?_);refine Y4 ?_;refine At (Bf rfl Ath rfl) rfl ?_;refine At (Bd rfl (i:=0) rfl rfl one3) rfl ?_;refine At (Bf rfl Anj rfl) rfl ?_;refine At (Bd rfl (i:=0) rfl rfl one3) rfl ?_;refine Y3 ?_;refine Ti hx6 (s:=16) rfl (fun h3 hx7=>?_) (fun h3 hx8=>?_)
    ·refine Y3 ?_;refine At (Bo rfl (i:=0) rfl rfl Vg) rfl ?_;refine T_x (Bs rfl (Cu _ _ _ _ _ _ _ _ _) rfl (fun g3=>?_));obtain⟨h4,hx9⟩:=Bv hx7;refine T_h (Ho Ai s0.1 [x1] rfl rfl rfl Apm (fun _=>rfl) (i':=0) rfl rfl rfl rfl h4 rfl (fun _ _=>.there (.there (.here))) (fun _ _=>.drop .refl) dD (fun A2 c2=>?_));refine Y3 ?_;exact Mt (s0.1++[x1]) (A2,c2) hx9 trivial (by exact .pick 1 rfl (.drop 0 rfl (.refl)))
    ·refine Y3 ?_;exact Mt s0.1 (y0.1,y0.2) hx8 trivial (by exact .pick 1 rfl (.drop 0 rfl (.refl)))
  ·refine Y3 ?_;obtain rfl:=Ii ht0 hx4;refine Y2 ?_;exact Mt s0.1 (y0.1,y0.2) ho0 trivial (by exact .pick 0 rfl (.refl))
instance(p0:List Aa):Con (Ue p0) prog 97 (fun K vs=>∃ E0 G0,vs=[.slice E0 p0.length G0]/\Has K E0 p0.length G0 9 Ai p0/\True) (fun _ r=>fun v Ln=>∃ A0 c0,v = .slice A0 r.length c0/\Ln=[.r A0 r.length c0 30 9 (r.flatMap Ai)]/\True):=⟨by
 rintro K _ r ⟨E0,G0,rfl,ha0,-⟩ hx w hK;exact Aje p0 ha0 hx w hK⟩
instance Aec(p0:List Aa)(p1:Ag):Con (Kh p0 p1) prog 44 (fun K vs=>∃ E0 G0,vs=[.slice E0 p0.length G0,.agg #[iq p1.Cell,iq p1.Reach,iq p1.Slope,iq p1.Link,iq p1.Flat,iq p1.Tall,iq p1.High,iq p1.Low,iq p1.Brush,iq p1.Few]]/\Has K E0 p0.length G0 9 Ai p0/\True) (fun _ r=>fun v Ln=>∃ A0 c0,v = .slice A0 r.length c0/\Ln=[.r A0 r.length c0 30 9 (r.flatMap Ai)]/\True):=⟨by
 rintro K _ r ⟨E0,G0,rfl,ha0,-⟩ hx w hK;replace ha0:=Has.lo ha0 hK;unfold Kh at hx;refine CtS ntmps44 results44 ?_;exact au⟩
theorem Adf(p0:List Aa)(p1:Ag){K:List Ent}{E0:Option Addr}{G0:Nat}(ha0:Has K E0 p0.length G0 9 Ai p0){r:List Aa}(hx:Kh p0 p1=some r)(w:World)(hK:∀ e∈K,Ent.ok w e):CtL prog 44 [.slice E0 p0.length G0,.agg #[iq p1.Cell,iq p1.Reach,iq p1.Slope,iq p1.Link,iq p1.Flat,iq p1.Tall,iq p1.High,iq p1.Low,iq p1.Brush,iq p1.Few]] w fun v Ln=>∃ (A0:Option Addr) (c0:Nat),v = .slice A0 r.length c0/\Ln=[.r A0 r.length c0 30 9 (r.flatMap Ai)]/\True:=(Aec p0 p1).h K _ _ ⟨_,_,rfl,ha0,trivial⟩ hx w hK
theorem Ajf(p0:List Aa)(p1:Ag){K:List Ent}{E0:Option Addr}{G0:Nat}(ha0:Has K E0 p0.length G0 9 Ai p0){r:List Int × Int}(hx:Pd p0 p1=some r)(w:World)(hK:∀ e∈K,Ent.ok w e):CtL prog 30 [.slice E0 p0.length G0,.agg #[iq p1.Cell,iq p1.Reach,iq p1.Slope,iq p1.Link,iq p1.Flat,iq p1.Tall,iq p1.High,iq p1.Low,iq p1.Brush,iq p1.Few]] w fun v Ln=>∃ (A0:Option Addr) (c0:Nat),v = .tuple #[.slice A0 r.1.length c0,iq r.2]/\Ln=[.r A0 r.1.length c0 3 1 (r.1.flatMap Af)]/\True:=by
 have ha0':=Has.up0 ha0;refine CtL.mk 18 func30 rfl ntmps30 kr rfl ?_;show T 18 _ [(0,.slice E0 p0.length G0),(1,.agg #[iq p1.Cell,iq p1.Reach,iq p1.Slope,iq p1.Link,iq p1.Flat,iq p1.Tall,iq p1.High,iq p1.Low,iq p1.Brush,iq p1.Few])] _;unfold Pd at hx;refine Y2 ?_;refine T_x (Pf rfl rfl rfl (fun g1=>?_));refine Y8 ?_;refine At (Bo rfl (i:=0) rfl rfl Apl) rfl ?_;obtain⟨r2,h3,hx4⟩:=Ao hx;refine Tc (fun w1 hw1=>Ags p0 p1 (Has.len' ha0') h3 w1 (Ss (K:=K) (K2:=[]) hK (by exact (sb 1)) (by exact SubE.nil) hw1)) ?_;refine Y9 ?_;refine Xx (s:=11) rfl (fun h5=>?_) (fun h5=>?_)
 ·have hx6:=Yu h5 hx4;refine Y10 ?_;refine Bi 3 1 ?_;obtain rfl:=Option.some.inj hx6;exact Df (rs:=[.tmp 4,.tmp 5]) results30 (.tmp rfl (.tmp rfl (.nil))) (Ln:=[.r none 0 0 3 1 ((([]:List Int)).flatMap Af)]) ⟨none,0,rfl,rfl,trivial⟩ (Bj rfl Cr) (by exact .pick 0 rfl (.drop 0 rfl (.refl)))
 ·have hx7:=Io h5 hx4;refine Y4 ?_;refine T_dr [0,1,2,1,2,2,2] (.q 0 (.q 1 (.q 3 (.e 2 (.e 4 (.e 5 (.e 6 (.done) (.stop)) (.stop)) (.stop)) (.stop))))) mixed kr kr ?_;refine Y ?_;refine P_q rfl rfl (Bo rfl (i:=0) rfl rfl Apl) rfl ?_;refine P_q rfl rfl (Bo rfl (i:=0) rfl rfl Apl) rfl ?_;obtain⟨r8,h9,hx0⟩:=Ao hx7;refine P_x rfl (Br rfl (fun w1 hw1=>Adf p0 p1 (Has.len' ha0') h9 w1 (Ss (K:=K) (K2:=[]) hK (by exact (sb 1)) (by exact SubE.nil) hw1)) rfl ?_) ?_;rotate_left;exact Bg;rintro _ _ hlo ⟨A1,c1,rfl,rfl,-⟩;refine Lz ?_;refine Gb (k:=0) rfl dD (fun _=>rfl) (fun hn0 hs0=>?_);obtain⟨r0,h0,hx1⟩:=Ao hx0;refine P_x rfl (Br rfl (fun w1 hw1=>Ajd r8 p1 (Has.len' hs0) h0 w1 (Wd (K:=([.r A1 r8.length c1 30 9 (r8.flatMap Ai)]:List Ent)) (by exact (sb 0)) hw1)) rfl ?_) ?_;rotate_left;exact Bg;rintro _ _ hlo ⟨A2,c2,rfl,rfl,-⟩;refine Lz ?_;refine P_x rfl (Dx (Ee rfl) rfl ?_) ?_;rotate_left;exact Bg;refine P_x rfl (Dx (Ee rfl) rfl ?_) ?_;rotate_left;exact Bg;refine Y3 ?_;obtain rfl:=Option.some.inj hx1;exact Df (rs:=[.tmp 4,.tmp 5]) results30 (.tmp rfl (.tmp rfl (.nil))) (Ln:=[.r A2 r0.length c2 3 1 (r0.flatMap Af)]) ⟨A2,c2,rfl,rfl,trivial⟩ (Bj rfl Cr) (by exact .pick 0 rfl (.drop 0 rfl (.drop 0 rfl (.refl))))
instance(p0:List Aa)(p1:Ag):Con (Pd p0 p1) prog 30 (fun K vs=>∃ E0 G0,vs=[.slice E0 p0.length G0,.agg #[iq p1.Cell,iq p1.Reach,iq p1.Slope,iq p1.Link,iq p1.Flat,iq p1.Tall,iq p1.High,iq p1.Low,iq p1.Brush,iq p1.Few]]/\Has K E0 p0.length G0 9 Ai p0/\True) (fun _ r=>fun v Ln=>∃ A0 c0,v = .tuple #[.slice A0 r.1.length c0,iq r.2]/\Ln=[.r A0 r.1.length c0 3 1 (r.1.flatMap Af)]/\True):=⟨by
 rintro K _ r ⟨E0,G0,rfl,ha0,-⟩ hx w hK;exact Ajf p0 p1 ha0 hx w hK⟩
end Go.Proofs.YthlkpgdfifnagaaGreat
