import Derived.Test.YthlkpgdfifnagaaGreatJ3
import Derived.Test.YthlkpgdfifnagaaGreatProg
set_option maxRecDepth 100000
set_option maxHeartbeats 1000000
namespace Go.Proofs.YthlkpgdfifnagaaGreat
open Go Go.RowKit Tryz List
noncomputable section
instance:Ph prog 284 199 1:=⟨.mk underlying284 (show prog.info? 199=some t199 from by kernel_rfl) kr⟩
instance:OneI prog 199:=⟨.mk underlying199 rfl (show prog.info? 199=some t199 from by kernel_rfl) kr⟩
instance(x0:Int)(x1:Int):Rc prog 284 2 [(0,.int .u32 x0),(1,.int .u32 x1)] 199 [.int .u32 x0,.int .u32 x1]:=⟨fun w=>kr⟩
instance:Ud prog 286 [.bool false,.slice none 0 0,.slice none 0 0]:=⟨⟨_,zeroValue286,rfl⟩⟩
instance:Bz prog 286 0 0:=⟨.mk underlying286 rfl rfl (show prog.info? 4=some Tryz.t4 from by kernel_rfl) (show Tryz.t4.size=1 from by kernel_rfl) rfl⟩
theorem one4:Vf prog 4:=.mk underlying4 rfl (show prog.info? 4=some Tryz.t4 from by kernel_rfl) kr
instance:OneI prog 4:=⟨one4⟩
instance:Bz prog 286 1 1:=⟨.mk underlying286 rfl rfl (show prog.info? 284=some t284 from by kernel_rfl) (show t284.size=1 from by kernel_rfl) rfl⟩
instance:OneI prog 284:=⟨.mk underlying284 rfl (show prog.info? 284=some t284 from by kernel_rfl) kr⟩
instance:Bz prog 286 2 2:=⟨.mk underlying286 rfl rfl (show prog.info? 284=some t284 from by kernel_rfl) (show t284.size=1 from by kernel_rfl) rfl⟩
instance(x0:Bool)(x1:Option Addr)(x2:Nat)(x3:Nat)(x4:Option Addr)(x5:Nat)(x6:Nat):Je prog 286 [(0,.bool x0),(1,.slice x1 x2 x3),(2,.slice x4 x5 x6)] [.bool x0,.slice x1 x2 x3,.slice x4 x5 x6]:=⟨fun w=>kr⟩
instance:AggI prog 286 3:=⟨.mk underlying286 rfl (show prog.info? 286=some t286 from by kernel_rfl) kr⟩
instance(x0:Int):Rc prog 284 1 [(0,.int .u32 x0)] 199 [.int .u32 x0]:=⟨fun w=>kr⟩
instance(x0:Int)(x1:Int)(x2:Int)(x3:Int)(x4:Int)(x5:Int):Rc prog 58 3 [(0,.agg #[.int .i64 x0,.int .i64 x1]),(1,.agg #[.int .i64 x2,.int .i64 x3]),(2,.agg #[.int .i64 x4,.int .i64 x5])] 57 [.int .i64 x0,.int .i64 x1,.int .i64 x2,.int .i64 x3,.int .i64 x4,.int .i64 x5]:=⟨fun w=>kr⟩
instance(x0:Int)(x1:Int)(x2:Int)(x3:Int)(x4:Int)(x5:Int)(x6:Int)(x7:Int):Rc prog 58 4 [(0,.agg #[.int .i64 x0,.int .i64 x1]),(1,.agg #[.int .i64 x2,.int .i64 x3]),(2,.agg #[.int .i64 x4,.int .i64 x5]),(3,.agg #[.int .i64 x6,.int .i64 x7])] 57 [.int .i64 x0,.int .i64 x1,.int .i64 x2,.int .i64 x3,.int .i64 x4,.int .i64 x5,.int .i64 x6,.int .i64 x7]:=⟨fun w=>kr⟩
instance:Bz prog 108 0 0:=⟨.mk underlying108 rfl rfl (show prog.info? 3=some Tryz.t3 from by kernel_rfl) (show Tryz.t3.size=1 from by kernel_rfl) rfl⟩
instance:Bz prog 108 1 1:=⟨.mk underlying108 rfl rfl (show prog.info? 3=some Tryz.t3 from by kernel_rfl) (show Tryz.t3.size=1 from by kernel_rfl) rfl⟩
theorem Aez:Rj prog 108 4:=.mk underlying108 rfl (show prog.info? 108=some t108 from by kernel_rfl) kr
instance:AggI prog 108 4:=⟨Aez⟩
theorem Tk:Hb prog 108 2 2:=.mk underlying108 rfl rfl (show prog.info? 28=some Tryz.t28 from by kernel_rfl) (show Tryz.t28.size=2 from by kernel_rfl) rfl
instance:Bz prog 108 2 2:=⟨Tk⟩
theorem Abk:Rj prog 28 2:=.mk underlying28 rfl (show prog.info? 28=some Tryz.t28 from by kernel_rfl) kr
instance:AggI prog 28 2:=⟨Abk⟩
theorem Aki:Qw prog 103 [.int .i64 0,.int .i64 0]:=⟨_,zeroValue103,rfl⟩
instance:Ud prog 103 [.int .i64 0,.int .i64 0]:=⟨Aki⟩
theorem Qp(x0:Int)(x1:Int):Vv prog 103 [(0,.int .i64 x0),(1,.int .i64 x1)] [.int .i64 x0,.int .i64 x1]:=fun w=>kr
instance(x0:Int)(x1:Int):Je prog 103 [(0,.int .i64 x0),(1,.int .i64 x1)] [.int .i64 x0,.int .i64 x1]:=⟨Qp _ _⟩
theorem Acs:Rj prog 103 2:=.arr underlying103 (show prog.info? 103=some t103 from by kernel_rfl) kr
instance:AggI prog 103 2:=⟨Acs⟩
theorem Sw:Ag0 prog 103 2 1:=.mk underlying103 (show prog.info? 3=some Tryz.t3 from by kernel_rfl) kr
instance:ArrI prog 103 2 1:=⟨Sw⟩
instance(x0:Int)(x1:Int)(x2:Int)(x3:Int)(x4:Int)(x5:Int):Je prog 162 [(0,.agg #[.int .i64 x0,.int .i64 x1]),(1,.agg #[.int .i64 x2,.int .i64 x3]),(2,.agg #[.int .i64 x4,.int .i64 x5])] [.int .i64 x0,.int .i64 x1,.int .i64 x2,.int .i64 x3,.int .i64 x4,.int .i64 x5]:=⟨fun w=>kr⟩
theorem Bff(a0:Int)(a1:Int)(b0:Int)(b1:Int):∀ w,(Op.equalIn 10000 57 (.agg #[.int .i64 a0,.int .i64 a1]) (.agg #[.int .i64 b0,.int .i64 b1])).run prog w = .ok (((a0 == b0) && ((a1 == b1) && true))) w :=
 EqF.struct underlying57 kr (.cons rfl (fun w=>kr) (fun w=>kr) (fun w=>run_equalIn_int w 9998 3 .i64 .i64 _ _ underlying3) (.cons rfl (fun w=>kr) (fun w=>kr) (fun w=>run_equalIn_int w 9998 3 .i64 .i64 _ _ underlying3) EqF.nil))
instance(a0:Int)(a1:Int)(b0:Int)(b1:Int):EqSI prog 57 [.int .i64 a0,.int .i64 a1] [.int .i64 b0,.int .i64 b1] (((a0 == b0) && ((a1 == b1) && true))):=⟨Bff _ _ _ _,kr⟩
instance:UndI prog 284 (.slice 199):=⟨underlying284⟩
def Ep(x:Int):List Value:=[.int .u32 x]
instance(x0:Int):DecI Ep [.int .u32 x0] x0:=⟨rfl⟩
instance:EncI 199 Ep:=⟨trivial⟩
def Rh  : (List Int)->Option (Sum (List Int) (List Int)):=fun s0=>
 jn (fun (s6:Bool)=>
 if s6=true then (gd (0<=(w64 ((s0.length:Int)-1))/\(w64 ((s0.length:Int)-1))<=(s0.length:Int))<|
 some (.inl (subl s0 0 (w64 ((s0.length:Int)-1)))))
 else (some (.inr s0)))
 (fun j6=>if 0<(s0.length:Int) then (bnd (idx s0 (w64 ((s0.length:Int)-1))) fun x0=>
 j6 (decide (x0=0)))
 else (j6 false))
def Fk(p0:List Int):Option (List Int):=
 jn (fun (s2:List Int)=>
 some s2)
 (fun j2=>bnd (lfix Rh p0) fun t0=>
 j2 t0)
instance:UndI prog 167 (.int .u64):=⟨underlying167⟩
instance:UndI prog 199 (.int .u32):=⟨underlying199⟩
def Uj(p0:Int):Option (List Int):=
 bnd (Fk ([wu32 p0,wu32 (shr_ .u64 p0 32)])) fun r3=>
 some r3
def Ml(p0:Int)(p1:Int)(p2:Int):Option (Int × Int):=
 some (wu32 (wu64 ((wu64 ((wu64 p0)+(wu64 p1)))+(wu64 p2))),wu32 (shr_ .u64 (wu64 ((wu64 ((wu64 p0)+(wu64 p1)))+(wu64 p2))) 32))
def Mm(p0:Int)(p1:Int)(p2:Int):Option (Int × Int):=
 some (wu32 ((wu32 (p0-p1))-p2),shr_ .u32 (Wq .u32 (Ds .u32 (Ac5 .u32 (if IntKind.signed .u32 then -1 else IntKind.max .u32) p0) p1) (Ds .u32 (Ac5 .u32 (if IntKind.signed .u32 then -1 else IntKind.max .u32) (Ac5 .u32 p0 p1)) (wu32 ((wu32 (p0-p1))-p2)))) 31)
instance:MkI prog 284 199 1 4 Ep 0:=⟨t199,.int .u32 0,underlying284,kr,kr,rfl,kr,kr⟩
def Ks(p1:List Int)(s0:List Int × Int)(x0:Int):(List Int × Int × Int)->Option (Sum (List Int × Int × Int) (List Int × Int)):=fun s1=>
 if s1.2.2<(p1.length:Int) then (bnd (idx p1 s1.2.2) fun x1=>
 bnd (idx s1.1 (w64 (s0.2+s1.2.2))) fun x2=>
 bnd (idx s1.1 (w64 (s0.2+s1.2.2))) fun x3=>
 some (.inl (setI s1.1 (w64 (s0.2+s1.2.2)) (wu32 (wu64 ((wu64 ((wu64 ((wu64 x0)*(wu64 x1)))+(wu64 x2)))+s1.2.1))),shr_ .u64 (wu64 ((wu64 ((wu64 ((wu64 x0)*(wu64 x1)))+(wu64 x2)))+s1.2.1)) 32,w64 (s1.2.2+1))))
 else (some (.inr (s1.1,s1.2.1)))
def Kt(p0:List Int)(p1:List Int):(List Int × Int)->Option (Sum (List Int × Int) (List Int)):=fun s0=>
 if s0.2<(p0.length:Int) then (bnd (idx p0 s0.2) fun x0=>
 jn (fun (s1:List Int × Int)=>
 bnd (idx s1.1 (w64 (s0.2+(p1.length:Int)))) fun x1=>
 some (.inl (setI s1.1 (w64 (s0.2+(p1.length:Int))) (wu32 s1.2),w64 (s0.2+1))))
 (fun j0=>bnd (lfix (Ks p1 s0 x0) (s0.1,0,0)) fun t0=>
 j0 t0))
 else (some (.inr s0.1))
def Ed(p0:List Int)(p1:List Int):Option (List Int):=
 gd ((0:Int)<=(w64 ((p0.length:Int)+(p1.length:Int)))/\4*Int.toNat (w64 ((p0.length:Int)+(p1.length:Int)))<=140737488355328)<|
 jn (fun (s3:List Int)=>
 bnd (Fk s3) fun r0=>
 some r0)
 (fun j3=>bnd (lfix (Kt p0 p1) (List.replicate (Int.toNat (w64 ((p0.length:Int)+(p1.length:Int)))) (0:Int),0)) fun t0=>
 j3 t0)
def So(p0:List Int)(p1:List Int):Int->Option (Sum Int (Sum Unit Int)):=fun s0=>
 if 0<=s0 then (bnd (idx p0 s0) fun x0=>
 bnd (idx p1 s0) fun x1=>
 if x0=x1 then (some (.inl (w64 (s0-1))))
 else (bnd (idx p0 s0) fun x2=>
 bnd (idx p1 s0) fun x3=>
 if x2<x3 then (some (.inr (.inr (-1))))
 else (some (.inr (.inr 1)))))
 else (some (.inr (.inl ())))
def Tl(p0:List Int)(p1:List Int):Option Int :=
 if (p0.length:Int)=(p1.length:Int) then (jn (fun (s8:Unit)=>
 some 0)
 (fun j8=>bnd (lfix (So p0 p1) (w64 ((p0.length:Int)-1))) fun t0=>
 (match t0 with
 | (.inl z0)=>j8 z0
 | (.inr z0)=>some z0
 )))
 else (if (p0.length:Int)<(p1.length:Int) then (some (-1))
 else (some 1))
def Ku(s2:List Int × List Int):(List Int × Int × Int)->Option (Sum (List Int × Int × Int) (List Int × Int)):=fun s0=>
 if s0.2.2<(s2.1.length:Int) then (jn (fun (s1:Int)=>
 bnd (idx s2.1 s0.2.2) fun x0=>
 bnd (Ml x0 s1 s0.2.1) fun r0=>
 bnd (idx s0.1 s0.2.2) fun x1=>
 some (.inl (setI s0.1 s0.2.2 r0.1,r0.2,w64 (s0.2.2+1))))
 (fun j0=>if s0.2.2<(s2.2.length:Int) then (bnd (idx s2.2 s0.2.2) fun x2=>
 j0 x2)
 else (j0 0)))
 else (some (.inr (s0.1,s0.2.1)))
def Qs(p0:List Int)(p1:List Int):Option (List Int):=
 jn (fun (s2:List Int × List Int)=>
 gd ((0:Int)<=(w64 ((s2.1.length:Int)+1))/\4*Int.toNat (w64 ((s2.1.length:Int)+1))<=140737488355328)<|
 jn (fun (s6:List Int × Int)=>
 bnd (idx s6.1 (s2.1.length:Int)) fun x0=>
 bnd (Fk (setI s6.1 (s2.1.length:Int) s6.2)) fun r0=>
 some r0)
 (fun j6=>bnd (lfix (Ku s2) (List.replicate (Int.toNat (w64 ((s2.1.length:Int)+1))) (0:Int),0,0)) fun t0=>
 j6 t0))
 (fun j2=>if (p0.length:Int)<(p1.length:Int) then (j2 (p1,p0))
 else (j2 (p0,p1)))
def Oz(p0:List Int)(p1:List Int):(List Int × Int × Int)->Option (Sum (List Int × Int × Int) (List Int)):=fun s0=>
 if s0.2.2<(p0.length:Int) then (jn (fun (s1:Int)=>
 bnd (idx p0 s0.2.2) fun x0=>
 bnd (Mm x0 s1 s0.2.1) fun r0=>
 bnd (idx s0.1 s0.2.2) fun x1=>
 some (.inl (setI s0.1 s0.2.2 r0.1,r0.2,w64 (s0.2.2+1))))
 (fun j0=>if s0.2.2<(p1.length:Int) then (bnd (idx p1 s0.2.2) fun x2=>
 j0 x2)
 else (j0 0)))
 else (some (.inr s0.1))
def Nt(p0:List Int)(p1:List Int):Option (List Int):=
 gd ((0:Int)<=(p0.length:Int)/\4*Int.toNat (p0.length:Int)<=140737488355328)<|
 jn (fun (s4:List Int)=>
 bnd (Fk s4) fun r0=>
 some r0)
 (fun j4=>bnd (lfix (Oz p0 p1) (List.replicate (Int.toNat (p0.length:Int)) (0:Int),0,0)) fun t0=>
 j4 t0)
structure By where
 neg:Bool
 n:List Int
 d:List Int
def Kd(p0:By)(p1:By):Option By :=
 bnd (Ed p0.n p1.n) fun r4=>
 bnd (Ed p0.d p1.d) fun r0=>
 some (⟨!(p0.neg == p1.neg),r4,r0⟩:By)
def Qt(p0:By)(p1:By):Option By :=
 bnd (Ed p0.n p1.d) fun r4=>
 bnd (Ed p1.n p0.d) fun r0=>
 bnd (Ed p0.d p1.d) fun r1=>
 if (p0.neg == p1.neg)=true then (bnd (Qs r4 r0) fun r2=>
 some (⟨p0.neg,r2,r1⟩:By))
 else (bnd (Tl r4 r0) fun r3=>
 if 0<=r3 then (bnd (Nt r4 r0) fun r5=>
 some (⟨p0.neg,r5,r1⟩:By))
 else (bnd (Nt r0 r4) fun r6=>
 some (⟨p1.neg,r6,r1⟩:By)))
def Pb(p0:By):Option Int :=
 if (p0.n.length:Int)=0 then (some 0)
 else (if p0.neg=true then (some (-1))
 else (some 1))
instance:UndI prog 3 (.int .i64):=⟨underlying3⟩
def Mn(p0:Int):Option By :=
 if p0<0 then (bnd (Uj (wu64 ((wu64 (w64 (-(w64 (p0+1)))))+1))) fun r4=>
 some (⟨true,r4,[1]⟩:By))
 else (bnd (Uj (wu64 p0)) fun r0=>
 some (⟨false,r0,[1]⟩:By))
def Mo(p0:List Ac):Int->Option (Sum Int (Sum Unit Bool)):=fun s0=>
 if s0<(p0.length:Int) then (bnd (idx p0 s0) fun x0=>
 jn (fun (s1:Bool)=>
 if s1=true then (some (.inr (.inr false)))
 else (some (.inl (w64 (s0+1)))))
 (fun j0=>if x0.X<(-268435456) then (j0 true)
 else (if 268435456<x0.X then (j0 true)
 else (if x0.Y<(-268435456) then (j0 true)
 else (j0 (decide (268435456<x0.Y)))))))
 else (some (.inr (.inl ())))
def Sp(p0:List Ac):Option Bool :=
 jn (fun (s2:Unit)=>
 some true)
 (fun j2=>bnd (lfix (Mo p0) 0) fun t0=>
 (match t0 with
 | (.inl z0)=>j2 z0
 | (.inr z0)=>some z0
 ))
def Mq(p0:Int):Option Int :=
 if p0<0 then (some (-1))
 else (if 0<p0 then (some 1)
 else (some 0))
def Ni(p0:Ac)(p1:Ac)(p2:Ac):Option Int :=
 some (w64 ((w64 ((w64 (p1.X-p0.X))*(w64 (p2.Y-p0.Y))))-(w64 ((w64 (p1.Y-p0.Y))*(w64 (p2.X-p0.X))))))
def Vt(p0:Ac)(p1:Ac)(p2:Ac):Option (Int × Int):=
 bnd (Sp ([p0,p1,p2])) fun r6=>
 if r6=true then (bnd (Ni p0 p1 p2) fun r0=>
 bnd (Mq r0) fun r1=>
 some (r1,0))
 else (some (0,11))
def Tz(p0:Ac)(p1:Ac):Option Int :=
 some (w64 ((w64 ((w64 (p0.X-p1.X))*(w64 (p0.X-p1.X))))+(w64 ((w64 (p0.Y-p1.Y))*(w64 (p0.Y-p1.Y))))))
def Ve(p0:Ac)(p1:Ac)(p2:Ac)(p3:Ac):Option (Int × Int):=
 bnd (Sp ([p0,p1,p2,p3])) fun r7=>
 if r7=true then (bnd (Ni p0 p1 p2) fun r0=>
 bnd (Mq r0) fun r1=>
 if r1=0 then (some (0,12))
 else (bnd (Tz p0 p3) fun r2=>
 bnd (Mn r2) fun r3=>
 bnd (Ni p3 p1 p2) fun r4=>
 bnd (Mn r4) fun r5=>
 bnd (Kd r3 r5) fun r6=>
 bnd (Tz p1 p3) fun r8=>
 bnd (Mn r8) fun r9=>
 bnd (Ni p3 p2 p0) fun r81=>
 bnd (Mn r81) fun r84=>
 bnd (Kd r9 r84) fun r98=>
 bnd (Qt r6 r98) fun r10=>
 bnd (Tz p2 p3) fun r11=>
 bnd (Mn r11) fun r12=>
 bnd (Ni p3 p0 p1) fun r14=>
 bnd (Mn r14) fun r15=>
 bnd (Kd r12 r15) fun r17=>
 bnd (Qt r10 r17) fun r18=>
 bnd (Pb r18) fun r19=>
 some (w64 (r1*r19),0)))
 else (some (0,11))
def Yy(p0:Aw):Option Bool :=
 jn (fun (s2:Bool)=>
 some s2)
 (fun j2=>if (-1152921504606846976)<=p0.Lo then (if p0.Lo<=p0.Hi then (j2 (decide (p0.Hi<=1152921504606846976)))
 else (j2 false))
 else (j2 false))
def Oa(p0:Ad):Option Ac :=
 some (⟨p0.X,p0.Y⟩:Ac)
def Ke(p0:Ac)(p1:Ac):Option Bool :=
 jn (fun (s2:Bool)=>
 some s2)
 (fun j2=>if p0.X<p1.X then (j2 true)
 else (if p0.X=p1.X then (j2 (decide (p0.Y<p1.Y)))
 else (j2 false)))
def Sq(p0:Ac)(p1:Ac)(p2:Ac):Option Int :=
 bnd (Vt p0 p1 p2) fun r4=>
 some r4.1
def Aah(p0:Ad):Option Bool :=
 bnd (Oa p0) fun r2=>
 bnd (Oa p0) fun r5=>
 bnd (Oa p0) fun r8=>
 bnd (Vt r2 r5 r8) fun r0=>
 jn (fun (s3:Bool)=>
 some s3)
 (fun j3=>if r0.2=0 then (bnd (Yy p0.Z) fun r1=>
 if r1=true then (if (-268435456)<=p0.Z.Lo then (j3 (decide (p0.Z.Hi<=268435456)))
 else (j3 false))
 else (j3 false))
 else (j3 false))
structure Ab where
 a0:Int
 a1:Int
def Qu(p0:Int)(p1:Int):Option Ab :=
 some (⟨min p0 p1,max p0 p1⟩:Ab)
def Yi(p0:Ab)(p1:Ab):Option Int :=
 if p0.a0=p1.a0 then (some (w64 (p0.a1-p1.a1)))
 else (some (w64 (p0.a0-p1.a0)))
theorem Bec(x0:Int)(x1:Int)(x2:Int)(x3:Int)(x4:Int)(x5:Int):Amm prog 162 [.int .i64 x0,.int .i64 x1,.int .i64 x2,.int .i64 x3,.int .i64 x4,.int .i64 x5] [.agg #[.int .i64 x0,.int .i64 x1],.agg #[.int .i64 x2,.int .i64 x3],.agg #[.int .i64 x4,.int .i64 x5]]:=by
 intro j h k w;have h':j<3:=h
 match j,h,h' with
 | 0,_,_=>exact (show (Instr.index 162 (.agg ([.int .i64 x0,.int .i64 x1,.int .i64 x2,.int .i64 x3,.int .i64 x4,.int .i64 x5]:List Value).toArray) (.int k ((0:Nat):Int))).run prog w = .ok (.agg #[.int .i64 x0,.int .i64 x1]) w by kernel_rfl)
 | 1,_,_=>exact (show (Instr.index 162 (.agg ([.int .i64 x0,.int .i64 x1,.int .i64 x2,.int .i64 x3,.int .i64 x4,.int .i64 x5]:List Value).toArray) (.int k ((1:Nat):Int))).run prog w = .ok (.agg #[.int .i64 x2,.int .i64 x3]) w by kernel_rfl)
 | 2,_,_=>exact (show (Instr.index 162 (.agg ([.int .i64 x0,.int .i64 x1,.int .i64 x2,.int .i64 x3,.int .i64 x4,.int .i64 x5]:List Value).toArray) (.int k ((2:Nat):Int))).run prog w = .ok (.agg #[.int .i64 x4,.int .i64 x5]) w by kernel_rfl)
instance(x0:Int)(x1:Int)(x2:Int)(x3:Int)(x4:Int)(x5:Int):Asp prog 162 [.int .i64 x0,.int .i64 x1,.int .i64 x2,.int .i64 x3,.int .i64 x4,.int .i64 x5] Eo [(⟨x0,x1⟩:Ac),(⟨x2,x3⟩:Ac),(⟨x4,x5⟩:Ac)]:=⟨Bec _ _ _ _ _ _⟩
def Zi(p1:Ac)(p2:Ac)(p3:Ac):(Int × Int × Int)->Option (Sum (Int × Int × Int) (Int × Int)):=fun s0=>
 if s0.2.2<3 then (jn (fun (s1:Int × Int)=>
 some (.inl (s1.1,s1.2,w64 (s0.2.2+1))))
 (fun j0=>bnd (idx [p1,p2,p3] s0.2.2) fun x0=>
 bnd (Ke x0 (⟨s0.1,s0.2.1⟩:Ac)) fun r0=>
 if r0=true then (j0 (x0.X,x0.Y))
 else (j0 (s0.1,s0.2.1))))
 else (some (.inr (s0.1,s0.2.1)))
def Vu(p0:Ac)(p1:Ac)(p2:Ac)(p3:Ac):Option Bool :=
 bnd (Ve p0 p1 p2 p3) fun r5=>
 if r5.1=0 then (jn (fun (s7:Int × Int)=>
 jn (fun (s0:Bool)=>
 some s0)
 (fun j0=>if (((s7.1 == p2.X) && ((s7.2 == p2.Y) && true)))=true then (j0 true)
 else (j0 ((s7.1 == p3.X) && ((s7.2 == p3.Y) && true)))))
 (fun j7=>bnd (lfix (Zi p1 p2 p3) (p0.X,p0.Y,0)) fun t0=>
 j7 t0))
 else (some (decide (r5.1<0)))
instance(p0:List Int):ConB (Fk p0) prog 323 (fun K vs=>∃ E0 G0,vs=[.slice E0 p0.length G0]/\Has K E0 p0.length G0 1 Ep p0/\True) (fun K r=>fun v Ln=>∃ A0 c0 e,v = .slice A0 r.length c0/\Ln=[e]/\Has (K++[e]) A0 r.length c0 1 Ep r/\True):=⟨by
 rintro K _ r ⟨E0,G0,rfl,ha0,-⟩ hx w hK;unfold Fk at hx;refine CtS ntmps323 results323 ?_;try (refine pre ?_;intros;rename_i hx)
 refine Bh ?_;try (refine pre ?_;intros;rename_i hx)
 apply JrG (γ:=Option Addr × Nat) hx [] (fun s2 y2 f=>(0,.slice y2.1 s2.length y2.2)::f) [999] (fun s2 y2 l=>l) (fun s2 y2=>Has K y2.1 s2.length y2.2 1 Ep s2/\True);exact kk
 ·intro s2 y2 hx hG;obtain⟨_,-⟩:=hG;exact au
 ·intro _ hx;try (refine pre ?_;intros;rename_i hx)
  apply LrG (γ:=Option Addr × Nat) hx [] (fun s0 y0 f=>(0,.slice y0.1 s0.length y0.2)::f) [999] (fun s0 y0 l=>l) (fun s0 y0=>Has K y0.1 s0.length y0.2 1 Ep s0/\True) (_,_);exact kk;exact sF2;exact gG;exact pK2;intro s0 y0 x0 hx _ hG;obtain⟨_,-⟩:=hG;unfold Rh at hx;exact au⟩
instance(p0:Int):ConB (Uj p0) prog 311 (fun _ vs=>vs=[.int .u64 p0]) (fun K r=>fun v Ln=>∃ A0 c0 e,v = .slice A0 r.length c0/\Ln=[e]/\Has (K++[e]) A0 r.length c0 1 Ep r/\True):=⟨by
 rintro K _ r rfl hx w hK;unfold Uj at hx;refine CtS ntmps311 results311 ?_;exact au⟩
instance(p0:Int)(p1:Int)(p2:Int):Con (Ml p0 p1 p2) prog 324 (fun _ vs=>vs=[.int .u32 p0,.int .u32 p1,.int .u32 p2]) (fun _ r=>fun v Ln=>v = .tuple #[.int .u32 r.1,.int .u32 r.2]/\Ln=[]/\True):=⟨by
 rintro _ _ r rfl hx w hK;unfold Ml at hx;refine CtS ntmps324 results324 ?_;exact au⟩
instance(p0:Int)(p1:Int)(p2:Int):Con (Mm p0 p1 p2) prog 325 (fun _ vs=>vs=[.int .u32 p0,.int .u32 p1,.int .u32 p2]) (fun _ r=>fun v Ln=>v = .tuple #[.int .u32 r.1,.int .u32 r.2]/\Ln=[]/\True):=⟨by
 rintro _ _ r rfl hx w hK;unfold Mm at hx;refine CtS ntmps325 results325 ?_;exact au⟩
instance(p0:List Int)(p1:List Int):ConB (Ed p0 p1) prog 312 (fun K vs=>∃ E0 G0 E1 G1,vs=[.slice E0 p0.length G0,.slice E1 p1.length G1]/\Has K E0 p0.length G0 1 Ep p0/\Has K E1 p1.length G1 1 Ep p1/\True) (fun K r=>fun v Ln=>∃ A0 c0 e,v = .slice A0 r.length c0/\Ln=[e]/\Has (K++[e]) A0 r.length c0 1 Ep r/\True):=⟨by
 rintro K _ r ⟨E0,G0,E1,G1,rfl,ha0,ha1,-⟩ hx w hK;unfold Ed at hx;refine CtS ntmps312 results312 ?_;try (refine pre ?_;intros;rename_i hx)
 apply Jr (γ:=Option Addr × Nat) hx [] (fun s3 y3 f=>(5,.slice y3.1 s3.length y3.2)::f) [999] (fun s3 y3 l=>.r y3.1 s3.length y3.2 199 1 (s3.flatMap Ep)::l);exact kk
 ·intro s3 y3 hx;exact au
 ·intro _ hx;try (refine pre ?_;intros;rename_i hx)
  apply Lr (γ:=Option Addr × Nat) hx [1,18,19] (fun s0 y0 f=>(5,.slice y0.1 s0.1.length y0.2)::(20,.int .i64 s0.2)::f) [999] (fun s0 y0 l=>.r y0.1 s0.1.length y0.2 199 1 (s0.1.flatMap Ep)::l) (_,_);exact kk;exact sk;intro s0 y0 x0 hx _;unfold Kt at hx;try (refine pre ?_;intros;rename_i hx)
  refine Cq1 (s:=21) hx rfl (fun _ hx=>?_) (fun _ hx=>?_)
  ·try (refine pre ?_;intros;rename_i hx)
   refine Bh ?_;try (refine pre ?_;intros;rename_i hx)
   apply Jr (γ:=Option Addr × Nat) hx [1,6,18,19,20] (fun s1 y1 f=>(5,.slice y1.1 s1.1.length y1.2)::(8,.int .u64 s1.2)::f) [999] (fun s1 y1 l=>.r y1.1 s1.1.length y1.2 199 1 (s1.1.flatMap Ep)::l);exact kk
   ·intro s1 y1 hx;exact au
   ·intro _ hx;try (refine pre ?_;intros;rename_i hx)
    apply Lr (γ:=Option Addr × Nat) hx [1,6,7,18,19,20,25,26] (fun s2 y2 f=>(5,.slice y2.1 s2.1.length y2.2)::(8,.int .u64 s2.2.1)::(27,.int .i64 s2.2.2)::f) [999] (fun s2 y2 l=>.r y2.1 s2.1.length y2.2 199 1 (s2.1.flatMap Ep)::l) (_,_);exact kk;exact sk;intro s2 y2 x1 hx _;unfold Ks at hx;exact au
  ·exact au⟩
instance(p0:List Int)(p1:List Int):Con (Tl p0 p1) prog 314 (fun K vs=>∃ E0 G0 E1 G1,vs=[.slice E0 p0.length G0,.slice E1 p1.length G1]/\Has K E0 p0.length G0 1 Ep p0/\Has K E1 p1.length G1 1 Ep p1/\True) (fun _ r=>fun v Ln=>v = .int .i64 r/\Ln=[]/\True):=⟨by
 rintro K _ r ⟨E0,G0,E1,G1,rfl,ha0,ha1,-⟩ hx w hK;replace ha0:=Has.lo ha0 hK;replace ha1:=Has.lo ha1 hK;unfold Tl at hx;have:=dl 8 [0,0,0,1,0,0,0,1,0] [0,1,2,3,4,5,6,7,8];have:=dl 9 [0,0,0,1,0,0,0,1,0] [0,1,2,3,4,5,6,7,8];refine CtS ntmps314 results314 ?_;try (refine pre ?_;intros;rename_i hx)
 refine Cq2 (s:=10) hx rfl (fun _ hx=>?_) (fun _ hx=>?_)
 ·exact au
 ·try (refine pre ?_;intros;rename_i hx)
  apply Jr (γ:=Unit) hx [] (fun s8 y8 f=>f) [999] (fun s8 y8 l=>l);exact kk
  ·intro s8 y8 hx;exact au
  ·intro _ hx;try (refine pre ?_;intros;rename_i hx)
   apply Lr (γ:=Unit) hx [0,1] (fun s61 y61 f=>(5,.int .i64 s61)::f) [999] (fun s61 y61 l=>l) ();exact kk;exact sk;intro s61 y61 x61 hx _;unfold So at hx;exact au⟩
instance(p0:List Int)(p1:List Int):ConB (Qs p0 p1) prog 313 (fun K vs=>∃ E0 G0 E1 G1,vs=[.slice E0 p0.length G0,.slice E1 p1.length G1]/\Has K E0 p0.length G0 1 Ep p0/\Has K E1 p1.length G1 1 Ep p1/\True) (fun K r=>fun v Ln=>∃ A0 c0 e,v = .slice A0 r.length c0/\Ln=[e]/\Has (K++[e]) A0 r.length c0 1 Ep r/\True):=⟨by
 rintro K _ r ⟨E0,G0,E1,G1,rfl,ha0,ha1,-⟩ hx w hK;unfold Qs at hx;refine CtS ntmps313 results313 ?_;try (refine pre ?_;intros;rename_i hx)
 refine Bh ?_;try (refine pre ?_;intros;rename_i hx)
 apply JrG (γ:=Option Addr × Nat × Option Addr × Nat) hx [] (fun s2 y2 f=>(0,.slice y2.1 s2.1.length y2.2.1)::(1,.slice y2.2.2.1 s2.2.length y2.2.2.2)::f) [999] (fun s2 y2 l=>l) (fun s2 y2=>Has K y2.1 s2.1.length y2.2.1 1 Ep s2.1/\Has K y2.2.2.1 s2.2.length y2.2.2.2 1 Ep s2.2/\True);exact kk
 ·intro s2 y2 hx hG;obtain⟨_,_,-⟩:=hG;try (refine pre ?_;intros;rename_i hx)
  refine Bh ?_;try (refine pre ?_;intros;rename_i hx)
  apply Jr (γ:=Option Addr × Nat) hx [0] (fun s6 y6 f=>(5,.slice y6.1 s6.1.length y6.2)::(6,.int .u32 s6.2)::f) [999] (fun s6 y6 l=>.r y6.1 s6.1.length y6.2 199 1 (s6.1.flatMap Ep)::l);exact kk
  ·intro s6 y6 hx;exact au
  ·intro _ hx;try (refine pre ?_;intros;rename_i hx)
   apply Lr (γ:=Option Addr × Nat) hx [0,1,21] (fun s0 y0 f=>(5,.slice y0.1 s0.1.length y0.2)::(6,.int .u32 s0.2.1)::(22,.int .i64 s0.2.2)::f) [999] (fun s0 y0 l=>.r y0.1 s0.1.length y0.2 199 1 (s0.1.flatMap Ep)::l) (_,_);exact kk;exact sk;intro s0 y0 x0 hx _;unfold Ku at hx;exact au
 ·intro _ hx;exact au⟩
instance(p0:List Int)(p1:List Int):ConB (Nt p0 p1) prog 315 (fun K vs=>∃ E0 G0 E1 G1,vs=[.slice E0 p0.length G0,.slice E1 p1.length G1]/\Has K E0 p0.length G0 1 Ep p0/\Has K E1 p1.length G1 1 Ep p1/\True) (fun K r=>fun v Ln=>∃ A0 c0 e,v = .slice A0 r.length c0/\Ln=[e]/\Has (K++[e]) A0 r.length c0 1 Ep r/\True):=⟨by
 rintro K _ r ⟨E0,G0,E1,G1,rfl,ha0,ha1,-⟩ hx w hK;unfold Nt at hx;refine CtS ntmps315 results315 ?_;try (refine pre ?_;intros;rename_i hx)
 refine Bh ?_;try (refine pre ?_;intros;rename_i hx)
 apply Jr (γ:=Option Addr × Nat) hx [] (fun s4 y4 f=>(5,.slice y4.1 s4.length y4.2)::f) [999] (fun s4 y4 l=>.r y4.1 s4.length y4.2 199 1 (s4.flatMap Ep)::l);exact kk
 ·intro s4 y4 hx;exact au
 ·intro _ hx;try (refine pre ?_;intros;rename_i hx)
  apply Lr (γ:=Option Addr × Nat) hx [0,1,13] (fun s0 y0 f=>(5,.slice y0.1 s0.1.length y0.2)::(6,.int .u32 s0.2.1)::(14,.int .i64 s0.2.2)::f) [999] (fun s0 y0 l=>.r y0.1 s0.1.length y0.2 199 1 (s0.1.flatMap Ep)::l) (_,_);exact kk;exact sk;intro s0 y0 x0 hx _;unfold Oz at hx;exact au⟩
instance(p0:By)(p1:By):ConB (Kd p0 p1) prog 288 (fun K vs=>∃ E0 G0 E1 G1 E2 G2 E3 G3,vs=[.agg #[.bool p0.neg,.slice E0 p0.n.length G0,.slice E1 p0.d.length G1],.agg #[.bool p1.neg,.slice E2 p1.n.length G2,.slice E3 p1.d.length G3]]/\Has K E0 p0.n.length G0 1 Ep p0.n/\Has K E1 p0.d.length G1 1 Ep p0.d/\Has K E2 p1.n.length G2 1 Ep p1.n/\Has K E3 p1.d.length G3 1 Ep p1.d/\True) (fun K r=>fun v Ln=>∃ A0 c0 A2 c2 e,v = .agg #[.bool r.neg,.slice A0 r.n.length c0,.slice A2 r.d.length c2]/\Ln=[e]/\Has (K++[e]) A0 r.n.length c0 1 Ep r.n/\Has (K++[e]) A2 r.d.length c2 1 Ep r.d/\True):=⟨by
 rintro K _ r ⟨E0,G0,E1,G1,E2,G2,E3,G3,rfl,ha0,ha1,ha2,ha3,-⟩ hx w hK;unfold Kd at hx;have:=dl 1 [0,1,0,1,0,0,1,0,1,2,0,1,0,1,2,0,3] [0,1,2,3,4,5,6,7,8,10,11,12,13,9,14,15,16];refine CtS ntmps288 results288 ?_;exact au⟩
instance(p0:By)(p1:By):ConB (Qt p0 p1) prog 289 (fun K vs=>∃ E0 G0 E1 G1 E2 G2 E3 G3,vs=[.agg #[.bool p0.neg,.slice E0 p0.n.length G0,.slice E1 p0.d.length G1],.agg #[.bool p1.neg,.slice E2 p1.n.length G2,.slice E3 p1.d.length G3]]/\Has K E0 p0.n.length G0 1 Ep p0.n/\Has K E1 p0.d.length G1 1 Ep p0.d/\Has K E2 p1.n.length G2 1 Ep p1.n/\Has K E3 p1.d.length G3 1 Ep p1.d/\True) (fun K r=>fun v Ln=>∃ A0 c0 A2 c2 e,v = .agg #[.bool r.neg,.slice A0 r.n.length c0,.slice A2 r.d.length c2]/\Ln=[e]/\Has (K++[e]) A0 r.n.length c0 1 Ep r.n/\Has (K++[e]) A2 r.d.length c2 1 Ep r.d/\True):=⟨by
 rintro K _ r ⟨E0,G0,E1,G1,E2,G2,E3,G3,rfl,ha0,ha1,ha2,ha3,-⟩ hx w hK;unfold Qt at hx;have:=dl 1 [0,1,0,1,2,0,1,0,1,2,2,2] [0,1,2,3,5,6,7,8,4,9,10,11];have:=dl 4 [0,1,0,0,2,0,0,3] [0,1,2,3,5,4,6,7];have:=dl 6 [0,1,0,0,2,0,0,3] [0,1,2,3,5,4,6,7];have:=dl 7 [0,1,0,0,2,0,0,3] [0,1,2,3,5,4,6,7];refine CtS ntmps289 results289 ?_;try (refine pre ?_;intros;rename_i hx)
 refine Cq3 (s:=27) hx rfl (fun _ hx=>?_) (fun _ hx=>?_)
 ·exact au
 ·exact au⟩
instance(p0:By):Con (Pb p0) prog 290 (fun K vs=>∃ E0 G0 E1 G1,vs=[.agg #[.bool p0.neg,.slice E0 p0.n.length G0,.slice E1 p0.d.length G1]]/\Has K E0 p0.n.length G0 1 Ep p0.n/\Has K E1 p0.d.length G1 1 Ep p0.d/\True) (fun _ r=>fun v Ln=>v = .int .i64 r/\Ln=[]/\True):=⟨by
 rintro K _ r ⟨E0,G0,E1,G1,rfl,ha0,ha1,-⟩ hx w hK;replace ha0:=Has.lo ha0 hK;replace ha1:=Has.lo ha1 hK;unfold Pb at hx;refine CtS ntmps290 results290 ?_;exact au⟩
instance(p0:Int):ConB (Mn p0) prog 286 (fun _ vs=>vs=[.int .i64 p0]) (fun K r=>fun v Ln=>∃ A0 c0 A2 c2 e,v = .agg #[.bool r.neg,.slice A0 r.n.length c0,.slice A2 r.d.length c2]/\Ln=[e]/\Has (K++[e]) A0 r.n.length c0 1 Ep r.n/\Has (K++[e]) A2 r.d.length c2 1 Ep r.d/\True):=⟨by
 rintro K _ r rfl hx w hK;unfold Mn at hx;refine CtS ntmps286 results286 ?_;exact au⟩
instance(p0:List Ac):Con (Sp p0) prog 267 (fun K vs=>∃ E0 G0,vs=[.slice E0 p0.length G0]/\Has K E0 p0.length G0 2 Ne p0/\True) (fun _ r=>fun v Ln=>v = .bool r/\Ln=[]/\True):=⟨by
 rintro K _ r ⟨E0,G0,rfl,ha0,-⟩ hx w hK;replace ha0:=Has.lo ha0 hK;unfold Sp at hx;refine CtS ntmps267 results267 ?_;try (refine pre ?_;intros;rename_i hx)
 refine Bh ?_;try (refine pre ?_;intros;rename_i hx)
 apply Jr (γ:=Unit) hx [] (fun s2 y2 f=>f) [999] (fun s2 y2 l=>l);exact kk
 ·intro s2 y2 hx;exact au
 ·intro _ hx;try (refine pre ?_;intros;rename_i hx)
  apply Lr (γ:=Unit) hx [5,6] (fun s0 y0 f=>(7,.int .i64 s0)::f) [999] (fun s0 y0 l=>l) ();exact kk;exact sk;intro s0 y0 x0 hx _;unfold Mo at hx;try (refine pre ?_;intros;rename_i hx)
  refine Cq1 (s:=8) hx rfl (fun _ hx=>?_) (fun _ hx=>?_)
  ·try (refine pre ?_;intros;rename_i hx)
   apply Jr (γ:=Unit) hx [5,6,7] (fun s1 y1 f=>(28,.bool s1)::f) [999] (fun s1 y1 l=>l);exact kk
   ·intro s1 y1 hx;exact au
   ·intro _ hx;exact au
  ·exact au⟩
instance(p0:Int):Con (Mq p0) prog 268 (fun _ vs=>vs=[.int .i64 p0]) (fun _ r=>fun v Ln=>v = .int .i64 r/\Ln=[]/\True):=⟨by
 rintro _ _ r rfl hx w hK;unfold Mq at hx;refine CtS ntmps268 results268 ?_;exact au⟩
instance(p0:Ac)(p1:Ac)(p2:Ac):Con (Ni p0 p1 p2) prog 269 (fun _ vs=>vs=[.agg #[.int .i64 p0.X,.int .i64 p0.Y],.agg #[.int .i64 p1.X,.int .i64 p1.Y],.agg #[.int .i64 p2.X,.int .i64 p2.Y]]) (fun _ r=>fun v Ln=>v = .int .i64 r/\Ln=[]/\True):=⟨by
 rintro _ _ r rfl hx w hK;unfold Ni at hx;refine CtS ntmps269 results269 ?_;exact au⟩
instance(p0:Ac)(p1:Ac)(p2:Ac):Con (Vt p0 p1 p2) prog 230 (fun _ vs=>vs=[.agg #[.int .i64 p0.X,.int .i64 p0.Y],.agg #[.int .i64 p1.X,.int .i64 p1.Y],.agg #[.int .i64 p2.X,.int .i64 p2.Y]]) (fun _ r=>fun v Ln=>v = .tuple #[.int .i64 r.1,.int .i64 r.2]/\Ln=[]/\True):=⟨by
 rintro _ _ r rfl hx w hK;unfold Vt at hx;refine CtS ntmps230 results230 ?_;exact au⟩
instance(p0:Ac)(p1:Ac):Con (Tz p0 p1) prog 287 (fun _ vs=>vs=[.agg #[.int .i64 p0.X,.int .i64 p0.Y],.agg #[.int .i64 p1.X,.int .i64 p1.Y]]) (fun _ r=>fun v Ln=>v = .int .i64 r/\Ln=[]/\True):=⟨by
 rintro _ _ r rfl hx w hK;unfold Tz at hx;have:=dl 1 [0,1,0,1,0,0,1,0,1,0,2,2] [0,1,2,3,4,5,6,7,8,9,10,11];refine CtS ntmps287 results287 ?_;exact au⟩
instance(p0:Ac)(p1:Ac)(p2:Ac)(p3:Ac):Con (Ve p0 p1 p2 p3) prog 236 (fun _ vs=>vs=[.agg #[.int .i64 p0.X,.int .i64 p0.Y],.agg #[.int .i64 p1.X,.int .i64 p1.Y],.agg #[.int .i64 p2.X,.int .i64 p2.Y],.agg #[.int .i64 p3.X,.int .i64 p3.Y]]) (fun _ r=>fun v Ln=>v = .tuple #[.int .i64 r.1,.int .i64 r.2]/\Ln=[]/\True):=⟨by
 rintro _ _ r rfl hx w hK;unfold Ve at hx;have:=dl 6 [1,1,2,2,1,1,1,2,2,2,4,3] [0,1,4,5,6,2,3,7,8,9,10,11] [10];have:=dl 7 [1,1,1,2,2,1,1,1,2,2,2,2,3] [0,1,2,5,6,7,3,4,8,9,10,11,12];have:=dl 8 [1,1,1,2,2,1,1,1,2,2,2,2,3] [0,1,2,5,6,7,3,4,8,9,10,11,12];refine CtS ntmps236 results236 ?_;try (refine pre ?_;intros;rename_i hx)
 refine Cq4 (s:=18) hx rfl (fun _ hx=>?_) (fun _ hx=>?_)
 ·exact au
 ·try (refine pre ?_;intros;rename_i hx)
  refine Cq1 (s:=25) hx rfl (fun _ hx=>?_) (fun _ hx=>?_)
  ·exact au
  ·exact au⟩
instance(p0:Aw):Con (Yy p0) prog 231 (fun _ vs=>vs=[.agg #[.int .i64 p0.Lo,.int .i64 p0.Hi]]) (fun _ r=>fun v Ln=>v = .bool r/\Ln=[]/\True):=⟨by
 rintro _ _ r rfl hx w hK;unfold Yy at hx;refine CtS ntmps231 results231 ?_;exact au⟩
instance Au8(p0:Ad):Con (Oa p0) prog 172 (fun _ vs=>vs=[.agg #[.int .i64 p0.X,.int .i64 p0.Y,.int .i64 p0.Z.Lo,.int .i64 p0.Z.Hi]]) (fun _ r=>fun v Ln=>v = .agg #[.int .i64 r.X,.int .i64 r.Y]/\Ln=[]/\True):=⟨by
 rintro _ _ r rfl hx w hK;unfold Oa at hx;refine CtS ntmps172 results172 ?_;exact au⟩
theorem Abf(p0:Ad){r:Ac}(hx:Oa p0=some r)(w:World):CtL prog 172 [.agg #[.int .i64 p0.X,.int .i64 p0.Y,.int .i64 p0.Z.Lo,.int .i64 p0.Z.Hi]] w fun v Ln=>v = .agg #[.int .i64 r.X,.int .i64 r.Y]/\Ln=[]/\True:=(Au8 p0).h [] _ _ rfl hx w (fun _ h=>absurd h not_mem_nil)
instance Ak3(p0:Ac)(p1:Ac):Con (Ke p0 p1) prog 184 (fun _ vs=>vs=[.agg #[.int .i64 p0.X,.int .i64 p0.Y],.agg #[.int .i64 p1.X,.int .i64 p1.Y]]) (fun _ r=>fun v Ln=>v = .bool r/\Ln=[]/\True):=⟨by
 rintro _ _ r rfl hx w hK;unfold Ke at hx;refine CtS ntmps184 results184 ?_;exact au⟩
theorem Acu(p0:Ac)(p1:Ac){r:Bool}(hx:Ke p0 p1=some r)(w:World):CtL prog 184 [.agg #[.int .i64 p0.X,.int .i64 p0.Y],.agg #[.int .i64 p1.X,.int .i64 p1.Y]] w fun v Ln=>v = .bool r/\Ln=[]/\True:=(Ak3 p0 p1).h [] _ _ rfl hx w (fun _ h=>absurd h not_mem_nil)
instance(p0:Ac)(p1:Ac)(p2:Ac):Con (Sq p0 p1 p2) prog 178 (fun _ vs=>vs=[.agg #[.int .i64 p0.X,.int .i64 p0.Y],.agg #[.int .i64 p1.X,.int .i64 p1.Y],.agg #[.int .i64 p2.X,.int .i64 p2.Y]]) (fun _ r=>fun v Ln=>v = .int .i64 r/\Ln=[]/\True):=⟨by
 rintro _ _ r rfl hx w hK;unfold Sq at hx;refine CtS ntmps178 results178 ?_;exact au⟩
instance(p0:Ad):Con (Aah p0) prog 171 (fun _ vs=>vs=[.agg #[.int .i64 p0.X,.int .i64 p0.Y,.int .i64 p0.Z.Lo,.int .i64 p0.Z.Hi]]) (fun _ r=>fun v Ln=>v = .bool r/\Ln=[]/\True):=⟨by
 rintro _ _ r rfl hx w hK;unfold Aah at hx;have:=dl 1 [1,2,1,2,1,2,2,0,0,0,2,2] [0,2,4,1,3,5,6,7,8,9,10,11];refine CtS ntmps171 results171 ?_;exact au⟩
instance Aps(p0:Int)(p1:Int):Con (Qu p0 p1) prog 173 (fun _ vs=>vs=[.int .i64 p0,.int .i64 p1]) (fun _ r=>fun v Ln=>v = .agg #[.int .i64 r.a0,.int .i64 r.a1]/\Ln=[]/\True):=⟨by
 rintro _ _ r rfl hx w hK;unfold Qu at hx;refine CtS ntmps173 results173 ?_;exact au⟩
theorem Anr(p0:Int)(p1:Int){r:Ab}(hx:Qu p0 p1=some r)(w:World):CtL prog 173 [.int .i64 p0,.int .i64 p1] w fun v Ln=>v = .agg #[.int .i64 r.a0,.int .i64 r.a1]/\Ln=[]/\True:=(Aps p0 p1).h [] _ _ rfl hx w (fun _ h=>absurd h not_mem_nil)
instance Ant(p0:Ab)(p1:Ab):Con (Yi p0 p1) prog 177 (fun _ vs=>vs=[.agg #[.int .i64 p0.a0,.int .i64 p0.a1],.agg #[.int .i64 p1.a0,.int .i64 p1.a1]]) (fun _ r=>fun v Ln=>v = .int .i64 r/\Ln=[]/\True):=⟨by
 rintro _ _ r rfl hx w hK;unfold Yi at hx;refine CtS ntmps177 results177 ?_;exact au⟩
theorem Zj(p0:Ab)(p1:Ab){r:Int}(hx:Yi p0 p1=some r)(w:World):CtL prog 177 [.agg #[.int .i64 p0.a0,.int .i64 p0.a1],.agg #[.int .i64 p1.a0,.int .i64 p1.a1]] w fun v Ln=>v = .int .i64 r/\Ln=[]/\True:=(Ant p0 p1).h [] _ _ rfl hx w (fun _ h=>absurd h not_mem_nil)
instance(p0:Ac)(p1:Ac)(p2:Ac)(p3:Ac):Con (Vu p0 p1 p2 p3) prog 187 (fun _ vs=>vs=[.agg #[.int .i64 p0.X,.int .i64 p0.Y],.agg #[.int .i64 p1.X,.int .i64 p1.Y],.agg #[.int .i64 p2.X,.int .i64 p2.Y],.agg #[.int .i64 p3.X,.int .i64 p3.Y]]) (fun _ r=>fun v Ln=>v = .bool r/\Ln=[]/\True):=⟨by
 rintro _ _ r rfl hx w hK;unfold Vu at hx;refine CtS ntmps187 results187 ?_;try (refine pre ?_;intros;rename_i hx)
 refine Cq2 (s:=23) hx rfl (fun _ hx=>?_) (fun _ hx=>?_)
 ·exact au
 ·try (refine pre ?_;intros;rename_i hx)
  refine Bh ?_;try (refine pre ?_;intros;rename_i hx)
  apply Jr (γ:=Nat) hx [6,7] (fun s7 y7 f=>(11,.pointer (some ⟨y7,0,none⟩))::f) [1,2,999] (fun s7 y7 l=>.m y7 57 [.int .i64 s7.1,.int .i64 s7.2]::l);exact kk
  ·intro s7 y7 hx;exact au
  ·intro _ hx;try (refine pre ?_;intros;rename_i hx)
   apply Lr (γ:=Nat) hx [6,7,30] (fun s0 y0 f=>(11,.pointer (some ⟨y0,0,none⟩))::(31,.int .i64 s0.2.2)::f) [1,2,999] (fun s0 y0 l=>.m y0 57 [.int .i64 s0.1,.int .i64 s0.2.1]::l) _;exact kk;exact sk;intro s0 y0 x0 hx _;unfold Zi at hx;exact au⟩
theorem Ri{j:Nat}(h:j<=9223372036854775807):w64 (j:Int)=(j:Int):=Av oo oo
theorem Az{j:Nat}(h:j<9223372036854775807):w64 ((j:Int)+1)=((j+1:Nat):Int):=by rw[Av oo oo];omega
theorem Ae{α ρ:Type}{x:α}{k:α->Option ρ}:bnd (some x) k=k x:=rfl
theorem gd_t{ρ:Type}{p:Prop}[Decidable p]{k:Option ρ}(h:p):gd p k=k:=by unfold gd;rw[if_pos h]
theorem jn_d{τ ρ:Type}{k:τ->Option ρ}{x:(τ->Option ρ)->Option ρ}:jn k x=x k:=rfl
theorem Yj{α β γ:Type}(l:List α)(p:α->Bool)(B:Int->Option (Sum Int (Sum β γ)))(u:β)(v:γ)(h1:∀ (j:Nat) (h:j<l.length),B j=if p l[j]=true then some (.inl ((j+1:Nat):Int)) else some (.inr (.inr v)))(h2:B l.length=some (.inr (.inl u))):
  lfix B 0=some (if l.all p=true then .inl u else .inr v):=by
 have key:∀ (m k:Nat),k<=l.length->l.length-k=m->lfix B k=some (if (l.drop k).all p=true then .inl u else .inr v):=by
  intro m
  induction m with
  | zero=>
   intro k hk hm;obtain rfl:k=l.length:=oo;rw[Ba,h2];simp
  | succ m ih=>
   intro k hk hm;have hlt:k<l.length:=oo;rw[Ba,h1 k hlt,drop_eq_getElem_cons hlt,all_cons]
   by_cases hp:p l[k]=true
   ·rw[if_pos hp,hp,Bool.true_and];exact ih (k+1) oo oo
   ·rw[if_neg hp];simp[hp]
 exact key l.length 0 (Nat.zero_le _) rfl
def nI(l:List Nat):List Int:=l.map (fun x:Nat=>(x:Int))
def L32(m:Nat):List Int:=nI (dig 4294967296 m)
theorem Cj{l:List Nat}:(nI l).length=l.length:=by simp[nI]
theorem Du{l:List Nat}{j:Nat}(h:j<l.length):idx (nI l) (j:Int)=some ((l[j]:Nat):Int):=by
 rw[As (by rw[Cj];exact h)];simp[nI]
theorem Aai(n:Nat):(List.replicate n (0:Int))=nI (List.replicate n 0):=by simp[nI]
theorem Xg{l:List Nat}{j v:Nat}:setI (nI l) (j:Int) (v:Int)=nI (l.set j v):=by rw[Mv];simp[nI,map_set]
theorem Ay0{n:Nat}(h:n<4294967296):wu32 (n:Int)=n:=Ajg .u32 n (by simp only[top];omega)
theorem Yk{n:Nat}(h:n<18446744073709551616):wu64 (n:Int)=n:=Ajg .u64 n (by simp only[top];omega)
theorem Af4(l:List Nat)(h9:l.length<=1000000):Fk (nI l)=some (nI (nrm l)):=by
 obtain⟨t,ht,hR⟩:=Be (B:=Rh) (fun s=>s.length)
  (fun s=>∃ k:Nat,k<=l.length/\s=nI (l.take k)/\∀ (j:Nat) (h:j<l.length),k<=j->l[j]=0)
  (fun t=>t=nI (nrm l)) (by
   rintro s ⟨k,hk,rfl,hz⟩;have hlen:(l.take k).length=k:=by rw[length_take];omega
   unfold Rh;simp only[jn_d,Cj,hlen]
   by_cases h0:k=0
   ·right;subst h0;rw[if_neg oo,if_neg s_];refine⟨_,rfl,?_⟩;rw[Agn l (fun x hx=>by obtain⟨j,hj,rfl⟩:=getElem_of_mem hx;exact hz j hj oo)];rfl
   ·rw[if_pos oo]
    ·rw[Av oo oo,show ((k:Int)-1)=((k-1:Nat):Int) from by omega,Du oo,Ae];have e:(l.take k)[k-1]'oo=l[k-1]:=by rw[getElem_take]
     rw[e]
     by_cases hx:l[k-1]=0
     ·left;refine⟨nI (l.take (k-1)),?_,⟨k-1,oo,rfl,fun j h hj=>?_⟩,by simp only[Cj,length_take];omega⟩
      ·rw[if_pos (by rw[hx];rfl),gd_t ⟨oo,oo⟩];congr 2;simp only[subl,nI,Int.toNat_natCast,Int.toNat_zero,drop_zero,<- map_take,take_take];rw[show min (k-1) k=k-1 by omega]
      ·rcases Nat.lt_or_ge (k-1) j with hq | hq
       ·exact hz j h oo
       ·obtain rfl:j=k-1:=oo;exact hx
     ·right;rw[if_neg (by rw[decide_eq_true_eq];omega)];refine⟨_,rfl,?_⟩;have h1:=Axd l k hk hz (fun h0' h'=>hx)
      conv=>rhs;rw[Aon,h1])
  (nI l) ⟨l.length,oo,by rw[take_length],fun j h hj=>oo⟩
 unfold Fk;simp only[jn_d];rw[ht,Ae,hR]
theorem Af5(n:Nat):wu32 (n:Int)=((n % 4294967296:Nat):Int):=by
 show IntKind.u32.wrap (n:Int)=_;simp[IntKind.wrap,IntKind.bits,IntKind.signed]
theorem Ay1(n:Nat):shr_ .u64 (n:Int) 32=((n / 4294967296:Nat):Int):=by
 show (n:Int).fdiv (2 ^ (min (32:Int).toNat 64))=_;rw[show (2:Int) ^ (min (32:Int).toNat 64)=4294967296 from by decide,Int.fdiv_eq_ediv_of_nonneg _ oo];omega
theorem Ay2(l r:List Nat)(hl:∀ x∈l,x<4294967296)(hr:∀ x∈r,x<4294967296)(hb:l.length+r.length<=1000000):
  Ed (nI l) (nI r)=some (L32 (val 4294967296 l*val 4294967296 r)):=by
 have e:w64 ((((nI l).length:Nat):Int)+(((nI r).length:Nat):Int))=((l.length+r.length:Nat):Int):=by rw[Cj,Cj,Av oo oo];omega
 obtain⟨t,ht,out,rfl,hd,hlo⟩:=Be (B:=Kt (nI l) (nI r)) (fun s=>l.length-s.2.toNat)
  (fun s=>∃ (out:List Nat) (i:Nat),s=(nI out,(i:Int))/\out.length=l.length+r.length/\i<=l.length/\(∀ x∈out,x<4294967296)/\(∀ (q:Nat) (h:q<out.length),i+r.length<=q->out[q]=0)/\val 4294967296 out=val 4294967296 (l.take i)*val 4294967296 r)
  (fun t=>∃ out,t=nI out/\nrm out=dig 4294967296 (val 4294967296 l*val 4294967296 r)/\out.length<=1000000) (by
   rintro s ⟨out0,i,rfl,hC1,hC2,hC3,hC4,hC5⟩
   by_cases hi:i<l.length
   ·left;obtain⟨t,ht,out,cy,rfl,hD1,hD2,hD4,hD5,hD6⟩:=Be (B:=Ks (nI r) (nI out0,(i:Int)) (l[i]:Int)) (fun s=>r.length-s.2.2.toNat)
     (fun s=>∃ (out:List Nat) (cy j:Nat),s=(nI out,(cy:Int),(j:Int))/\out.length=l.length+r.length/\cy<4294967296/\j<=r.length/\(∀ x∈out,x<4294967296)/\(∀ (q:Nat) (h:q<out.length),i+r.length<=q->out[q]=0)/\val 4294967296 out+cy*4294967296 ^ (i+j)=val 4294967296 out0+l[i] * val 4294967296 (r.take j)*4294967296 ^ i)
     (fun t=>∃ (out:List Nat) (cy:Nat),t=(nI out,(cy:Int))/\out.length=l.length+r.length/\cy<4294967296/\(∀ x∈out,x<4294967296)/\(∀ (q:Nat) (h:q<out.length),i+r.length<=q->out[q]=0)/\val 4294967296 out+cy*4294967296 ^ (i+r.length)=val 4294967296 out0+l[i] * val 4294967296 (r.take r.length)*4294967296 ^ i) (by
      rintro s ⟨out,cy,j,rfl,hD1,hD2,hD3,hD4,hD5,hD6⟩
      by_cases hj:j<r.length
      ·left;have hk:i+j<out.length:=oo;have h1:=hl _ (getElem_mem hi);have h2:=hr _ (getElem_mem hj);have h3:=hD4 _ (getElem_mem hk);have hmm:=Aoo h1 h2;have e1:w64 ((i:Int)+(j:Int))=((i+j:Nat):Int):=by rw[Av oo oo];omega
       have e2:wu64 (wu64 (wu64 (wu64 (l[i]:Int)*wu64 (r[j]:Int))+wu64 (out[i+j]:Int))+(cy:Int))=((l[i] * r[j] + out[i+j] + cy:Nat):Int):=by
        rw[Yk (n:=l[i]) oo,Yk (n:=r[j]) oo,Yk (n:=out[i+j]) oo,<- Int.natCast_mul,Yk oo,<- Int.natCast_add,Yk oo,<- Int.natCast_add,Yk oo]
       have e4:wu32 ((l[i] * r[j] + out[i+j] + cy:Nat):Int)=(((l[i] * r[j] + out[i+j] + cy) % 4294967296:Nat):Int):=Af5 _;refine⟨(nI (out.set (i+j) ((l[i] * r[j] + out[i+j] + cy) % 4294967296)),(((l[i] * r[j] + out[i+j] + cy) / 4294967296:Nat):Int),((j+1:Nat):Int)),?_,⟨_,_,_,rfl,Aug hi hj rfl rfl h1 h2 hD1 hD2 hD3 hD4 hD5 hD6 hk⟩,by simp;omega⟩;unfold Ks;simp only[e1];rw[if_pos (by rw[Cj];omega),Du hj,Ae,Du hk,Ae,Ae,e2,e4,Ay1,Xg,Az oo]
      ·right;obtain rfl:j=r.length:=oo;refine⟨(nI out,(cy:Int)),?_,out,cy,rfl,hD1,hD2,hD4,hD5,hD6⟩;unfold Ks;simp only[];rw[if_neg (by rw[Cj];omega)])
     (nI out0,((0:Nat):Int),((0:Nat):Int)) ⟨out0,0,0,rfl,hC1,oo,oo,hC3,fun q hq hiq=>hC4 q hq oo,by simp[val]⟩
    have hk:i+r.length<out.length:=oo;refine⟨(nI (out.set (i+r.length) (cy % 4294967296)),((i+1:Nat):Int)),?_,⟨_,_,rfl,Auh hi rfl rfl hD1 hD2 hD4 hD5 hD6 hC5 rfl⟩,by simp;omega⟩;unfold Kt;simp only[jn_d];have ht':lfix (Ks (nI r) (nI out0,(i:Int)) (l[i]:Int)) (nI out0,0,0)=some (nI out,(cy:Int)):=ht;rw[if_pos (by rw[Cj];omega),Du hi,Ae,ht',Ae,Cj,show w64 ((i:Int)+(r.length:Int))=((i+r.length:Nat):Int) from by rw[Av oo oo];omega,Du hk,Ae];simp only[];rw[Ay0 hD2,Xg,Az oo,Nat.mod_eq_of_lt hD2]
   ·right;refine⟨nI out0,?_,out0,rfl,Axe (i:=i) oo rfl hC1 hC3 hC5,oo⟩;unfold Kt;simp only[];rw[if_neg (by rw[Cj];omega)])
  (nI (List.replicate (l.length+r.length) 0),((0:Nat):Int)) ⟨_,0,rfl,s_,oo,s_,s_,by simp[val,Zt]⟩
 unfold Ed;simp only[e,jn_d,Int.toNat_natCast,Aai];have ht':lfix (Kt (nI l) (nI r)) (nI (List.replicate (l.length+r.length) 0),0)=some (nI out):=ht;rw[gd_t ⟨oo,oo⟩,ht',Ae,Af4 _ oo,Ae,hd];rfl
theorem Bed(a b:Nat)(ha:(dig 4294967296 a).length<=1000000):Tl (L32 a) (L32 b)=some (cmpN a b):=by
 unfold Tl L32;rw[Cj,Cj]
 by_cases hlen:(dig 4294967296 a).length=(dig 4294967296 b).length
 ·obtain⟨t,ht,hR⟩:=Be (B:=So (nI (dig 4294967296 a)) (nI (dig 4294967296 b))) (fun s=>(s+1).toNat)
   (fun s=>∃ k:Nat,s=(k:Int)-1/\k<=(dig 4294967296 a).length/\∀ (j:Nat) (h:j<(dig 4294967296 a).length) (h':j<(dig 4294967296 b).length),k<=j->(dig 4294967296 a)[j]=(dig 4294967296 b)[j])
   (fun t=>(t = .inl ()/\cmpN a b=0)\/t = .inr (cmpN a b)) (by
    rintro s ⟨k,rfl,hk,heq⟩;unfold So
    by_cases h0:k=0
    ·right;subst h0;refine⟨_,by rw[if_neg oo],.inl ⟨rfl,Axg oo hlen (fun j h h'=>heq j h h' oo)⟩⟩
    ·have h1:k-1<(dig 4294967296 a).length:=oo;have h2:k-1<(dig 4294967296 b).length:=oo;have hat:=Axf (b:=4294967296) oo hlen h1 h2 (fun j h h' hj=>heq j h h' oo);rw[if_pos oo,show ((k:Int)-1)=((k-1:Nat):Int) from by omega,Du h1,Ae,Du h2,Ae]
     by_cases he:(dig 4294967296 a)[k-1]=(dig 4294967296 b)[k-1]
     ·left;refine⟨((k-1:Nat):Int)-1,by rw[if_pos (by rw[he]),Av oo oo],⟨k-1,rfl,oo,fun j h h' hj=>?_⟩,oo⟩;rcases Nat.lt_or_ge (k-1) j with hq | hq
      ·exact heq j h h' oo
      ·obtain rfl:j=k-1:=oo;exact he
     ·right;rw[if_neg oo,Ae,Ae]
      by_cases hlt:(dig 4294967296 a)[k-1]<(dig 4294967296 b)[k-1]
      ·exact⟨_,by rw[if_pos oo],.inr (by rw[hat.1 hlt])⟩
      ·exact⟨_,by rw[if_neg oo],.inr (by rw[hat.2 oo])⟩)
   (((dig 4294967296 a).length:Int)-1) ⟨_,rfl,Nat.le_refl _,fun j h h' hj=>oo⟩
  rw[if_pos oo,jn_d,Av oo oo,ht,Ae];rcases hR with⟨rfl,h0⟩ | rfl
  ·simp only[h0]
  ·rfl
 ·rw[if_neg oo]
  by_cases hlt:(dig 4294967296 a).length<(dig 4294967296 b).length
  ·rw[if_pos oo,(Aia (b:=4294967296) oo rfl rfl).1 hlt]
  ·rw[if_neg oo,(Aia (b:=4294967296) oo rfl rfl).2 oo]
theorem oneW:([1]:List Int)=L32 1:=by unfold L32;rw[Ah9 oo];rfl
theorem Bbi{a:Nat}:(L32 a).length=0↔a=0:=by
 unfold L32;rw[Cj,length_eq_zero_iff,Xc oo]
theorem norm_L(a:Nat)(h:(dig 4294967296 a).length<=1000000):Fk (L32 a)=some (L32 a):=by
 unfold L32;rw[Af4 _ h,Baj oo]
theorem Arj(a:Nat)(h:(dig 4294967296 a).length<=1000):Ed (L32 a) [1]=some (L32 a):=by
 have:=Ay2 (dig 4294967296 a) [1] (Od oo a) s_ (by simp;omega);rw[De oo,show val 4294967296 [1]=1 from by simp[val],Nat.mul_one] at this;exact this
theorem Atn:Ed [1] [1]=some [1]:=by
 have:=Arj 1 (by rw[Ah9 oo];simp)
 rwa [<- oneW] at this
theorem Uk{b:Nat}(l:List Nat)(i:Nat):val b (l.take (i+1))=val b (l.take i)+b ^ i*l.getD i 0:=by
 by_cases h:i<l.length
 ·rw[Ta l i h];simp[h]
 ·rw[take_of_length_le oo,take_of_length_le oo];simp[h]
theorem Add{l:List Nat}(hl:∀ x∈l,x<65536)(i:Nat):l.getD i 0<65536:=by
 by_cases h:i<l.length
 ·have:=hl _ (getElem_mem h);simpa[h] using this
 ·simp[h]
theorem Xh{l:List Nat}{i:Nat}(h:i<l.length):l.getD i 0=l[i]:=by simp[h]
theorem Sf{l:List Nat}{i:Nat}(h:¬ i<l.length):l.getD i 0=0:=by simp[h]
theorem Aaj{b:Nat}(hb:0<b){l:List Nat}(hl:∀ x∈l,x<b)(i:Nat):l.getD i 0<b:=by
 by_cases h:i<l.length
 ·have:=hl _ (getElem_mem h);simpa[h] using this
 ·simp[h,hb]
theorem Ay3(v:BitVec 32):IntKind.u32.wrap (v.toNat:Int)=(v.toNat:Int):=Ajg .u32 v.toNat (by simp only[top];omega)
theorem Ay4(a b:Int):Ds .u32 a b=((BitVec.ofInt 32 a &&& BitVec.ofInt 32 b).toNat:Int):=Ay3 _
theorem Bfg(a b:Int):Wq .u32 a b=((BitVec.ofInt 32 a ||| BitVec.ofInt 32 b).toNat:Int):=Ay3 _
theorem Ark(a b:Int):Ac5 .u32 a b=((BitVec.ofInt 32 a ^^^ BitVec.ofInt 32 b).toNat:Int):=Ay3 _
theorem Bfh(v:BitVec 32):BitVec.ofInt 32 (v.toNat:Int)=v:=by
 rw[BitVec.ofInt_natCast,BitVec.ofNat_toNat,BitVec.setWidth_eq]
theorem Bee:BitVec.ofInt 32 (if IntKind.signed .u32=true then -1 else IntKind.max .u32)=BitVec.allOnes 32:=dD
theorem Ay5(x:Int):wu32 x=x % 4294967296:=by
 show IntKind.u32.wrap x=_;simp[IntKind.wrap,IntKind.bits,IntKind.signed]
theorem Anu(n:Nat)(h:n<4294967296):(BitVec.ofInt 32 (n:Int)).msb=decide (2147483648<=n):=by
 rw[BitVec.msb_eq_decide,BitVec.ofInt_natCast,BitVec.toNat_ofNat,Nat.mod_eq_of_lt oo]
theorem Bfi(v:BitVec 32):shr_ .u32 (v.toNat:Int) 31=if v.msb then 1 else 0:=by
 have h:=v.isLt;rw[BitVec.msb_eq_decide];show (v.toNat:Int).fdiv (2 ^ (min (31:Int).toNat 32))=_;rw[show (2:Int) ^ (min (31:Int).toNat 32)=2147483648 from by decide,Int.fdiv_eq_ediv_of_nonneg _ oo]
 by_cases h1:2 ^ (32-1)<=v.toNat
 ·rw[if_pos (by simpa using h1)];omega
 ·rw[if_neg (by simpa using h1)];omega
theorem Bfj{x y b:Nat}(hx:x<4294967296)(hy:y<4294967296)(hb:b<=1):
  ∃ d b':Nat,Mm (x:Int) (y:Int) (b:Int)=some ((d:Int),(b':Int))/\d<4294967296/\b'<=1/\d+b+y=x+4294967296*b':=by
 unfold Mm;have e:wu32 (wu32 ((x:Int)-y)-b)=(((x:Int)-y-b) % 4294967296).toNat:=by rw[Ay5,Ay5];omega
 rw[e];generalize hd:(((x:Int)-y-b) % 4294967296).toNat=d;have hdl:d<4294967296:=oo;rw[Ay4,Ay4,Ark,Ark,Ark,Bfg];simp only[Bfh,Bee,BitVec.allOnes_xor];rw[Bfi];rw[BitVec.msb_or,BitVec.msb_and,BitVec.msb_and,BitVec.msb_not,BitVec.msb_not,BitVec.msb_xor,Anu _ hx,Anu _ hy,Anu _ hdl]
 by_cases h1:2147483648<=x <;> by_cases h2:2147483648<=y <;> by_cases h3:2147483648<=d <;> simp only[h1,h2,h3,decide_true,decide_false,Bool.not_true,Bool.not_false,Bool.and_true,Bool.and_false,Bool.true_and,Bool.false_and,Bool.or_true,Bool.or_false,Bool.xor_true,Bool.xor_false,Bool.false_eq_true,if_true,if_false,show (0<32)=True by simp] <;>
  first
  | exact⟨d,0,rfl,hdl,oo,oo⟩
  | exact⟨d,1,rfl,hdl,oo,oo⟩
theorem Bfk{x y c:Nat}(hx:x<4294967296)(hy:y<4294967296)(hc:c<=1):
  Ml (x:Int) (y:Int) (c:Int)=some ((((x+y+c) % 4294967296:Nat):Int),(((x+y+c) / 4294967296:Nat):Int)):=by
 unfold Ml;have e:wu64 (wu64 (wu64 (x:Int)+wu64 (y:Int))+wu64 (c:Int))=((x+y+c:Nat):Int):=by
  rw[Yk (n:=x) oo,Yk (n:=y) oo,Yk (n:=c) oo,<- Int.natCast_add,Yk oo,<- Int.natCast_add,Yk oo]
 rw[e,Af5,Ay1,Ay0 oo]
theorem Ay6{l r out:List Nat}{cy i n:Nat}(hn:l.length=n)(hi:i<n)(hr:r.length<=n)(hl':∀ x∈l,x<4294967296)(hr':∀ x∈r,x<4294967296)(hC1:out.length=n+1)(hC2:cy<=1)(hC4:∀ x∈out,x<4294967296)(hC5:∀ (q:Nat) (h:q<out.length),i<=q->out[q]=0)(hC6:val 4294967296 out+cy*4294967296 ^ i=val 4294967296 (l.take i)+val 4294967296 (r.take i)):
  ∀ s,s=l.getD i 0+r.getD i 0+cy->(out.set i (s % 4294967296)).length=n+1/\s / 4294967296<=1/\(∀ x∈out.set i (s % 4294967296),x<4294967296)/\(∀ (q:Nat) (h:q<(out.set i (s % 4294967296)).length),i+1<=q->(out.set i (s % 4294967296))[q]=0) /\
   val 4294967296 (out.set i (s % 4294967296))+s / 4294967296*4294967296 ^ (i+1)=val 4294967296 (l.take (i+1))+val 4294967296 (r.take (i+1)):=by
 intro s hs;have h1:=Aaj (b:=4294967296) oo hl' i;have h2:=Aaj (b:=4294967296) oo hr' i;refine⟨by simp[hC1],oo,Ts hC4 oo,fun q hq hiq=>?_,?_⟩
 ·rw[getElem_set_ne oo];exact hC5 q (by simpa using hq) oo
 ·have hs1:=Yt (b:=4294967296) out i (s % 4294967296) oo;rw[hC5 i oo oo] at hs1;rw[Uk,Uk];have e1:s=4294967296*(s / 4294967296)+s % 4294967296:=oo;have e2:=congrArg (· * 4294967296 ^ i) (hs.symm.trans e1);simp only[Nat.add_mul] at e2;have e4:4294967296 ^ (i+1)=4294967296*4294967296 ^ i:=by rw[Nat.pow_succ,Nat.mul_comm]
  rw[e4];generalize 4294967296 ^ i=P at *;generalize l.getD i 0=a at *;generalize r.getD i 0=b at *;generalize s / 4294967296=q at *;generalize s % 4294967296=m at *;have e5:q*(4294967296*P)=4294967296*q*P:=by grind
  have e7:P*a=a*P:=Nat.mul_comm _ _;have e8:P*b=b*P:=Nat.mul_comm _ _;omega
theorem Ay7(l r:List Nat)(hl:∀ x∈l,x<4294967296)(hr:∀ x∈r,x<4294967296)(h9:l.length<=100000)(hrl:r.length<=l.length):
  (jn (fun (s6:List Int × Int)=>
   bnd (idx s6.1 ((((nI l).length:Nat):Int))) fun _=>
   bnd (Fk (setI s6.1 ((((nI l).length:Nat):Int)) s6.2)) fun r122=>
   some r122)
   (fun j6=>bnd (lfix (Ku (nI l,nI r)) (List.replicate (Int.toNat (w64 (((((nI l).length:Nat):Int))+1))) (0:Int),0,0)) fun t56=>
   j6 t56))=some (L32 (val 4294967296 l+val 4294967296 r)):=by
 obtain⟨t,ht,out,cy,rfl,hC1,hC2,hC4,hC5,hC6⟩:=Be (B:=Ku (nI l,nI r)) (fun s=>l.length-s.2.2.toNat)
  (fun s=>∃ (out:List Nat) (cy i:Nat),s=(nI out,(cy:Int),(i:Int))/\i<=l.length/\out.length=l.length+1/\cy<=1/\(∀ x∈out,x<4294967296)/\(∀ (q:Nat) (h:q<out.length),i<=q->out[q]=0)/\val 4294967296 out+cy*4294967296 ^ i=val 4294967296 (l.take i)+val 4294967296 (r.take i))
  (fun t=>∃ (out:List Nat) (cy:Nat),t=(nI out,(cy:Int))/\out.length=l.length+1/\cy<=1/\(∀ x∈out,x<4294967296)/\(∀ (h:l.length<out.length),out[l.length]=0)/\val 4294967296 out+cy*4294967296 ^ l.length=val 4294967296 l+val 4294967296 r) (by
   rintro s ⟨out,cy,i,rfl,hi',hC1,hC2,hC4,hC5,hC6⟩;unfold Ku;simp only[jn_d,Cj]
   by_cases hi:i<l.length
   ·left;obtain⟨k1,k2,k3,k4,k5⟩:=Ay6 rfl hi hrl hl hr hC1 hC2 hC4 hC5 hC6 _ rfl;have h1:=Aaj (b:=4294967296) oo hl i;have h2:=Aaj (b:=4294967296) oo hr i;refine⟨_,?_,⟨_,_,i+1,rfl,oo,k1,k2,k3,k4,k5⟩,by simp only[Int.toNat_natCast];omega⟩;rw[if_pos oo];have fin:∀ y:Int,y=((r.getD i 0:Nat):Int)->(bnd (idx (nI l) (i:Int)) fun x76=>bnd (Ml x76 y (cy:Int)) fun r87=>bnd (idx (nI out) (i:Int)) fun _=>some (Sum.inl (β:=List Int × Int) (setI (nI out) (i:Int) r87.1,r87.2,w64 ((i:Int)+1))))=some (.inl (nI (out.set i ((l.getD i 0+r.getD i 0+cy) % 4294967296)),(((l.getD i 0+r.getD i 0+cy) / 4294967296:Nat):Int),((i+1:Nat):Int))):=by
     rintro y rfl;rw[Du hi,Ae,<- Xh hi,Bfk h1 h2 hC2,Ae,Du oo,Ae];simp only[];rw[Xg,Az oo]
    by_cases hm:i<r.length
    ·rw[if_pos oo,Du hm,Ae];exact fin _ (by rw[Xh hm])
    ·rw[if_neg oo];exact fin _ (by rw[Sf hm];rfl)
   ·right;obtain rfl:i=l.length:=oo;rw[if_neg oo];rw[take_of_length_le oo,take_of_length_le oo] at hC6;exact⟨_,rfl,out,cy,rfl,hC1,hC2,hC4,fun h=>hC5 _ h oo,hC6⟩)
  (nI (List.replicate (l.length+1) 0),((0:Nat):Int),((0:Nat):Int)) ⟨_,0,0,rfl,oo,s_,oo,s_,s_,by simp[val,Zt]⟩
 simp only[jn_d,Cj];rw[Az oo,Int.toNat_natCast,Aai];have ht':lfix (Ku (nI l,nI r)) (nI (List.replicate (l.length+1) 0),0,0)=some (nI out,(cy:Int)):=ht;rw[ht',Ae];simp only[];rw[Du oo,Ae,Xg,Af4 _ (by simp;omega),Ae];have hs1:=Yt (b:=4294967296) out l.length cy oo;rw[hC5 oo] at hs1;rw[Xy (b:=4294967296) oo _ (Ts hC4 oo),show val 4294967296 (out.set l.length cy)=val 4294967296 l+val 4294967296 r by omega];rfl
theorem Bef(l r:List Nat)(hl:∀ x∈l,x<4294967296)(hr:∀ x∈r,x<4294967296)(h9:l.length<=100000)(h9':r.length<=100000):
  Qs (nI l) (nI r)=some (L32 (val 4294967296 l+val 4294967296 r)):=by
 unfold Qs;simp only[jn_d]
 by_cases h:l.length<r.length
 ·rw[if_pos (by rw[Cj,Cj];omega),gd_t (by rw[Cj,Az oo];omega)];have:=Ay7 r l hr hl h9' oo;simp only[jn_d] at this;rw[this,Nat.add_comm]
 ·rw[if_neg (by rw[Cj,Cj];omega),gd_t (by rw[Cj,Az oo];omega)];have:=Ay7 l r hl hr h9 oo;simp only[jn_d] at this;exact this
theorem Beg(l r:List Nat)(hl:∀ x∈l,x<4294967296)(hr:∀ x∈r,x<4294967296)(h9:l.length<=100000)(hrl:r.length<=l.length)(hle:val 4294967296 r<=val 4294967296 l):
  Nt (nI l) (nI r)=some (L32 (val 4294967296 l-val 4294967296 r)):=by
 obtain⟨t,ht,out,rfl,hC1,hd⟩:=Be (B:=Oz (nI l) (nI r)) (fun s=>l.length-s.2.2.toNat)
  (fun s=>∃ (out:List Nat) (bw i:Nat),s=(nI out,(bw:Int),(i:Int))/\i<=l.length/\out.length=l.length/\bw<=1/\(∀ x∈out,x<4294967296)/\(∀ (q:Nat) (h:q<out.length),i<=q->out[q]=0)/\val 4294967296 out+val 4294967296 (r.take i)=val 4294967296 (l.take i)+bw*4294967296 ^ i)
  (fun t=>∃ (out:List Nat),t=nI out/\out.length=l.length/\nrm out=dig 4294967296 (val 4294967296 l-val 4294967296 r)) (by
   rintro s ⟨out,bw,i,rfl,hi',hC1,hC2,hC4,hC5,hC6⟩;unfold Oz;simp only[jn_d,Cj]
   by_cases hi:i<l.length
   ·left;have h1:=Aaj (b:=4294967296) oo hl i;have h2:=Aaj (b:=4294967296) oo hr i;obtain⟨d,b',hB,hd1,hb1,he⟩:=Bfj h1 h2 hC2;refine⟨(nI (out.set i d),(b':Int),((i+1:Nat):Int)),?_,⟨_,_,i+1,rfl,oo,by simp[hC1],hb1,Ts hC4 hd1,fun q hq hiq=>?_,?_⟩,by simp only[Int.toNat_natCast];omega⟩
    ·rw[if_pos oo];have fin:∀ y:Int,y=((r.getD i 0:Nat):Int)->(bnd (idx (nI l) (i:Int)) fun x76=>bnd (Mm x76 y (bw:Int)) fun r87=>bnd (idx (nI out) (i:Int)) fun _=>some (Sum.inl (β:=List Int) (setI (nI out) (i:Int) r87.1,r87.2,w64 ((i:Int)+1))))=some (.inl (nI (out.set i d),(b':Int),((i+1:Nat):Int))):=by
      rintro y rfl;rw[Du hi,Ae,<- Xh hi,hB,Ae,Du oo,Ae];simp only[];rw[Xg,Az oo]
     by_cases hm:i<r.length
     ·rw[if_pos oo,Du hm,Ae];exact fin _ (by rw[Xh hm])
     ·rw[if_neg oo];exact fin _ (by rw[Sf hm];rfl)
    ·rw[getElem_set_ne oo];exact hC5 q (by simpa using hq) oo
    ·have hs1:=Yt (b:=4294967296) out i d oo;rw[hC5 i oo oo] at hs1;rw[Uk,Uk];have e3:=congrArg (· * 4294967296 ^ i) he;simp only[Nat.add_mul] at e3;have e4:4294967296 ^ (i+1)=4294967296*4294967296 ^ i:=by rw[Nat.pow_succ,Nat.mul_comm]
     rw[e4];generalize 4294967296 ^ i=P at *;generalize l.getD i 0=a at *;generalize r.getD i 0=b at *;have e5:b' * (4294967296*P)=4294967296*b' * P:=by grind
     have e7:P*a=a*P:=Nat.mul_comm _ _;have e8:P*b=b*P:=Nat.mul_comm _ _;omega
   ·right;obtain rfl:i=l.length:=oo;rw[if_neg oo];rw[take_of_length_le oo,take_of_length_le oo] at hC6;refine⟨_,rfl,out,rfl,hC1,?_⟩;rw[Xy (b:=4294967296) oo out hC4];have hlt:=Agm out hC4;rw[hC1] at hlt;have:bw=0\/bw=1:=oo;rcases this with rfl | rfl
    ·rw[show val 4294967296 out=val 4294967296 l-val 4294967296 r by omega]
    ·omega)
  (nI (List.replicate l.length 0),((0:Nat):Int),((0:Nat):Int)) ⟨_,0,0,rfl,oo,s_,oo,s_,s_,by simp[val,Zt]⟩
 unfold Nt;simp only[jn_d,Cj,Int.toNat_natCast,Aai];rw[gd_t ⟨oo,oo⟩];have ht':lfix (Oz (nI l) (nI r)) (nI (List.replicate l.length 0),0,0)=some (nI out):=ht;rw[ht',Ae,Af4 _ oo,Ae,hd];rfl
theorem W_lt{a:Nat}:∀ x∈dig 4294967296 a,x<4294967296:=Od oo a
theorem Beh{a b:Nat}(ha:(dig 4294967296 a).length<=100000)(hb:(dig 4294967296 b).length<=100000):Qs (L32 a) (L32 b)=some (L32 (a+b)):=by
 have:=Bef _ _ (W_lt (a:=a)) (W_lt (a:=b)) ha hb
 rwa [De oo,De oo] at this
theorem Au9{a b:Nat}(h:a<=b):(dig 4294967296 a).length<=(dig 4294967296 b).length:=by
 rcases Nat.lt_or_ge (dig 4294967296 b).length (dig 4294967296 a).length with h1 | h1
 ·have:=Aa4 (b:=4294967296) oo h1;omega
 ·exact h1
theorem Ay8{a b:Nat}(ha:(dig 4294967296 a).length<=100000)(h:b<=a):Nt (L32 a) (L32 b)=some (L32 (a-b)):=by
 have:=Beg _ _ (W_lt (a:=a)) (W_lt (a:=b)) ha (Au9 h) (by rw[De oo,De oo];exact h)
 rwa [De oo,De oo] at this
theorem Bei{a b:Nat}(h:(dig 4294967296 a).length+(dig 4294967296 b).length<=1000000):Ed (L32 a) (L32 b)=some (L32 (a*b)):=by
 have:=Ay2 _ _ (W_lt (a:=a)) (W_lt (a:=b)) h
 rwa [De oo,De oo] at this
theorem Ato{n:Nat}(h:n<=18446744073709551615):Uj (n:Int)=some (L32 n):=by
 unfold Uj;have:=Af4 [n % 4294967296,n / 4294967296 % 4294967296] s_;rw[show [wu32 (n:Int),wu32 (shr_ .u64 (n:Int) 32)]=nI [n % 4294967296,n / 4294967296 % 4294967296] from by rw[Ay1,Af5,Af5];rfl,this,Ae,Auf n h];rfl
theorem Bej{s:Bool}{z:Int}(hs:z≠0->s=decide (z<0)):Pb ⟨s,L32 z.natAbs,[1]⟩=some (Int.sign z):=by
 unfold Pb;simp only[]
 by_cases h0:z=0
 ·subst h0;rfl
 ·have:(L32 z.natAbs).length≠0:=fun e=>h0 (by have:=Bbi.1 e;omega)
  rw[if_neg oo,hs h0]
  by_cases h1:z<0
  ·rw[if_pos (by simpa using h1),Int.sign_eq_neg_one_of_neg h1]
  ·rw[if_neg (by simpa using h1),Int.sign_eq_one_of_pos oo]
end
end Go.Proofs.YthlkpgdfifnagaaGreat
