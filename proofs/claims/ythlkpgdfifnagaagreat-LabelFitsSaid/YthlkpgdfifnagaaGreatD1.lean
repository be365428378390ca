import Derived.Test.YthlkpgdfifnagaaGreatJ3
import Derived.Test.YthlkpgdfifnagaaGreatProg
set_option maxRecDepth 100000
set_option maxHeartbeats 1000000
namespace Go.Proofs.YthlkpgdfifnagaaGreat
open Go Go.RowKit Tryz
noncomputable section
instance:Nb prog 284 199 1:=⟨.mk underlying284 (show prog.info? 199=some t199 from by kernel_rfl) kr⟩
instance:OneI prog 199:=⟨.mk underlying199 rfl (show prog.info? 199=some t199 from by kernel_rfl) kr⟩
instance(x0:Int)(x1:Int):Qd prog 284 2 [(0,.int .u32 x0),(1,.int .u32 x1)] 199 [.int .u32 x0,.int .u32 x1]:=⟨fun w=>kr⟩
instance:Te prog 286 [.bool false,.slice none 0 0,.slice none 0 0]:=⟨⟨_,zeroValue286,rfl⟩⟩
instance:Cm prog 286 0 0:=⟨.mk underlying286 rfl rfl (show prog.info? 4=some Tryz.t4 from by kernel_rfl) (show Tryz.t4.size=1 from by kernel_rfl) rfl⟩
theorem one4:Tl prog 4:=.mk underlying4 rfl (show prog.info? 4=some Tryz.t4 from by kernel_rfl) kr
instance:OneI prog 4:=⟨one4⟩
instance:Cm prog 286 1 1:=⟨.mk underlying286 rfl rfl (show prog.info? 284=some t284 from by kernel_rfl) (show t284.size=1 from by kernel_rfl) rfl⟩
instance:OneI prog 284:=⟨.mk underlying284 rfl (show prog.info? 284=some t284 from by kernel_rfl) kr⟩
instance:Cm prog 286 2 2:=⟨.mk underlying286 rfl rfl (show prog.info? 284=some t284 from by kernel_rfl) (show t284.size=1 from by kernel_rfl) rfl⟩
instance(x0:Bool)(x1:Option Addr)(x2:Nat)(x3:Nat)(x4:Option Addr)(x5:Nat)(x6:Nat):Le prog 286 [(0,.bool x0),(1,.slice x1 x2 x3),(2,.slice x4 x5 x6)] [.bool x0,.slice x1 x2 x3,.slice x4 x5 x6]:=⟨fun w=>kr⟩
instance:AggI prog 286 3:=⟨.mk underlying286 rfl (show prog.info? 286=some t286 from by kernel_rfl) kr⟩
instance(x0:Int):Qd prog 284 1 [(0,.int .u32 x0)] 199 [.int .u32 x0]:=⟨fun w=>kr⟩
instance(x0:Int)(x1:Int)(x2:Int)(x3:Int)(x4:Int)(x5:Int):Qd prog 58 3 [(0,.agg #[iq x0,iq x1]),(1,.agg #[iq x2,iq x3]),(2,.agg #[iq x4,iq x5])] 57 [iq x0,iq x1,iq x2,iq x3,iq x4,iq x5]:=⟨fun w=>kr⟩
instance(x0:Int)(x1:Int)(x2:Int)(x3:Int)(x4:Int)(x5:Int)(x6:Int)(x7:Int):Qd prog 58 4 [(0,.agg #[iq x0,iq x1]),(1,.agg #[iq x2,iq x3]),(2,.agg #[iq x4,iq x5]),(3,.agg #[iq x6,iq x7])] 57 [iq x0,iq x1,iq x2,iq x3,iq x4,iq x5,iq x6,iq x7]:=⟨fun w=>kr⟩
instance:Cm prog 108 0 0:=⟨.mk underlying108 rfl rfl (show prog.info? 3=some Tryz.t3 from by kernel_rfl) (show Tryz.t3.size=1 from by kernel_rfl) rfl⟩
instance:Cm prog 108 1 1:=⟨.mk underlying108 rfl rfl (show prog.info? 3=some Tryz.t3 from by kernel_rfl) (show Tryz.t3.size=1 from by kernel_rfl) rfl⟩
theorem Ag5:Rw prog 108 4:=.mk underlying108 rfl (show prog.info? 108=some t108 from by kernel_rfl) kr
instance:AggI prog 108 4:=⟨Ag5⟩
instance:Cm prog 108 2 2:=⟨.mk underlying108 rfl rfl (show prog.info? 28=some Tryz.t28 from by kernel_rfl) (show Tryz.t28.size=2 from by kernel_rfl) rfl⟩
theorem Ame:Rw prog 28 2:=.mk underlying28 rfl (show prog.info? 28=some Tryz.t28 from by kernel_rfl) kr
instance:AggI prog 28 2:=⟨Ame⟩
theorem Akj:Rj prog 103 [iq 0,iq 0]:=⟨_,zeroValue103,rfl⟩
instance:Te prog 103 [iq 0,iq 0]:=⟨Akj⟩
theorem Zk(x0:Int)(x1:Int):Wv prog 103 [(0,iq x0),(1,iq x1)] [iq x0,iq x1]:=fun w=>kr
instance(x0:Int)(x1:Int):Le prog 103 [(0,iq x0),(1,iq x1)] [iq x0,iq x1]:=⟨Zk _ _⟩
theorem Rz:Rw prog 103 2:=.arr underlying103 (show prog.info? 103=some t103 from by kernel_rfl) kr
instance:AggI prog 103 2:=⟨Rz⟩
theorem Ag6:Ai9 prog 103 2 1:=.mk underlying103 (show prog.info? 3=some Tryz.t3 from by kernel_rfl) kr
instance:ArrI prog 103 2 1:=⟨Ag6⟩
instance(x0:Int)(x1:Int)(x2:Int)(x3:Int)(x4:Int)(x5:Int):Le prog 162 [(0,.agg #[iq x0,iq x1]),(1,.agg #[iq x2,iq x3]),(2,.agg #[iq x4,iq x5])] [iq x0,iq x1,iq x2,iq x3,iq x4,iq x5]:=⟨fun w=>kr⟩
theorem Bdv(a0:Int)(a1:Int)(b0:Int)(b1:Int):∀ w,(Op.equalIn 10000 57 (.agg #[iq a0,iq a1]) (.agg #[iq b0,iq b1])).run prog w = .ok (((a0 == b0) && ((a1 == b1) && true))) w :=
 EqF.struct underlying57 kr (.cons rfl (fun w=>kr) (fun w=>kr) (fun w=>run_equalIn_int w 9998 3 .i64 .i64 _ _ underlying3) (.cons rfl (fun w=>kr) (fun w=>kr) (fun w=>run_equalIn_int w 9998 3 .i64 .i64 _ _ underlying3) EqF.nil))
instance(a0:Int)(a1:Int)(b0:Int)(b1:Int):EqSI prog 57 [iq a0,iq a1] [iq b0,iq b1] (((a0 == b0) && ((a1 == b1) && true))):=⟨Bdv _ _ _ _,kr⟩
instance:UndI prog 284 (.slice 199):=⟨underlying284⟩
def Er(x:Int):List Value:=[.int .u32 x]
instance(x0:Int):DecI Er [.int .u32 x0] x0:=⟨rfl⟩
instance:EncI 199 Er:=⟨trivial⟩
def Qa  : (List Int)->Option (Sum (List Int) (List Int)):=fun s0=>
 jn (fun (s6:Bool)=>
 if s6=true then (gd (0<=(w64 ((s0.length:Int)-1))/\(w64 ((s0.length:Int)-1))<=(s0.length:Int))<|
 some (.inl (subl s0 0 (w64 ((s0.length:Int)-1)))))
 else (some (.inr s0)))
 (fun j6=>if 0<(s0.length:Int) then (bnd (idx s0 (w64 ((s0.length:Int)-1))) fun x0=>
 j6 (decide (x0=0)))
 else (j6 false))
def Fk(p0:List Int):Option (List Int):=
 jn (fun (s2:List Int)=>
 some s2)
 (fun j2=>bnd (lfix Qa p0) fun t0=>
 j2 t0)
instance:UndI prog 167 (.int .u64):=⟨underlying167⟩
instance:UndI prog 199 (.int .u32):=⟨underlying199⟩
def Sf(p0:Int):Option (List Int):=
 bnd (Fk ([wu32 p0,wu32 (shr_ .u64 p0 32)])) fun r3=>
 some r3
def Lx(p0:Int)(p1:Int)(p2:Int):Option (Int × Int):=
 some (wu32 (wu64 ((wu64 ((wu64 p0)+(wu64 p1)))+(wu64 p2))),wu32 (shr_ .u64 (wu64 ((wu64 ((wu64 p0)+(wu64 p1)))+(wu64 p2))) 32))
def Ly(p0:Int)(p1:Int)(p2:Int):Option (Int × Int):=
 some (wu32 ((wu32 (p0-p1))-p2),shr_ .u32 (Uk .u32 (Dx .u32 (Abd .u32 (if IntKind.signed .u32 then -1 else IntKind.max .u32) p0) p1) (Dx .u32 (Abd .u32 (if IntKind.signed .u32 then -1 else IntKind.max .u32) (Abd .u32 p0 p1)) (wu32 ((wu32 (p0-p1))-p2)))) 31)
instance:MkI prog 284 199 1 4 Er 0:=⟨t199,.int .u32 0,underlying284,kr,kr,rfl,kr,kr⟩
def Ke(p1:List Int)(s0:List Int × Int)(x0:Int):(List Int × Int × Int)->Option (Sum (List Int × Int × Int) (List Int × Int)):=fun s1=>
 if s1.2.2<(p1.length:Int) then (bnd (idx p1 s1.2.2) fun x1=>
 bnd (idx s1.1 (w64 (s0.2+s1.2.2))) fun x2=>
 bnd (idx s1.1 (w64 (s0.2+s1.2.2))) fun x3=>
 some (.inl (setI s1.1 (w64 (s0.2+s1.2.2)) (wu32 (wu64 ((wu64 ((wu64 ((wu64 x0)*(wu64 x1)))+(wu64 x2)))+s1.2.1))),shr_ .u64 (wu64 ((wu64 ((wu64 ((wu64 x0)*(wu64 x1)))+(wu64 x2)))+s1.2.1)) 32,w64 (s1.2.2+1))))
 else (some (.inr (s1.1,s1.2.1)))
def Kf(p0:List Int)(p1:List Int):(List Int × Int)->Option (Sum (List Int × Int) (List Int)):=fun s0=>
 if s0.2<(p0.length:Int) then (bnd (idx p0 s0.2) fun x0=>
 jn (fun (s1:List Int × Int)=>
 bnd (idx s1.1 (w64 (s0.2+(p1.length:Int)))) fun x1=>
 some (.inl (setI s1.1 (w64 (s0.2+(p1.length:Int))) (wu32 s1.2),w64 (s0.2+1))))
 (fun j0=>bnd (lfix (Ke p1 s0 x0) (s0.1,0,0)) fun t0=>
 j0 t0))
 else (some (.inr s0.1))
def Ei(p0:List Int)(p1:List Int):Option (List Int):=
 gd ((0:Int)<=(w64 ((p0.length:Int)+(p1.length:Int)))/\4*Int.toNat (w64 ((p0.length:Int)+(p1.length:Int)))<=140737488355328)<|
 jn (fun (s3:List Int)=>
 bnd (Fk s3) fun r0=>
 some r0)
 (fun j3=>bnd (lfix (Kf p0 p1) (List.replicate (Int.toNat (w64 ((p0.length:Int)+(p1.length:Int)))) (0:Int),0)) fun t0=>
 j3 t0)
def Qx(p0:List Int)(p1:List Int):Int->Option (Sum Int (Sum Unit Int)):=fun s0=>
 if 0<=s0 then (bnd (idx p0 s0) fun x0=>
 bnd (idx p1 s0) fun x1=>
 if x0=x1 then (some (.inl (w64 (s0-1))))
 else (bnd (idx p0 s0) fun x2=>
 bnd (idx p1 s0) fun x3=>
 if x2<x3 then (some (.inr (.inr (-1))))
 else (some (.inr (.inr 1)))))
 else (some (.inr (.inl ())))
def Rm(p0:List Int)(p1:List Int):Option Int :=
 if (p0.length:Int)=(p1.length:Int) then (jn (fun (s8:Unit)=>
 some 0)
 (fun j8=>bnd (lfix (Qx p0 p1) (w64 ((p0.length:Int)-1))) fun t0=>
 (match t0 with
 | (.inl z0)=>j8 z0
 | (.inr z0)=>some z0
 )))
 else (if (p0.length:Int)<(p1.length:Int) then (some (-1))
 else (some 1))
def Kg(s2:List Int × List Int):(List Int × Int × Int)->Option (Sum (List Int × Int × Int) (List Int × Int)):=fun s0=>
 if s0.2.2<(s2.1.length:Int) then (jn (fun (s1:Int)=>
 bnd (idx s2.1 s0.2.2) fun x0=>
 bnd (Lx x0 s1 s0.2.1) fun r0=>
 bnd (idx s0.1 s0.2.2) fun x1=>
 some (.inl (setI s0.1 s0.2.2 r0.1,r0.2,w64 (s0.2.2+1))))
 (fun j0=>if s0.2.2<(s2.2.length:Int) then (bnd (idx s2.2 s0.2.2) fun x2=>
 j0 x2)
 else (j0 0)))
 else (some (.inr (s0.1,s0.2.1)))
def Pv(p0:List Int)(p1:List Int):Option (List Int):=
 jn (fun (s2:List Int × List Int)=>
 gd ((0:Int)<=(w64 ((s2.1.length:Int)+1))/\4*Int.toNat (w64 ((s2.1.length:Int)+1))<=140737488355328)<|
 jn (fun (s6:List Int × Int)=>
 bnd (idx s6.1 (s2.1.length:Int)) fun x0=>
 bnd (Fk (setI s6.1 (s2.1.length:Int) s6.2)) fun r0=>
 some r0)
 (fun j6=>bnd (lfix (Kg s2) (List.replicate (Int.toNat (w64 ((s2.1.length:Int)+1))) (0:Int),0,0)) fun t0=>
 j6 t0))
 (fun j2=>if (p0.length:Int)<(p1.length:Int) then (j2 (p1,p0))
 else (j2 (p0,p1)))
def Nn(p0:List Int)(p1:List Int):(List Int × Int × Int)->Option (Sum (List Int × Int × Int) (List Int)):=fun s0=>
 if s0.2.2<(p0.length:Int) then (jn (fun (s1:Int)=>
 bnd (idx p0 s0.2.2) fun x0=>
 bnd (Ly x0 s1 s0.2.1) fun r0=>
 bnd (idx s0.1 s0.2.2) fun x1=>
 some (.inl (setI s0.1 s0.2.2 r0.1,r0.2,w64 (s0.2.2+1))))
 (fun j0=>if s0.2.2<(p1.length:Int) then (bnd (idx p1 s0.2.2) fun x2=>
 j0 x2)
 else (j0 0)))
 else (some (.inr s0.1))
def Mw(p0:List Int)(p1:List Int):Option (List Int):=
 gd ((0:Int)<=(p0.length:Int)/\4*Int.toNat (p0.length:Int)<=140737488355328)<|
 jn (fun (s4:List Int)=>
 bnd (Fk s4) fun r0=>
 some r0)
 (fun j4=>bnd (lfix (Nn p0 p1) (List.replicate (Int.toNat (p0.length:Int)) (0:Int),0,0)) fun t0=>
 j4 t0)
structure Bt where
 neg:Bool
 n:List Int
 d:List Int
def Jy(p0:Bt)(p1:Bt):Option Bt :=
 bnd (Ei p0.n p1.n) fun r4=>
 bnd (Ei p0.d p1.d) fun r0=>
 some (⟨!(p0.neg == p1.neg),r4,r0⟩:Bt)
def Pw(p0:Bt)(p1:Bt):Option Bt :=
 bnd (Ei p0.n p1.d) fun r4=>
 bnd (Ei p1.n p0.d) fun r0=>
 bnd (Ei p0.d p1.d) fun r1=>
 if (p0.neg == p1.neg)=true then (bnd (Pv r4 r0) fun r2=>
 some (⟨p0.neg,r2,r1⟩:Bt))
 else (bnd (Rm r4 r0) fun r3=>
 if 0<=r3 then (bnd (Mw r4 r0) fun r5=>
 some (⟨p0.neg,r5,r1⟩:Bt))
 else (bnd (Mw r0 r4) fun r6=>
 some (⟨p1.neg,r6,r1⟩:Bt)))
def Np(p0:Bt):Option Int :=
 if (p0.n.length:Int)=0 then (some 0)
 else (if p0.neg=true then (some (-1))
 else (some 1))
instance:UndI prog 3 (.int .i64):=⟨underlying3⟩
def Lz(p0:Int):Option Bt :=
 if p0<0 then (bnd (Sf (wu64 ((wu64 (w64 (-(w64 (p0+1)))))+1))) fun r4=>
 some (⟨true,r4,[1]⟩:Bt))
 else (bnd (Sf (wu64 p0)) fun r0=>
 some (⟨false,r0,[1]⟩:Bt))
def Mb(p0:List Aa):Int->Option (Sum Int (Sum Unit Bool)):=fun s0=>
 if s0<(p0.length:Int) then (bnd (idx p0 s0) fun x0=>
 jn (fun (s1:Bool)=>
 if s1=true then (some (.inr (.inr false)))
 else (some (.inl (w64 (s0+1)))))
 (fun j0=>if x0.X<(-268435456) then (j0 true)
 else (if 268435456<x0.X then (j0 true)
 else (if x0.Y<(-268435456) then (j0 true)
 else (j0 (decide (268435456<x0.Y)))))))
 else (some (.inr (.inl ())))
def Qy(p0:List Aa):Option Bool :=
 jn (fun (s2:Unit)=>
 some true)
 (fun j2=>bnd (lfix (Mb p0) 0) fun t0=>
 (match t0 with
 | (.inl z0)=>j2 z0
 | (.inr z0)=>some z0
 ))
def Mc(p0:Int):Option Int :=
 if p0<0 then (some (-1))
 else (if 0<p0 then (some 1)
 else (some 0))
def Mj(p0:Aa)(p1:Aa)(p2:Aa):Option Int :=
 some (w64 ((w64 ((w64 (p1.X-p0.X))*(w64 (p2.Y-p0.Y))))-(w64 ((w64 (p1.Y-p0.Y))*(w64 (p2.X-p0.X))))))
def Tn(p0:Aa)(p1:Aa)(p2:Aa):Option (Int × Int):=
 bnd (Qy ([p0,p1,p2])) fun r6=>
 if r6=true then (bnd (Mj p0 p1 p2) fun r0=>
 bnd (Mc r0) fun r1=>
 some (r1,0))
 else (some (0,11))
def Sa(p0:Aa)(p1:Aa):Option Int :=
 some (w64 ((w64 ((w64 (p0.X-p1.X))*(w64 (p0.X-p1.X))))+(w64 ((w64 (p0.Y-p1.Y))*(w64 (p0.Y-p1.Y))))))
def Sr(p0:Aa)(p1:Aa)(p2:Aa)(p3:Aa):Option (Int × Int):=
 bnd (Qy ([p0,p1,p2,p3])) fun r7=>
 if r7=true then (bnd (Mj p0 p1 p2) fun r0=>
 bnd (Mc r0) fun r1=>
 if r1=0 then (some (0,12))
 else (bnd (Sa p0 p3) fun r2=>
 bnd (Lz r2) fun r3=>
 bnd (Mj p3 p1 p2) fun r4=>
 bnd (Lz r4) fun r5=>
 bnd (Jy r3 r5) fun r6=>
 bnd (Sa p1 p3) fun r8=>
 bnd (Lz r8) fun r9=>
 bnd (Mj p3 p2 p0) fun r81=>
 bnd (Lz r81) fun r84=>
 bnd (Jy r9 r84) fun r98=>
 bnd (Pw r6 r98) fun r10=>
 bnd (Sa p2 p3) fun r11=>
 bnd (Lz r11) fun r12=>
 bnd (Mj p3 p0 p1) fun r14=>
 bnd (Lz r14) fun r15=>
 bnd (Jy r12 r15) fun r17=>
 bnd (Pw r10 r17) fun r18=>
 bnd (Np r18) fun r19=>
 some (w64 (r1*r19),0)))
 else (some (0,11))
def Wl(p0:Av):Option Bool :=
 jn (fun (s2:Bool)=>
 some s2)
 (fun j2=>if (-1152921504606846976)<=p0.Lo then (if p0.Lo<=p0.Hi then (j2 (decide (p0.Hi<=1152921504606846976)))
 else (j2 false))
 else (j2 false))
def Fs(p0:Ac):Option Aa :=
 some (⟨p0.X,p0.Y⟩:Aa)
def Fe(p0:Aa)(p1:Aa):Option Bool :=
 jn (fun (s2:Bool)=>
 some s2)
 (fun j2=>if p0.X<p1.X then (j2 true)
 else (if p0.X=p1.X then (j2 (decide (p0.Y<p1.Y)))
 else (j2 false)))
def Iy(p0:Aa)(p1:Aa)(p2:Aa):Option Int :=
 bnd (Tn p0 p1 p2) fun r4=>
 some r4.1
def Xm(p0:Ac):Option Bool :=
 bnd (Fs p0) fun r2=>
 bnd (Fs p0) fun r5=>
 bnd (Fs p0) fun r8=>
 bnd (Tn r2 r5 r8) fun r0=>
 jn (fun (s3:Bool)=>
 some s3)
 (fun j3=>if r0.2=0 then (bnd (Wl p0.Z) fun r1=>
 if r1=true then (if (-268435456)<=p0.Z.Lo then (j3 (decide (p0.Z.Hi<=268435456)))
 else (j3 false))
 else (j3 false))
 else (j3 false))
structure Ab where
 a0:Int
 a1:Int
def Fy(p0:Int)(p1:Int):Option Ab :=
 some (⟨min p0 p1,max p0 p1⟩:Ab)
def Vp(p0:Ab)(p1:Ab):Option Int :=
 if p0.a0=p1.a0 then (some (w64 (p0.a1-p1.a1)))
 else (some (w64 (p0.a0-p1.a0)))
theorem Bbv(x0:Int)(x1:Int)(x2:Int)(x3:Int)(x4:Int)(x5:Int):Aki prog 162 [iq x0,iq x1,iq x2,iq x3,iq x4,iq x5] [.agg #[iq x0,iq x1],.agg #[iq x2,iq x3],.agg #[iq x4,iq x5]]:=by
 intro j h k w;have h':j<3:=h
 match j,h,h' with
 | 0,_,_=>exact (show (Instr.index 162 (.agg ([.int .i64 x0,.int .i64 x1,.int .i64 x2,.int .i64 x3,.int .i64 x4,.int .i64 x5]:List Value).toArray) (.int k ((0:Nat):Int))).run prog w = .ok (.agg #[.int .i64 x0,.int .i64 x1]) w by kernel_rfl)
 | 1,_,_=>exact (show (Instr.index 162 (.agg ([.int .i64 x0,.int .i64 x1,.int .i64 x2,.int .i64 x3,.int .i64 x4,.int .i64 x5]:List Value).toArray) (.int k ((1:Nat):Int))).run prog w = .ok (.agg #[.int .i64 x2,.int .i64 x3]) w by kernel_rfl)
 | 2,_,_=>exact (show (Instr.index 162 (.agg ([.int .i64 x0,.int .i64 x1,.int .i64 x2,.int .i64 x3,.int .i64 x4,.int .i64 x5]:List Value).toArray) (.int k ((2:Nat):Int))).run prog w = .ok (.agg #[.int .i64 x4,.int .i64 x5]) w by kernel_rfl)
instance(x0:Int)(x1:Int)(x2:Int)(x3:Int)(x4:Int)(x5:Int):Arj prog 162 [iq x0,iq x1,iq x2,iq x3,iq x4,iq x5] Es [(⟨x0,x1⟩:Aa),(⟨x2,x3⟩:Aa),(⟨x4,x5⟩:Aa)]:=⟨Bbv _ _ _ _ _ _⟩
def Wy(p1:Aa)(p2:Aa)(p3:Aa):(Int × Int × Int)->Option (Sum (Int × Int × Int) (Int × Int)):=fun s0=>
 if s0.2.2<3 then (jn (fun (s1:Int × Int)=>
 some (.inl (s1.1,s1.2,w64 (s0.2.2+1))))
 (fun j0=>bnd (idx [p1,p2,p3] s0.2.2) fun x0=>
 bnd (Fe x0 (⟨s0.1,s0.2.1⟩:Aa)) fun r0=>
 if r0=true then (j0 (x0.X,x0.Y))
 else (j0 (s0.1,s0.2.1))))
 else (some (.inr (s0.1,s0.2.1)))
def To(p0:Aa)(p1:Aa)(p2:Aa)(p3:Aa):Option Bool :=
 bnd (Sr p0 p1 p2 p3) fun r5=>
 if r5.1=0 then (jn (fun (s7:Int × Int)=>
 jn (fun (s0:Bool)=>
 some s0)
 (fun j0=>if (((s7.1 == p2.X) && ((s7.2 == p2.Y) && true)))=true then (j0 true)
 else (j0 ((s7.1 == p3.X) && ((s7.2 == p3.Y) && true)))))
 (fun j7=>bnd (lfix (Wy p1 p2 p3) (p0.X,p0.Y,0)) fun t0=>
 j7 t0))
 else (some (decide (r5.1<0)))
instance(p0:List Int):ConB (Fk p0) prog 323 (fun K vs=>∃ U0 E0,vs=[.slice U0 p0.length E0]/\Has K U0 p0.length E0 1 Er p0/\True) (fun K r=>fun v Ln=>∃ A0 c0 e,v = .slice A0 r.length c0/\Ln=[e]/\Has (K++[e]) A0 r.length c0 1 Er r/\True):=⟨by
 rintro K _ r ⟨U0,E0,rfl,ha0,-⟩ hx w hK;unfold Fk at hx;refine CtS ntmps323 results323 ?_;try (refine pre ?_;intros;rename_i hx)
 refine Bf ?_;try (refine pre ?_;intros;rename_i hx)
 apply JrG (γ:=Option Addr × Nat) hx [] (fun s2 y2 f=>(0,.slice y2.1 s2.length y2.2)::f) [999] (fun s2 y2 l=>l) (fun s2 y2=>Has K y2.1 s2.length y2.2 1 Er s2/\True);exact kk
 ·intro s2 y2 hx hG;obtain⟨_,-⟩:=hG;exact au
 ·intro _ hx;try (refine pre ?_;intros;rename_i hx)
  apply LrG (γ:=Option Addr × Nat) hx [] (fun s0 y0 f=>(0,.slice y0.1 s0.length y0.2)::f) [999] (fun s0 y0 l=>l) (fun s0 y0=>Has K y0.1 s0.length y0.2 1 Er s0/\True) (_,_);exact kk;exact sF2;exact gG;exact pK2;intro s0 y0 x0 hx _ hG;obtain⟨_,-⟩:=hG;unfold Qa at hx;exact au⟩
instance(p0:Int):ConB (Sf p0) prog 311 (fun _ vs=>vs=[.int .u64 p0]) (fun K r=>fun v Ln=>∃ A0 c0 e,v = .slice A0 r.length c0/\Ln=[e]/\Has (K++[e]) A0 r.length c0 1 Er r/\True):=⟨by
 rintro K _ r rfl hx w hK;unfold Sf at hx;refine CtS ntmps311 results311 ?_;exact au⟩
instance(p0:Int)(p1:Int)(p2:Int):Con (Lx p0 p1 p2) prog 324 (fun _ vs=>vs=[.int .u32 p0,.int .u32 p1,.int .u32 p2]) (fun _ r=>fun v Ln=>v = .tuple #[.int .u32 r.1,.int .u32 r.2]/\Ln=[]/\True):=⟨by
 rintro _ _ r rfl hx w hK;unfold Lx at hx;refine CtS ntmps324 results324 ?_;exact au⟩
instance(p0:Int)(p1:Int)(p2:Int):Con (Ly p0 p1 p2) prog 325 (fun _ vs=>vs=[.int .u32 p0,.int .u32 p1,.int .u32 p2]) (fun _ r=>fun v Ln=>v = .tuple #[.int .u32 r.1,.int .u32 r.2]/\Ln=[]/\True):=⟨by
 rintro _ _ r rfl hx w hK;unfold Ly at hx;refine CtS ntmps325 results325 ?_;exact au⟩
instance(p0:List Int)(p1:List Int):ConB (Ei p0 p1) prog 312 (fun K vs=>∃ U0 E0 U1 E1,vs=[.slice U0 p0.length E0,.slice U1 p1.length E1]/\Has K U0 p0.length E0 1 Er p0/\Has K U1 p1.length E1 1 Er p1/\True) (fun K r=>fun v Ln=>∃ A0 c0 e,v = .slice A0 r.length c0/\Ln=[e]/\Has (K++[e]) A0 r.length c0 1 Er r/\True):=⟨by
 rintro K _ r ⟨U0,E0,U1,E1,rfl,ha0,ha1,-⟩ hx w hK;unfold Ei at hx;refine CtS ntmps312 results312 ?_;try (refine pre ?_;intros;rename_i hx)
 apply Jr (γ:=Option Addr × Nat) hx [] (fun s3 y3 f=>(5,.slice y3.1 s3.length y3.2)::f) [999] (fun s3 y3 l=>.r y3.1 s3.length y3.2 199 1 (s3.flatMap Er)::l);exact kk
 ·intro s3 y3 hx;exact au
 ·intro _ hx;try (refine pre ?_;intros;rename_i hx)
  apply Lr (γ:=Option Addr × Nat) hx [1,18,19] (fun s0 y0 f=>(5,.slice y0.1 s0.1.length y0.2)::(20,iq s0.2)::f) [999] (fun s0 y0 l=>.r y0.1 s0.1.length y0.2 199 1 (s0.1.flatMap Er)::l) (_,_);exact kk;exact sk;intro s0 y0 x0 hx _;unfold Kf at hx;try (refine pre ?_;intros;rename_i hx)
  refine Cq1 (s:=21) hx rfl (fun _ hx=>?_) (fun _ hx=>?_)
  ·try (refine pre ?_;intros;rename_i hx)
   refine Bf ?_;try (refine pre ?_;intros;rename_i hx)
   apply Jr (γ:=Option Addr × Nat) hx [1,6,18,19,20] (fun s1 y1 f=>(5,.slice y1.1 s1.1.length y1.2)::(8,.int .u64 s1.2)::f) [999] (fun s1 y1 l=>.r y1.1 s1.1.length y1.2 199 1 (s1.1.flatMap Er)::l);exact kk
   ·intro s1 y1 hx;exact au
   ·intro _ hx;try (refine pre ?_;intros;rename_i hx)
    apply Lr (γ:=Option Addr × Nat) hx [1,6,7,18,19,20,25,26] (fun s2 y2 f=>(5,.slice y2.1 s2.1.length y2.2)::(8,.int .u64 s2.2.1)::(27,iq s2.2.2)::f) [999] (fun s2 y2 l=>.r y2.1 s2.1.length y2.2 199 1 (s2.1.flatMap Er)::l) (_,_);exact kk;exact sk;intro s2 y2 x1 hx _;unfold Ke at hx;exact au
  ·exact au⟩
instance(p0:List Int)(p1:List Int):Con (Rm p0 p1) prog 314 (fun K vs=>∃ U0 E0 U1 E1,vs=[.slice U0 p0.length E0,.slice U1 p1.length E1]/\Has K U0 p0.length E0 1 Er p0/\Has K U1 p1.length E1 1 Er p1/\True) (fun _ r=>fun v Ln=>v = iq r/\Ln=[]/\True):=⟨by
 rintro K _ r ⟨U0,E0,U1,E1,rfl,ha0,ha1,-⟩ hx w hK;replace ha0:=Has.lo ha0 hK;replace ha1:=Has.lo ha1 hK;unfold Rm at hx;have:=dl 8 [0,0,0,1,0,0,0,1,0] [0,1,2,3,4,5,6,7,8];have:=dl 9 [0,0,0,1,0,0,0,1,0] [0,1,2,3,4,5,6,7,8];refine CtS ntmps314 results314 ?_;try (refine pre ?_;intros;rename_i hx)
 refine Cq2 (s:=10) hx rfl (fun _ hx=>?_) (fun _ hx=>?_)
 ·exact au
 ·try (refine pre ?_;intros;rename_i hx)
  apply Jr (γ:=Unit) hx [] (fun s8 y8 f=>f) [999] (fun s8 y8 l=>l);exact kk
  ·intro s8 y8 hx;exact au
  ·intro _ hx;try (refine pre ?_;intros;rename_i hx)
   apply Lr (γ:=Unit) hx [0,1] (fun s61 y61 f=>(5,iq s61)::f) [999] (fun s61 y61 l=>l) ();exact kk;exact sk;intro s61 y61 x61 hx _;unfold Qx at hx;exact au⟩
instance(p0:List Int)(p1:List Int):ConB (Pv p0 p1) prog 313 (fun K vs=>∃ U0 E0 U1 E1,vs=[.slice U0 p0.length E0,.slice U1 p1.length E1]/\Has K U0 p0.length E0 1 Er p0/\Has K U1 p1.length E1 1 Er p1/\True) (fun K r=>fun v Ln=>∃ A0 c0 e,v = .slice A0 r.length c0/\Ln=[e]/\Has (K++[e]) A0 r.length c0 1 Er r/\True):=⟨by
 rintro K _ r ⟨U0,E0,U1,E1,rfl,ha0,ha1,-⟩ hx w hK;unfold Pv at hx;refine CtS ntmps313 results313 ?_;try (refine pre ?_;intros;rename_i hx)
 refine Bf ?_;try (refine pre ?_;intros;rename_i hx)
 apply JrG (γ:=Option Addr × Nat × Option Addr × Nat) hx [] (fun s2 y2 f=>(0,.slice y2.1 s2.1.length y2.2.1)::(1,.slice y2.2.2.1 s2.2.length y2.2.2.2)::f) [999] (fun s2 y2 l=>l) (fun s2 y2=>Has K y2.1 s2.1.length y2.2.1 1 Er s2.1/\Has K y2.2.2.1 s2.2.length y2.2.2.2 1 Er s2.2/\True);exact kk
 ·intro s2 y2 hx hG;obtain⟨_,_,-⟩:=hG;try (refine pre ?_;intros;rename_i hx)
  refine Bf ?_;try (refine pre ?_;intros;rename_i hx)
  apply Jr (γ:=Option Addr × Nat) hx [0] (fun s6 y6 f=>(5,.slice y6.1 s6.1.length y6.2)::(6,.int .u32 s6.2)::f) [999] (fun s6 y6 l=>.r y6.1 s6.1.length y6.2 199 1 (s6.1.flatMap Er)::l);exact kk
  ·intro s6 y6 hx;exact au
  ·intro _ hx;try (refine pre ?_;intros;rename_i hx)
   apply Lr (γ:=Option Addr × Nat) hx [0,1,21] (fun s0 y0 f=>(5,.slice y0.1 s0.1.length y0.2)::(6,.int .u32 s0.2.1)::(22,iq s0.2.2)::f) [999] (fun s0 y0 l=>.r y0.1 s0.1.length y0.2 199 1 (s0.1.flatMap Er)::l) (_,_);exact kk;exact sk;intro s0 y0 x0 hx _;unfold Kg at hx;exact au
 ·intro _ hx;exact au⟩
instance(p0:List Int)(p1:List Int):ConB (Mw p0 p1) prog 315 (fun K vs=>∃ U0 E0 U1 E1,vs=[.slice U0 p0.length E0,.slice U1 p1.length E1]/\Has K U0 p0.length E0 1 Er p0/\Has K U1 p1.length E1 1 Er p1/\True) (fun K r=>fun v Ln=>∃ A0 c0 e,v = .slice A0 r.length c0/\Ln=[e]/\Has (K++[e]) A0 r.length c0 1 Er r/\True):=⟨by
 rintro K _ r ⟨U0,E0,U1,E1,rfl,ha0,ha1,-⟩ hx w hK;unfold Mw at hx;refine CtS ntmps315 results315 ?_;try (refine pre ?_;intros;rename_i hx)
 refine Bf ?_;try (refine pre ?_;intros;rename_i hx)
 apply Jr (γ:=Option Addr × Nat) hx [] (fun s4 y4 f=>(5,.slice y4.1 s4.length y4.2)::f) [999] (fun s4 y4 l=>.r y4.1 s4.length y4.2 199 1 (s4.flatMap Er)::l);exact kk
 ·intro s4 y4 hx;exact au
 ·intro _ hx;try (refine pre ?_;intros;rename_i hx)
  apply Lr (γ:=Option Addr × Nat) hx [0,1,13] (fun s0 y0 f=>(5,.slice y0.1 s0.1.length y0.2)::(6,.int .u32 s0.2.1)::(14,iq s0.2.2)::f) [999] (fun s0 y0 l=>.r y0.1 s0.1.length y0.2 199 1 (s0.1.flatMap Er)::l) (_,_);exact kk;exact sk;intro s0 y0 x0 hx _;unfold Nn at hx;exact au⟩
instance(p0:Bt)(p1:Bt):ConB (Jy p0 p1) prog 288 (fun K vs=>∃ U0 E0 U1 E1 U2 E2 U3 E3,vs=[.agg #[.bool p0.neg,.slice U0 p0.n.length E0,.slice U1 p0.d.length E1],.agg #[.bool p1.neg,.slice U2 p1.n.length E2,.slice U3 p1.d.length E3]]/\Has K U0 p0.n.length E0 1 Er p0.n/\Has K U1 p0.d.length E1 1 Er p0.d/\Has K U2 p1.n.length E2 1 Er p1.n/\Has K U3 p1.d.length E3 1 Er p1.d/\True) (fun K r=>fun v Ln=>∃ A0 c0 A2 c2 e,v = .agg #[.bool r.neg,.slice A0 r.n.length c0,.slice A2 r.d.length c2]/\Ln=[e]/\Has (K++[e]) A0 r.n.length c0 1 Er r.n/\Has (K++[e]) A2 r.d.length c2 1 Er r.d/\True):=⟨by
 rintro K _ r ⟨U0,E0,U1,E1,U2,E2,U3,E3,rfl,ha0,ha1,ha2,ha3,-⟩ hx w hK;unfold Jy at hx;have:=dl 1 [0,1,0,1,0,0,1,0,1,2,0,1,0,1,2,0,3] [0,1,2,3,4,5,6,7,8,10,11,12,13,9,14,15,16];refine CtS ntmps288 results288 ?_;exact au⟩
instance(p0:Bt)(p1:Bt):ConB (Pw p0 p1) prog 289 (fun K vs=>∃ U0 E0 U1 E1 U2 E2 U3 E3,vs=[.agg #[.bool p0.neg,.slice U0 p0.n.length E0,.slice U1 p0.d.length E1],.agg #[.bool p1.neg,.slice U2 p1.n.length E2,.slice U3 p1.d.length E3]]/\Has K U0 p0.n.length E0 1 Er p0.n/\Has K U1 p0.d.length E1 1 Er p0.d/\Has K U2 p1.n.length E2 1 Er p1.n/\Has K U3 p1.d.length E3 1 Er p1.d/\True) (fun K r=>fun v Ln=>∃ A0 c0 A2 c2 e,v = .agg #[.bool r.neg,.slice A0 r.n.length c0,.slice A2 r.d.length c2]/\Ln=[e]/\Has (K++[e]) A0 r.n.length c0 1 Er r.n/\Has (K++[e]) A2 r.d.length c2 1 Er r.d/\True):=⟨by
 rintro K _ r ⟨U0,E0,U1,E1,U2,E2,U3,E3,rfl,ha0,ha1,ha2,ha3,-⟩ hx w hK;unfold Pw at hx;have:=dl 1 [0,1,0,1,2,0,1,0,1,2,2,2] [0,1,2,3,5,6,7,8,4,9,10,11];have:=dl 4 [0,1,0,0,2,0,0,3] [0,1,2,3,5,4,6,7];have:=dl 6 [0,1,0,0,2,0,0,3] [0,1,2,3,5,4,6,7];have:=dl 7 [0,1,0,0,2,0,0,3] [0,1,2,3,5,4,6,7];refine CtS ntmps289 results289 ?_;try (refine pre ?_;intros;rename_i hx)
 refine Cq3 (s:=27) hx rfl (fun _ hx=>?_) (fun _ hx=>?_)
 ·exact au
 ·exact au⟩
instance(p0:Bt):Con (Np p0) prog 290 (fun K vs=>∃ U0 E0 U1 E1,vs=[.agg #[.bool p0.neg,.slice U0 p0.n.length E0,.slice U1 p0.d.length E1]]/\Has K U0 p0.n.length E0 1 Er p0.n/\Has K U1 p0.d.length E1 1 Er p0.d/\True) (fun _ r=>fun v Ln=>v = iq r/\Ln=[]/\True):=⟨by
 rintro K _ r ⟨U0,E0,U1,E1,rfl,ha0,ha1,-⟩ hx w hK;replace ha0:=Has.lo ha0 hK;replace ha1:=Has.lo ha1 hK;unfold Np at hx;refine CtS ntmps290 results290 ?_;exact au⟩
instance(p0:Int):ConB (Lz p0) prog 286 (fun _ vs=>vs=[iq p0]) (fun K r=>fun v Ln=>∃ A0 c0 A2 c2 e,v = .agg #[.bool r.neg,.slice A0 r.n.length c0,.slice A2 r.d.length c2]/\Ln=[e]/\Has (K++[e]) A0 r.n.length c0 1 Er r.n/\Has (K++[e]) A2 r.d.length c2 1 Er r.d/\True):=⟨by
 rintro K _ r rfl hx w hK;unfold Lz at hx;refine CtS ntmps286 results286 ?_;exact au⟩
instance(p0:List Aa):Con (Qy p0) prog 267 (fun K vs=>∃ U0 E0,vs=[.slice U0 p0.length E0]/\Has K U0 p0.length E0 2 Mg p0/\True) (fun _ r=>fun v Ln=>v = .bool r/\Ln=[]/\True):=⟨by
 rintro K _ r ⟨U0,E0,rfl,ha0,-⟩ hx w hK;replace ha0:=Has.lo ha0 hK;unfold Qy at hx;refine CtS ntmps267 results267 ?_;try (refine pre ?_;intros;rename_i hx)
 refine Bf ?_;try (refine pre ?_;intros;rename_i hx)
 apply Jr (γ:=Unit) hx [] (fun s2 y2 f=>f) [999] (fun s2 y2 l=>l);exact kk
 ·intro s2 y2 hx;exact au
 ·intro _ hx;try (refine pre ?_;intros;rename_i hx)
  apply Lr (γ:=Unit) hx [5,6] (fun s0 y0 f=>(7,iq s0)::f) [999] (fun s0 y0 l=>l) ();exact kk;exact sk;intro s0 y0 x0 hx _;unfold Mb at hx;try (refine pre ?_;intros;rename_i hx)
  refine Cq1 (s:=8) hx rfl (fun _ hx=>?_) (fun _ hx=>?_)
  ·try (refine pre ?_;intros;rename_i hx)
   apply Jr (γ:=Unit) hx [5,6,7] (fun s1 y1 f=>(28,.bool s1)::f) [999] (fun s1 y1 l=>l);exact kk
   ·intro s1 y1 hx;exact au
   ·intro _ hx;exact au
  ·exact au⟩
instance(p0:Int):Con (Mc p0) prog 268 (fun _ vs=>vs=[iq p0]) (fun _ r=>fun v Ln=>v = iq r/\Ln=[]/\True):=⟨by
 rintro _ _ r rfl hx w hK;unfold Mc at hx;refine CtS ntmps268 results268 ?_;exact au⟩
instance(p0:Aa)(p1:Aa)(p2:Aa):Con (Mj p0 p1 p2) prog 269 (fun _ vs=>vs=[.agg #[iq p0.X,iq p0.Y],.agg #[iq p1.X,iq p1.Y],.agg #[iq p2.X,iq p2.Y]]) (fun _ r=>fun v Ln=>v = iq r/\Ln=[]/\True):=⟨by
 rintro _ _ r rfl hx w hK;unfold Mj at hx;refine CtS ntmps269 results269 ?_;exact au⟩
instance(p0:Aa)(p1:Aa)(p2:Aa):Con (Tn p0 p1 p2) prog 230 (fun _ vs=>vs=[.agg #[iq p0.X,iq p0.Y],.agg #[iq p1.X,iq p1.Y],.agg #[iq p2.X,iq p2.Y]]) (fun _ r=>fun v Ln=>v = .tuple #[iq r.1,iq r.2]/\Ln=[]/\True):=⟨by
 rintro _ _ r rfl hx w hK;unfold Tn at hx;refine CtS ntmps230 results230 ?_;exact au⟩
instance(p0:Aa)(p1:Aa):Con (Sa p0 p1) prog 287 (fun _ vs=>vs=[.agg #[iq p0.X,iq p0.Y],.agg #[iq p1.X,iq p1.Y]]) (fun _ r=>fun v Ln=>v = iq r/\Ln=[]/\True):=⟨by
 rintro _ _ r rfl hx w hK;unfold Sa at hx;have:=dl 1 [0,1,0,1,0,0,1,0,1,0,2,2] [0,1,2,3,4,5,6,7,8,9,10,11];refine CtS ntmps287 results287 ?_;exact au⟩
instance(p0:Aa)(p1:Aa)(p2:Aa)(p3:Aa):Con (Sr p0 p1 p2 p3) prog 236 (fun _ vs=>vs=[.agg #[iq p0.X,iq p0.Y],.agg #[iq p1.X,iq p1.Y],.agg #[iq p2.X,iq p2.Y],.agg #[iq p3.X,iq p3.Y]]) (fun _ r=>fun v Ln=>v = .tuple #[iq r.1,iq r.2]/\Ln=[]/\True):=⟨by
 rintro _ _ r rfl hx w hK;unfold Sr at hx;have:=dl 6 [1,1,2,2,1,1,1,2,2,2,4,3] [0,1,4,5,6,2,3,7,8,9,10,11] [10];have:=dl 7 [1,1,1,2,2,1,1,1,2,2,2,2,3] [0,1,2,5,6,7,3,4,8,9,10,11,12];have:=dl 8 [1,1,1,2,2,1,1,1,2,2,2,2,3] [0,1,2,5,6,7,3,4,8,9,10,11,12];refine CtS ntmps236 results236 ?_;try (refine pre ?_;intros;rename_i hx)
 refine Cq4 (s:=18) hx rfl (fun _ hx=>?_) (fun _ hx=>?_)
 ·exact au
 ·try (refine pre ?_;intros;rename_i hx)
  refine Cq1 (s:=25) hx rfl (fun _ hx=>?_) (fun _ hx=>?_)
  ·exact au
  ·exact au⟩
instance(p0:Av):Con (Wl p0) prog 231 (fun _ vs=>vs=[.agg #[iq p0.Lo,iq p0.Hi]]) (fun _ r=>fun v Ln=>v = .bool r/\Ln=[]/\True):=⟨by
 rintro _ _ r rfl hx w hK;unfold Wl at hx;refine CtS ntmps231 results231 ?_;exact au⟩
instance Asi(p0:Ac):Con (Fs p0) prog 172 (fun _ vs=>vs=[.agg #[iq p0.X,iq p0.Y,iq p0.Z.Lo,iq p0.Z.Hi]]) (fun _ r=>fun v Ln=>v = .agg #[iq r.X,iq r.Y]/\Ln=[]/\True):=⟨by
 rintro _ _ r rfl hx w hK;unfold Fs at hx;refine CtS ntmps172 results172 ?_;exact au⟩
theorem Yn(p0:Ac){r:Aa}(hx:Fs p0=some r)(w:World):CtL prog 172 [.agg #[iq p0.X,iq p0.Y,iq p0.Z.Lo,iq p0.Z.Hi]] w fun v Ln=>v = .agg #[iq r.X,iq r.Y]/\Ln=[]/\True:=(Asi p0).h [] _ _ rfl hx w (fun _ h=>absurd h List.not_mem_nil)
instance Aiv(p0:Aa)(p1:Aa):Con (Fe p0 p1) prog 184 (fun _ vs=>vs=[.agg #[iq p0.X,iq p0.Y],.agg #[iq p1.X,iq p1.Y]]) (fun _ r=>fun v Ln=>v = .bool r/\Ln=[]/\True):=⟨by
 rintro _ _ r rfl hx w hK;unfold Fe at hx;refine CtS ntmps184 results184 ?_;exact au⟩
theorem Aad(p0:Aa)(p1:Aa){r:Bool}(hx:Fe p0 p1=some r)(w:World):CtL prog 184 [.agg #[iq p0.X,iq p0.Y],.agg #[iq p1.X,iq p1.Y]] w fun v Ln=>v = .bool r/\Ln=[]/\True:=(Aiv p0 p1).h [] _ _ rfl hx w (fun _ h=>absurd h List.not_mem_nil)
instance(p0:Aa)(p1:Aa)(p2:Aa):Con (Iy p0 p1 p2) prog 178 (fun _ vs=>vs=[.agg #[iq p0.X,iq p0.Y],.agg #[iq p1.X,iq p1.Y],.agg #[iq p2.X,iq p2.Y]]) (fun _ r=>fun v Ln=>v = iq r/\Ln=[]/\True):=⟨by
 rintro _ _ r rfl hx w hK;unfold Iy at hx;refine CtS ntmps178 results178 ?_;exact au⟩
instance(p0:Ac):Con (Xm p0) prog 171 (fun _ vs=>vs=[.agg #[iq p0.X,iq p0.Y,iq p0.Z.Lo,iq p0.Z.Hi]]) (fun _ r=>fun v Ln=>v = .bool r/\Ln=[]/\True):=⟨by
 rintro _ _ r rfl hx w hK;unfold Xm at hx;have:=dl 1 [1,2,1,2,1,2,2,0,0,0,2,2] [0,2,4,1,3,5,6,7,8,9,10,11];refine CtS ntmps171 results171 ?_;exact au⟩
instance Amf(p0:Int)(p1:Int):Con (Fy p0 p1) prog 173 (fun _ vs=>vs=[iq p0,iq p1]) (fun _ r=>fun v Ln=>v = .agg #[iq r.a0,iq r.a1]/\Ln=[]/\True):=⟨by
 rintro _ _ r rfl hx w hK;unfold Fy at hx;refine CtS ntmps173 results173 ?_;exact au⟩
theorem Akk(p0:Int)(p1:Int){r:Ab}(hx:Fy p0 p1=some r)(w:World):CtL prog 173 [iq p0,iq p1] w fun v Ln=>v = .agg #[iq r.a0,iq r.a1]/\Ln=[]/\True:=(Amf p0 p1).h [] _ _ rfl hx w (fun _ h=>absurd h List.not_mem_nil)
instance Akl(p0:Ab)(p1:Ab):Con (Vp p0 p1) prog 177 (fun _ vs=>vs=[.agg #[iq p0.a0,iq p0.a1],.agg #[iq p1.a0,iq p1.a1]]) (fun _ r=>fun v Ln=>v = iq r/\Ln=[]/\True):=⟨by
 rintro _ _ r rfl hx w hK;unfold Vp at hx;refine CtS ntmps177 results177 ?_;exact au⟩
theorem Aiw(p0:Ab)(p1:Ab){r:Int}(hx:Vp p0 p1=some r)(w:World):CtL prog 177 [.agg #[iq p0.a0,iq p0.a1],.agg #[iq p1.a0,iq p1.a1]] w fun v Ln=>v = iq r/\Ln=[]/\True:=(Akl p0 p1).h [] _ _ rfl hx w (fun _ h=>absurd h List.not_mem_nil)
instance(p0:Aa)(p1:Aa)(p2:Aa)(p3:Aa):Con (To p0 p1 p2 p3) prog 187 (fun _ vs=>vs=[.agg #[iq p0.X,iq p0.Y],.agg #[iq p1.X,iq p1.Y],.agg #[iq p2.X,iq p2.Y],.agg #[iq p3.X,iq p3.Y]]) (fun _ r=>fun v Ln=>v = .bool r/\Ln=[]/\True):=⟨by
 rintro _ _ r rfl hx w hK;unfold To at hx;refine CtS ntmps187 results187 ?_;try (refine pre ?_;intros;rename_i hx)
 refine Cq2 (s:=23) hx rfl (fun _ hx=>?_) (fun _ hx=>?_)
 ·exact au
 ·try (refine pre ?_;intros;rename_i hx)
  refine Bf ?_;try (refine pre ?_;intros;rename_i hx)
  apply Jr (γ:=Nat) hx [6,7] (fun s7 y7 f=>(11,.pointer (some ⟨y7,0,none⟩))::f) [1,2,999] (fun s7 y7 l=>.m y7 57 [iq s7.1,iq s7.2]::l);exact kk
  ·intro s7 y7 hx;exact au
  ·intro _ hx;try (refine pre ?_;intros;rename_i hx)
   apply Lr (γ:=Nat) hx [6,7,30] (fun s0 y0 f=>(11,.pointer (some ⟨y0,0,none⟩))::(31,iq s0.2.2)::f) [1,2,999] (fun s0 y0 l=>.m y0 57 [iq s0.1,iq s0.2.1]::l) _;exact kk;exact sk;intro s0 y0 x0 hx _;unfold Wy at hx;exact au⟩
end
end Go.Proofs.YthlkpgdfifnagaaGreat
