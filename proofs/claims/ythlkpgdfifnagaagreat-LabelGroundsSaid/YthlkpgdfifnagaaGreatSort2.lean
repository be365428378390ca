import Derived.Test.YthlkpgdfifnagaaGreatJ3
import Derived.Test.YthlkpgdfifnagaaGreatProg
set_option maxRecDepth 100000
set_option maxHeartbeats 1000000
namespace Go.Proofs.YthlkpgdfifnagaaGreat
open Go Go.RowKit Tryz
instance:Pp prog 284 199 1:=⟨.mk underlying284 (show prog.info? 199=some t199 from by kernel_rfl) kr⟩
instance:OneI prog 199:=⟨.mk underlying199 rfl (show prog.info? 199=some t199 from by kernel_rfl) kr⟩
instance(x0:Int)(x1:Int):Pq prog 284 2 [(0,.int .u32 x0),(1,.int .u32 x1)] 199 [.int .u32 x0,.int .u32 x1]:=⟨fun w=>kr⟩
instance:Ub prog 286 [.bool false,.slice none 0 0,.slice none 0 0]:=⟨⟨_,zeroValue286,rfl⟩⟩
instance:Cd prog 286 0 0:=⟨.mk underlying286 rfl rfl (show prog.info? 4=some Tryz.t4 from by kernel_rfl) (show Tryz.t4.size=1 from by kernel_rfl) rfl⟩
theorem one4:Vd prog 4:=.mk underlying4 rfl (show prog.info? 4=some Tryz.t4 from by kernel_rfl) kr
instance:OneI prog 4:=⟨one4⟩
instance:Cd prog 286 1 1:=⟨.mk underlying286 rfl rfl (show prog.info? 284=some t284 from by kernel_rfl) (show t284.size=1 from by kernel_rfl) rfl⟩
instance:OneI prog 284:=⟨.mk underlying284 rfl (show prog.info? 284=some t284 from by kernel_rfl) kr⟩
instance:Cd prog 286 2 2:=⟨.mk underlying286 rfl rfl (show prog.info? 284=some t284 from by kernel_rfl) (show t284.size=1 from by kernel_rfl) rfl⟩
instance(x0:Bool)(x1:Option Addr)(x2:Nat)(x3:Nat)(x4:Option Addr)(x5:Nat)(x6:Nat):Kb prog 286 [(0,.bool x0),(1,.slice x1 x2 x3),(2,.slice x4 x5 x6)] [.bool x0,.slice x1 x2 x3,.slice x4 x5 x6]:=⟨fun w=>kr⟩
instance:AggI prog 286 3:=⟨.mk underlying286 rfl (show prog.info? 286=some t286 from by kernel_rfl) kr⟩
instance(x0:Int):Pq prog 284 1 [(0,.int .u32 x0)] 199 [.int .u32 x0]:=⟨fun w=>kr⟩
instance(x0:Int)(x1:Int)(x2:Int)(x3:Int)(x4:Int)(x5:Int):Pq prog 58 3 [(0,.agg #[iq x0,iq x1]),(1,.agg #[iq x2,iq x3]),(2,.agg #[iq x4,iq x5])] 57 [iq x0,iq x1,iq x2,iq x3,iq x4,iq x5]:=⟨fun w=>kr⟩
instance(x0:Int)(x1:Int)(x2:Int)(x3:Int)(x4:Int)(x5:Int)(x6:Int)(x7:Int):Pq prog 58 4 [(0,.agg #[iq x0,iq x1]),(1,.agg #[iq x2,iq x3]),(2,.agg #[iq x4,iq x5]),(3,.agg #[iq x6,iq x7])] 57 [iq x0,iq x1,iq x2,iq x3,iq x4,iq x5,iq x6,iq x7]:=⟨fun w=>kr⟩
instance:Cd prog 108 0 0:=⟨.mk underlying108 rfl rfl (show prog.info? 3=some Tryz.t3 from by kernel_rfl) (show Tryz.t3.size=1 from by kernel_rfl) rfl⟩
instance:Cd prog 108 1 1:=⟨.mk underlying108 rfl rfl (show prog.info? 3=some Tryz.t3 from by kernel_rfl) (show Tryz.t3.size=1 from by kernel_rfl) rfl⟩
theorem Ae3:Qx prog 108 4:=.mk underlying108 rfl (show prog.info? 108=some t108 from by kernel_rfl) kr
instance:AggI prog 108 4:=⟨Ae3⟩
theorem Te:Hj prog 108 2 2:=.mk underlying108 rfl rfl (show prog.info? 28=some Tryz.t28 from by kernel_rfl) (show Tryz.t28.size=2 from by kernel_rfl) rfl
instance:Cd prog 108 2 2:=⟨Te⟩
theorem Acv:Qx prog 28 2:=.mk underlying28 rfl (show prog.info? 28=some Tryz.t28 from by kernel_rfl) kr
instance:AggI prog 28 2:=⟨Acv⟩
theorem Anm:Ol prog 103 [iq 0,iq 0]:=⟨_,zeroValue103,rfl⟩
instance:Ub prog 103 [iq 0,iq 0]:=⟨Anm⟩
theorem Tk(x0:Int)(x1:Int):Ui prog 103 [(0,iq x0),(1,iq x1)] [iq x0,iq x1]:=fun w=>kr
instance(x0:Int)(x1:Int):Kb prog 103 [(0,iq x0),(1,iq x1)] [iq x0,iq x1]:=⟨Tk _ _⟩
theorem Ann:Qx prog 103 2:=.arr underlying103 (show prog.info? 103=some t103 from by kernel_rfl) kr
instance:AggI prog 103 2:=⟨Ann⟩
theorem Sp:Ag9 prog 103 2 1:=.mk underlying103 (show prog.info? 3=some Tryz.t3 from by kernel_rfl) kr
instance:ArrI prog 103 2 1:=⟨Sp⟩
instance(x0:Int)(x1:Int)(x2:Int)(x3:Int)(x4:Int)(x5:Int):Kb prog 162 [(0,.agg #[iq x0,iq x1]),(1,.agg #[iq x2,iq x3]),(2,.agg #[iq x4,iq x5])] [iq x0,iq x1,iq x2,iq x3,iq x4,iq x5]:=⟨fun w=>kr⟩
theorem Bfg(a0:Int)(a1:Int)(b0:Int)(b1:Int):∀ w,(Op.equalIn 10000 57 (.agg #[iq a0,iq a1]) (.agg #[iq b0,iq b1])).run prog w = .ok (((a0 == b0) && ((a1 == b1) && true))) w :=
 EqF.struct underlying57 kr (.cons rfl (fun w=>kr) (fun w=>kr) (fun w=>run_equalIn_int w 9998 3 .i64 .i64 _ _ underlying3) (.cons rfl (fun w=>kr) (fun w=>kr) (fun w=>run_equalIn_int w 9998 3 .i64 .i64 _ _ underlying3) EqF.nil))
instance(a0:Int)(a1:Int)(b0:Int)(b1:Int):EqSI prog 57 [iq a0,iq a1] [iq b0,iq b1] (((a0 == b0) && ((a1 == b1) && true))):=⟨Bfg _ _ _ _,kr⟩
instance:UndI prog 284 (.slice 199):=⟨underlying284⟩
def Ez(x:Int):List Value:=[.int .u32 x]
instance(x0:Int):DecI Ez [.int .u32 x0] x0:=⟨rfl⟩
instance:EncI 199 Ez:=⟨trivial⟩
noncomputable def Re  : (List Int)->Option (Sum (List Int) (List Int)):=fun s0=>
 jn (fun (s6:Bool)=>
 if s6=true then (gd (0<=(w64 ((s0.length:Int)-1))/\(w64 ((s0.length:Int)-1))<=(s0.length:Int))<|
 some (.inl (subl s0 0 (w64 ((s0.length:Int)-1)))))
 else (some (.inr s0)))
 (fun j6=>if 0<(s0.length:Int) then (bnd (idx s0 (w64 ((s0.length:Int)-1))) fun x0=>
 j6 (decide (x0=0)))
 else (j6 false))
noncomputable def Fv(p0:List Int):Option (List Int):=
 jn (fun (s2:List Int)=>
 some s2)
 (fun j2=>bnd (lfix Re p0) fun t0=>
 j2 t0)
instance:UndI prog 167 (.int .u64):=⟨underlying167⟩
instance:UndI prog 199 (.int .u32):=⟨underlying199⟩
noncomputable def Uh(p0:Int):Option (List Int):=
 bnd (Fv ([wu32 p0,wu32 (shr_ .u64 p0 32)])) fun r3=>
 some r3
noncomputable def Ms(p0:Int)(p1:Int)(p2:Int):Option (Int × Int):=
 some (wu32 (wu64 ((wu64 ((wu64 p0)+(wu64 p1)))+(wu64 p2))),wu32 (shr_ .u64 (wu64 ((wu64 ((wu64 p0)+(wu64 p1)))+(wu64 p2))) 32))
noncomputable def Mu(p0:Int)(p1:Int)(p2:Int):Option (Int × Int):=
 some (wu32 ((wu32 (p0-p1))-p2),shr_ .u32 (Qt .u32 (Ch .u32 (Add .u32 (if IntKind.signed .u32 then -1 else IntKind.max .u32) p0) p1) (Ch .u32 (Add .u32 (if IntKind.signed .u32 then -1 else IntKind.max .u32) (Add .u32 p0 p1)) (wu32 ((wu32 (p0-p1))-p2)))) 31)
instance:MkI prog 284 199 1 4 Ez 0:=⟨t199,.int .u32 0,underlying284,kr,kr,rfl,kr,kr⟩
noncomputable def Kv(p1:List Int)(s0:List Int × Int)(x0:Int):(List Int × Int × Int)->Option (Sum (List Int × Int × Int) (List Int × Int)):=fun s1=>
 if s1.2.2<(p1.length:Int) then (bnd (idx p1 s1.2.2) fun x1=>
 bnd (idx s1.1 (w64 (s0.2+s1.2.2))) fun x2=>
 bnd (idx s1.1 (w64 (s0.2+s1.2.2))) fun x3=>
 some (.inl (setI s1.1 (w64 (s0.2+s1.2.2)) (wu32 (wu64 ((wu64 ((wu64 ((wu64 x0)*(wu64 x1)))+(wu64 x2)))+s1.2.1))),shr_ .u64 (wu64 ((wu64 ((wu64 ((wu64 x0)*(wu64 x1)))+(wu64 x2)))+s1.2.1)) 32,w64 (s1.2.2+1))))
 else (some (.inr (s1.1,s1.2.1)))
noncomputable def Kw(p0:List Int)(p1:List Int):(List Int × Int)->Option (Sum (List Int × Int) (List Int)):=fun s0=>
 if s0.2<(p0.length:Int) then (bnd (idx p0 s0.2) fun x0=>
 jn (fun (s1:List Int × Int)=>
 bnd (idx s1.1 (w64 (s0.2+(p1.length:Int)))) fun x1=>
 some (.inl (setI s1.1 (w64 (s0.2+(p1.length:Int))) (wu32 s1.2),w64 (s0.2+1))))
 (fun j0=>bnd (lfix (Kv p1 s0 x0) (s0.1,0,0)) fun t0=>
 j0 t0))
 else (some (.inr s0.1))
noncomputable def Eg(p0:List Int)(p1:List Int):Option (List Int):=
 gd ((0:Int)<=(w64 ((p0.length:Int)+(p1.length:Int)))/\4*Int.toNat (w64 ((p0.length:Int)+(p1.length:Int)))<=140737488355328)<|
 jn (fun (s3:List Int)=>
 bnd (Fv s3) fun r0=>
 some r0)
 (fun j3=>bnd (lfix (Kw p0 p1) (List.replicate (Int.toNat (w64 ((p0.length:Int)+(p1.length:Int)))) (0:Int),0)) fun t0=>
 j3 t0)
noncomputable def Sj(p0:List Int)(p1:List Int):Int->Option (Sum Int (Sum Unit Int)):=fun s0=>
 if 0<=s0 then (bnd (idx p0 s0) fun x0=>
 bnd (idx p1 s0) fun x1=>
 if x0=x1 then (some (.inl (w64 (s0-1))))
 else (bnd (idx p0 s0) fun x2=>
 bnd (idx p1 s0) fun x3=>
 if x2<x3 then (some (.inr (.inr (-1))))
 else (some (.inr (.inr 1)))))
 else (some (.inr (.inl ())))
noncomputable def Tf(p0:List Int)(p1:List Int):Option Int :=
 if (p0.length:Int)=(p1.length:Int) then (jn (fun (s8:Unit)=>
 some 0)
 (fun j8=>bnd (lfix (Sj p0 p1) (w64 ((p0.length:Int)-1))) fun t0=>
 (match t0 with
 | (.inl z0)=>j8 z0
 | (.inr z0)=>some z0
 )))
 else (if (p0.length:Int)<(p1.length:Int) then (some (-1))
 else (some 1))
noncomputable def Kx(s2:List Int × List Int):(List Int × Int × Int)->Option (Sum (List Int × Int × Int) (List Int × Int)):=fun s0=>
 if s0.2.2<(s2.1.length:Int) then (jn (fun (s1:Int)=>
 bnd (idx s2.1 s0.2.2) fun x0=>
 bnd (Ms x0 s1 s0.2.1) fun r0=>
 bnd (idx s0.1 s0.2.2) fun x1=>
 some (.inl (setI s0.1 s0.2.2 r0.1,r0.2,w64 (s0.2.2+1))))
 (fun j0=>if s0.2.2<(s2.2.length:Int) then (bnd (idx s2.2 s0.2.2) fun x2=>
 j0 x2)
 else (j0 0)))
 else (some (.inr (s0.1,s0.2.1)))
noncomputable def Qq(p0:List Int)(p1:List Int):Option (List Int):=
 jn (fun (s2:List Int × List Int)=>
 gd ((0:Int)<=(w64 ((s2.1.length:Int)+1))/\4*Int.toNat (w64 ((s2.1.length:Int)+1))<=140737488355328)<|
 jn (fun (s6:List Int × Int)=>
 bnd (idx s6.1 (s2.1.length:Int)) fun x0=>
 bnd (Fv (setI s6.1 (s2.1.length:Int) s6.2)) fun r0=>
 some r0)
 (fun j6=>bnd (lfix (Kx s2) (List.replicate (Int.toNat (w64 ((s2.1.length:Int)+1))) (0:Int),0,0)) fun t0=>
 j6 t0))
 (fun j2=>if (p0.length:Int)<(p1.length:Int) then (j2 (p1,p0))
 else (j2 (p0,p1)))
noncomputable def Pg(p0:List Int)(p1:List Int):(List Int × Int × Int)->Option (Sum (List Int × Int × Int) (List Int)):=fun s0=>
 if s0.2.2<(p0.length:Int) then (jn (fun (s1:Int)=>
 bnd (idx p0 s0.2.2) fun x0=>
 bnd (Mu x0 s1 s0.2.1) fun r0=>
 bnd (idx s0.1 s0.2.2) fun x1=>
 some (.inl (setI s0.1 s0.2.2 r0.1,r0.2,w64 (s0.2.2+1))))
 (fun j0=>if s0.2.2<(p1.length:Int) then (bnd (idx p1 s0.2.2) fun x2=>
 j0 x2)
 else (j0 0)))
 else (some (.inr s0.1))
noncomputable def Od(p0:List Int)(p1:List Int):Option (List Int):=
 gd ((0:Int)<=(p0.length:Int)/\4*Int.toNat (p0.length:Int)<=140737488355328)<|
 jn (fun (s4:List Int)=>
 bnd (Fv s4) fun r0=>
 some r0)
 (fun j4=>bnd (lfix (Pg p0 p1) (List.replicate (Int.toNat (p0.length:Int)) (0:Int),0,0)) fun t0=>
 j4 t0)
structure Cb where
 neg:Bool
 n:List Int
 d:List Int
noncomputable def Kk(p0:Cb)(p1:Cb):Option Cb :=
 bnd (Eg p0.n p1.n) fun r4=>
 bnd (Eg p0.d p1.d) fun r0=>
 some (⟨!(p0.neg == p1.neg),r4,r0⟩:Cb)
noncomputable def Qr(p0:Cb)(p1:Cb):Option Cb :=
 bnd (Eg p0.n p1.d) fun r4=>
 bnd (Eg p1.n p0.d) fun r0=>
 bnd (Eg p0.d p1.d) fun r1=>
 if (p0.neg == p1.neg)=true then (bnd (Qq r4 r0) fun r2=>
 some (⟨p0.neg,r2,r1⟩:Cb))
 else (bnd (Tf r4 r0) fun r3=>
 if 0<=r3 then (bnd (Od r4 r0) fun r5=>
 some (⟨p0.neg,r5,r1⟩:Cb))
 else (bnd (Od r0 r4) fun r6=>
 some (⟨p1.neg,r6,r1⟩:Cb)))
noncomputable def Ph(p0:Cb):Option Int :=
 if (p0.n.length:Int)=0 then (some 0)
 else (if p0.neg=true then (some (-1))
 else (some 1))
instance:UndI prog 3 (.int .i64):=⟨underlying3⟩
noncomputable def Mv(p0:Int):Option Cb :=
 if p0<0 then (bnd (Uh (wu64 ((wu64 (w64 (-(w64 (p0+1)))))+1))) fun r4=>
 some (⟨true,r4,[1]⟩:Cb))
 else (bnd (Uh (wu64 p0)) fun r0=>
 some (⟨false,r0,[1]⟩:Cb))
noncomputable def Mw(p0:List Ab):Int->Option (Sum Int (Sum Unit Bool)):=fun s0=>
 if s0<(p0.length:Int) then (bnd (idx p0 s0) fun x0=>
 jn (fun (s1:Bool)=>
 if s1=true then (some (.inr (.inr false)))
 else (some (.inl (w64 (s0+1)))))
 (fun j0=>if x0.X<(-268435456) then (j0 true)
 else (if 268435456<x0.X then (j0 true)
 else (if x0.Y<(-268435456) then (j0 true)
 else (j0 (decide (268435456<x0.Y)))))))
 else (some (.inr (.inl ())))
noncomputable def Sk(p0:List Ab):Option Bool :=
 jn (fun (s2:Unit)=>
 some true)
 (fun j2=>bnd (lfix (Mw p0) 0) fun t0=>
 (match t0 with
 | (.inl z0)=>j2 z0
 | (.inr z0)=>some z0
 ))
noncomputable def Mx(p0:Int):Option Int :=
 if p0<0 then (some (-1))
 else (if 0<p0 then (some 1)
 else (some 0))
noncomputable def Ns(p0:Ab)(p1:Ab)(p2:Ab):Option Int :=
 some (w64 ((w64 ((w64 (p1.X-p0.X))*(w64 (p2.Y-p0.Y))))-(w64 ((w64 (p1.Y-p0.Y))*(w64 (p2.X-p0.X))))))
noncomputable def Vm(p0:Ab)(p1:Ab)(p2:Ab):Option (Int × Int):=
 bnd (Sk ([p0,p1,p2])) fun r6=>
 if r6=true then (bnd (Ns p0 p1 p2) fun r0=>
 bnd (Mx r0) fun r1=>
 some (r1,0))
 else (some (0,11))
noncomputable def Tv(p0:Ab)(p1:Ab):Option Int :=
 some (w64 ((w64 ((w64 (p0.X-p1.X))*(w64 (p0.X-p1.X))))+(w64 ((w64 (p0.Y-p1.Y))*(w64 (p0.Y-p1.Y))))))
noncomputable def Va(p0:Ab)(p1:Ab)(p2:Ab)(p3:Ab):Option (Int × Int):=
 bnd (Sk ([p0,p1,p2,p3])) fun r7=>
 if r7=true then (bnd (Ns p0 p1 p2) fun r0=>
 bnd (Mx r0) fun r1=>
 if r1=0 then (some (0,12))
 else (bnd (Tv p0 p3) fun r2=>
 bnd (Mv r2) fun r3=>
 bnd (Ns p3 p1 p2) fun r4=>
 bnd (Mv r4) fun r5=>
 bnd (Kk r3 r5) fun r6=>
 bnd (Tv p1 p3) fun r8=>
 bnd (Mv r8) fun r9=>
 bnd (Ns p3 p2 p0) fun r81=>
 bnd (Mv r81) fun r84=>
 bnd (Kk r9 r84) fun r98=>
 bnd (Qr r6 r98) fun r10=>
 bnd (Tv p2 p3) fun r11=>
 bnd (Mv r11) fun r12=>
 bnd (Ns p3 p0 p1) fun r14=>
 bnd (Mv r14) fun r15=>
 bnd (Kk r12 r15) fun r17=>
 bnd (Qr r10 r17) fun r18=>
 bnd (Ph r18) fun r19=>
 some (w64 (r1*r19),0)))
 else (some (0,11))
noncomputable def Zj(p0:Ax):Option Bool :=
 jn (fun (s2:Bool)=>
 some s2)
 (fun j2=>if (-1152921504606846976)<=p0.Lo then (if p0.Lo<=p0.Hi then (j2 (decide (p0.Hi<=1152921504606846976)))
 else (j2 false))
 else (j2 false))
noncomputable def Oj(p0:Ad):Option Ab :=
 some (⟨p0.X,p0.Y⟩:Ab)
noncomputable def Km(p0:Ab)(p1:Ab):Option Bool :=
 jn (fun (s2:Bool)=>
 some s2)
 (fun j2=>if p0.X<p1.X then (j2 true)
 else (if p0.X=p1.X then (j2 (decide (p0.Y<p1.Y)))
 else (j2 false)))
noncomputable def Sm(p0:Ab)(p1:Ab)(p2:Ab):Option Int :=
 bnd (Vm p0 p1 p2) fun r4=>
 some r4.1
noncomputable def Aap(p0:Ad):Option Bool :=
 bnd (Oj p0) fun r2=>
 bnd (Oj p0) fun r5=>
 bnd (Oj p0) fun r8=>
 bnd (Vm r2 r5 r8) fun r0=>
 jn (fun (s3:Bool)=>
 some s3)
 (fun j3=>if r0.2=0 then (bnd (Zj p0.Z) fun r1=>
 if r1=true then (if (-268435456)<=p0.Z.Lo then (j3 (decide (p0.Z.Hi<=268435456)))
 else (j3 false))
 else (j3 false))
 else (j3 false))
structure Ac where
 a0:Int
 a1:Int
noncomputable def Qs(p0:Int)(p1:Int):Option Ac :=
 some (⟨min p0 p1,max p0 p1⟩:Ac)
noncomputable def Yn(p0:Ac)(p1:Ac):Option Int :=
 if p0.a0=p1.a0 then (some (w64 (p0.a1-p1.a1)))
 else (some (w64 (p0.a0-p1.a0)))
theorem Bel(x0:Int)(x1:Int)(x2:Int)(x3:Int)(x4:Int)(x5:Int):Ami prog 162 [iq x0,iq x1,iq x2,iq x3,iq x4,iq x5] [.agg #[iq x0,iq x1],.agg #[iq x2,iq x3],.agg #[iq x4,iq x5]]:=by
 intro j h k w;have h':j<3:=h
 match j,h,h' with
 | 0,_,_=>exact (show (Instr.index 162 (.agg ([.int .i64 x0,.int .i64 x1,.int .i64 x2,.int .i64 x3,.int .i64 x4,.int .i64 x5]:List Value).toArray) (.int k ((0:Nat):Int))).run prog w = .ok (.agg #[.int .i64 x0,.int .i64 x1]) w by kernel_rfl)
 | 1,_,_=>exact (show (Instr.index 162 (.agg ([.int .i64 x0,.int .i64 x1,.int .i64 x2,.int .i64 x3,.int .i64 x4,.int .i64 x5]:List Value).toArray) (.int k ((1:Nat):Int))).run prog w = .ok (.agg #[.int .i64 x2,.int .i64 x3]) w by kernel_rfl)
 | 2,_,_=>exact (show (Instr.index 162 (.agg ([.int .i64 x0,.int .i64 x1,.int .i64 x2,.int .i64 x3,.int .i64 x4,.int .i64 x5]:List Value).toArray) (.int k ((2:Nat):Int))).run prog w = .ok (.agg #[.int .i64 x4,.int .i64 x5]) w by kernel_rfl)
instance(x0:Int)(x1:Int)(x2:Int)(x3:Int)(x4:Int)(x5:Int):Asc prog 162 [iq x0,iq x1,iq x2,iq x3,iq x4,iq x5] Ey [(⟨x0,x1⟩:Ab),(⟨x2,x3⟩:Ab),(⟨x4,x5⟩:Ab)]:=⟨Bel _ _ _ _ _ _⟩
noncomputable def Zu(p1:Ab)(p2:Ab)(p3:Ab):(Int × Int × Int)->Option (Sum (Int × Int × Int) (Int × Int)):=fun s0=>
 if s0.2.2<3 then (jn (fun (s1:Int × Int)=>
 some (.inl (s1.1,s1.2,w64 (s0.2.2+1))))
 (fun j0=>bnd (idx [p1,p2,p3] s0.2.2) fun x0=>
 bnd (Km x0 (⟨s0.1,s0.2.1⟩:Ab)) fun r0=>
 if r0=true then (j0 (x0.X,x0.Y))
 else (j0 (s0.1,s0.2.1))))
 else (some (.inr (s0.1,s0.2.1)))
noncomputable def Vn(p0:Ab)(p1:Ab)(p2:Ab)(p3:Ab):Option Bool :=
 bnd (Va p0 p1 p2 p3) fun r5=>
 if r5.1=0 then (jn (fun (s7:Int × Int)=>
 jn (fun (s0:Bool)=>
 some s0)
 (fun j0=>if (((s7.1 == p2.X) && ((s7.2 == p2.Y) && true)))=true then (j0 true)
 else (j0 ((s7.1 == p3.X) && ((s7.2 == p3.Y) && true)))))
 (fun j7=>bnd (lfix (Zu p1 p2 p3) (p0.X,p0.Y,0)) fun t0=>
 j7 t0))
 else (some (decide (r5.1<0)))
instance ratio_nat_norm_c(p0:List Int):ConB (Fv p0) prog 323 (fun K vs=>∃ U0 E0,vs=[.slice U0 p0.length E0]/\Has K U0 p0.length E0 1 Ez p0/\True) (fun K r=>fun v Ln=>∃ A0 c0 e,v = .slice A0 r.length c0/\Ln=[e]/\Has (K++[e]) A0 r.length c0 1 Ez r/\True):=⟨by
 rintro K _ r ⟨U0,E0,rfl,ha0,-⟩ hx w hK;unfold Fv at hx;refine CtS ntmps323 results323 ?_;try (refine pre ?_;intros;rename_i hx)
 refine Bl ?_;try (refine pre ?_;intros;rename_i hx)
 apply JrG (γ:=Option Addr × Nat) hx [] (fun s2 y2 f=>(0,.slice y2.1 s2.length y2.2)::f) [999] (fun s2 y2 l=>l) (fun s2 y2=>Has K y2.1 s2.length y2.2 1 Ez s2/\True);exact kk
 ·intro s2 y2 hx hG;obtain⟨_,-⟩:=hG;exact au
 ·intro _ hx;try (refine pre ?_;intros;rename_i hx)
  apply LrG (γ:=Option Addr × Nat) hx [] (fun s0 y0 f=>(0,.slice y0.1 s0.length y0.2)::f) [999] (fun s0 y0 l=>l) (fun s0 y0=>Has K y0.1 s0.length y0.2 1 Ez s0/\True) (_,_);exact kk;exact sF2;exact gG;exact pK2;intro s0 y0 x0 hx _ hG;obtain⟨_,-⟩:=hG;unfold Re at hx;exact au⟩
instance ratio_natOf_c(p0:Int):ConB (Uh p0) prog 311 (fun _ vs=>vs=[.int .u64 p0]) (fun K r=>fun v Ln=>∃ A0 c0 e,v = .slice A0 r.length c0/\Ln=[e]/\Has (K++[e]) A0 r.length c0 1 Ez r/\True):=⟨by
 rintro K _ r rfl hx w hK;unfold Uh at hx;refine CtS ntmps311 results311 ?_;exact au⟩
instance math_bits_Add32_c(p0:Int)(p1:Int)(p2:Int):Con (Ms p0 p1 p2) prog 324 (fun _ vs=>vs=[.int .u32 p0,.int .u32 p1,.int .u32 p2]) (fun _ r=>fun v Ln=>v = .tuple #[.int .u32 r.1,.int .u32 r.2]/\Ln=[]/\True):=⟨by
 rintro _ _ r rfl hx w hK;unfold Ms at hx;refine CtS ntmps324 results324 ?_;exact au⟩
instance math_bits_Sub32_c(p0:Int)(p1:Int)(p2:Int):Con (Mu p0 p1 p2) prog 325 (fun _ vs=>vs=[.int .u32 p0,.int .u32 p1,.int .u32 p2]) (fun _ r=>fun v Ln=>v = .tuple #[.int .u32 r.1,.int .u32 r.2]/\Ln=[]/\True):=⟨by
 rintro _ _ r rfl hx w hK;unfold Mu at hx;refine CtS ntmps325 results325 ?_;exact au⟩
instance ratio_nat_mul_c(p0:List Int)(p1:List Int):ConB (Eg p0 p1) prog 312 (fun K vs=>∃ U0 E0 U1 E1,vs=[.slice U0 p0.length E0,.slice U1 p1.length E1]/\Has K U0 p0.length E0 1 Ez p0/\Has K U1 p1.length E1 1 Ez p1/\True) (fun K r=>fun v Ln=>∃ A0 c0 e,v = .slice A0 r.length c0/\Ln=[e]/\Has (K++[e]) A0 r.length c0 1 Ez r/\True):=⟨by
 rintro K _ r ⟨U0,E0,U1,E1,rfl,ha0,ha1,-⟩ hx w hK;unfold Eg at hx;refine CtS ntmps312 results312 ?_;try (refine pre ?_;intros;rename_i hx)
 apply Jr (γ:=Option Addr × Nat) hx [] (fun s3 y3 f=>(5,.slice y3.1 s3.length y3.2)::f) [999] (fun s3 y3 l=>.r y3.1 s3.length y3.2 199 1 (s3.flatMap Ez)::l);exact kk
 ·intro s3 y3 hx;exact au
 ·intro _ hx;try (refine pre ?_;intros;rename_i hx)
  apply Lr (γ:=Option Addr × Nat) hx [1,18,19] (fun s0 y0 f=>(5,.slice y0.1 s0.1.length y0.2)::(20,iq s0.2)::f) [999] (fun s0 y0 l=>.r y0.1 s0.1.length y0.2 199 1 (s0.1.flatMap Ez)::l) (_,_);exact kk;exact sk;intro s0 y0 x0 hx _;unfold Kw at hx;try (refine pre ?_;intros;rename_i hx)
  refine Cq1 (s:=21) hx rfl (fun _ hx=>?_) (fun _ hx=>?_)
  ·try (refine pre ?_;intros;rename_i hx)
   refine Bl ?_;try (refine pre ?_;intros;rename_i hx)
   apply Jr (γ:=Option Addr × Nat) hx [1,6,18,19,20] (fun s1 y1 f=>(5,.slice y1.1 s1.1.length y1.2)::(8,.int .u64 s1.2)::f) [999] (fun s1 y1 l=>.r y1.1 s1.1.length y1.2 199 1 (s1.1.flatMap Ez)::l);exact kk
   ·intro s1 y1 hx;exact au
   ·intro _ hx;try (refine pre ?_;intros;rename_i hx)
    apply Lr (γ:=Option Addr × Nat) hx [1,6,7,18,19,20,25,26] (fun s2 y2 f=>(5,.slice y2.1 s2.1.length y2.2)::(8,.int .u64 s2.2.1)::(27,iq s2.2.2)::f) [999] (fun s2 y2 l=>.r y2.1 s2.1.length y2.2 199 1 (s2.1.flatMap Ez)::l) (_,_);exact kk;exact sk;intro s2 y2 x1 hx _;unfold Kv at hx;exact au
  ·exact au⟩
instance ratio_nat_cmp_c(p0:List Int)(p1:List Int):Con (Tf p0 p1) prog 314 (fun K vs=>∃ U0 E0 U1 E1,vs=[.slice U0 p0.length E0,.slice U1 p1.length E1]/\Has K U0 p0.length E0 1 Ez p0/\Has K U1 p1.length E1 1 Ez p1/\True) (fun _ r=>fun v Ln=>v = iq r/\Ln=[]/\True):=⟨by
 rintro K _ r ⟨U0,E0,U1,E1,rfl,ha0,ha1,-⟩ hx w hK;replace ha0:=Has.lo ha0 hK;replace ha1:=Has.lo ha1 hK;unfold Tf at hx;have:=dl 8 [0,0,0,1,0,0,0,1,0] [0,1,2,3,4,5,6,7,8];have:=dl 9 [0,0,0,1,0,0,0,1,0] [0,1,2,3,4,5,6,7,8];refine CtS ntmps314 results314 ?_;try (refine pre ?_;intros;rename_i hx)
 refine Cq2 (s:=10) hx rfl (fun _ hx=>?_) (fun _ hx=>?_)
 ·exact au
 ·try (refine pre ?_;intros;rename_i hx)
  apply Jr (γ:=Unit) hx [] (fun s8 y8 f=>f) [999] (fun s8 y8 l=>l);exact kk
  ·intro s8 y8 hx;exact au
  ·intro _ hx;try (refine pre ?_;intros;rename_i hx)
   apply Lr (γ:=Unit) hx [0,1] (fun s61 y61 f=>(5,iq s61)::f) [999] (fun s61 y61 l=>l) ();exact kk;exact sk;intro s61 y61 x61 hx _;unfold Sj at hx;exact au⟩
instance ratio_nat_add_c(p0:List Int)(p1:List Int):ConB (Qq p0 p1) prog 313 (fun K vs=>∃ U0 E0 U1 E1,vs=[.slice U0 p0.length E0,.slice U1 p1.length E1]/\Has K U0 p0.length E0 1 Ez p0/\Has K U1 p1.length E1 1 Ez p1/\True) (fun K r=>fun v Ln=>∃ A0 c0 e,v = .slice A0 r.length c0/\Ln=[e]/\Has (K++[e]) A0 r.length c0 1 Ez r/\True):=⟨by
 rintro K _ r ⟨U0,E0,U1,E1,rfl,ha0,ha1,-⟩ hx w hK;unfold Qq at hx;refine CtS ntmps313 results313 ?_;try (refine pre ?_;intros;rename_i hx)
 refine Bl ?_;try (refine pre ?_;intros;rename_i hx)
 apply JrG (γ:=Option Addr × Nat × Option Addr × Nat) hx [] (fun s2 y2 f=>(0,.slice y2.1 s2.1.length y2.2.1)::(1,.slice y2.2.2.1 s2.2.length y2.2.2.2)::f) [999] (fun s2 y2 l=>l) (fun s2 y2=>Has K y2.1 s2.1.length y2.2.1 1 Ez s2.1/\Has K y2.2.2.1 s2.2.length y2.2.2.2 1 Ez s2.2/\True);exact kk
 ·intro s2 y2 hx hG;obtain⟨_,_,-⟩:=hG;try (refine pre ?_;intros;rename_i hx)
  refine Bl ?_;try (refine pre ?_;intros;rename_i hx)
  apply Jr (γ:=Option Addr × Nat) hx [0] (fun s6 y6 f=>(5,.slice y6.1 s6.1.length y6.2)::(6,.int .u32 s6.2)::f) [999] (fun s6 y6 l=>.r y6.1 s6.1.length y6.2 199 1 (s6.1.flatMap Ez)::l);exact kk
  ·intro s6 y6 hx;exact au
  ·intro _ hx;try (refine pre ?_;intros;rename_i hx)
   apply Lr (γ:=Option Addr × Nat) hx [0,1,21] (fun s0 y0 f=>(5,.slice y0.1 s0.1.length y0.2)::(6,.int .u32 s0.2.1)::(22,iq s0.2.2)::f) [999] (fun s0 y0 l=>.r y0.1 s0.1.length y0.2 199 1 (s0.1.flatMap Ez)::l) (_,_);exact kk;exact sk;intro s0 y0 x0 hx _;unfold Kx at hx;exact au
 ·intro _ hx;exact au⟩
instance ratio_nat_sub_c(p0:List Int)(p1:List Int):ConB (Od p0 p1) prog 315 (fun K vs=>∃ U0 E0 U1 E1,vs=[.slice U0 p0.length E0,.slice U1 p1.length E1]/\Has K U0 p0.length E0 1 Ez p0/\Has K U1 p1.length E1 1 Ez p1/\True) (fun K r=>fun v Ln=>∃ A0 c0 e,v = .slice A0 r.length c0/\Ln=[e]/\Has (K++[e]) A0 r.length c0 1 Ez r/\True):=⟨by
 rintro K _ r ⟨U0,E0,U1,E1,rfl,ha0,ha1,-⟩ hx w hK;unfold Od at hx;refine CtS ntmps315 results315 ?_;try (refine pre ?_;intros;rename_i hx)
 refine Bl ?_;try (refine pre ?_;intros;rename_i hx)
 apply Jr (γ:=Option Addr × Nat) hx [] (fun s4 y4 f=>(5,.slice y4.1 s4.length y4.2)::f) [999] (fun s4 y4 l=>.r y4.1 s4.length y4.2 199 1 (s4.flatMap Ez)::l);exact kk
 ·intro s4 y4 hx;exact au
 ·intro _ hx;try (refine pre ?_;intros;rename_i hx)
  apply Lr (γ:=Option Addr × Nat) hx [0,1,13] (fun s0 y0 f=>(5,.slice y0.1 s0.1.length y0.2)::(6,.int .u32 s0.2.1)::(14,iq s0.2.2)::f) [999] (fun s0 y0 l=>.r y0.1 s0.1.length y0.2 199 1 (s0.1.flatMap Ez)::l) (_,_);exact kk;exact sk;intro s0 y0 x0 hx _;unfold Pg at hx;exact au⟩
instance ratio_Num_Mul_c(p0:Cb)(p1:Cb):ConB (Kk p0 p1) prog 288 (fun K vs=>∃ U0 E0 U1 E1 U2 E2 U3 E3,vs=[.agg #[.bool p0.neg,.slice U0 p0.n.length E0,.slice U1 p0.d.length E1],.agg #[.bool p1.neg,.slice U2 p1.n.length E2,.slice U3 p1.d.length E3]]/\Has K U0 p0.n.length E0 1 Ez p0.n/\Has K U1 p0.d.length E1 1 Ez p0.d/\Has K U2 p1.n.length E2 1 Ez p1.n/\Has K U3 p1.d.length E3 1 Ez p1.d/\True) (fun K r=>fun v Ln=>∃ A0 c0 A2 c2 e,v = .agg #[.bool r.neg,.slice A0 r.n.length c0,.slice A2 r.d.length c2]/\Ln=[e]/\Has (K++[e]) A0 r.n.length c0 1 Ez r.n/\Has (K++[e]) A2 r.d.length c2 1 Ez r.d/\True):=⟨by
 rintro K _ r ⟨U0,E0,U1,E1,U2,E2,U3,E3,rfl,ha0,ha1,ha2,ha3,-⟩ hx w hK;unfold Kk at hx;have:=dl 1 [0,1,0,1,0,0,1,0,1,2,0,1,0,1,2,0,3] [0,1,2,3,4,5,6,7,8,10,11,12,13,9,14,15,16];refine CtS ntmps288 results288 ?_;exact au⟩
instance ratio_Num_Add_c(p0:Cb)(p1:Cb):ConB (Qr p0 p1) prog 289 (fun K vs=>∃ U0 E0 U1 E1 U2 E2 U3 E3,vs=[.agg #[.bool p0.neg,.slice U0 p0.n.length E0,.slice U1 p0.d.length E1],.agg #[.bool p1.neg,.slice U2 p1.n.length E2,.slice U3 p1.d.length E3]]/\Has K U0 p0.n.length E0 1 Ez p0.n/\Has K U1 p0.d.length E1 1 Ez p0.d/\Has K U2 p1.n.length E2 1 Ez p1.n/\Has K U3 p1.d.length E3 1 Ez p1.d/\True) (fun K r=>fun v Ln=>∃ A0 c0 A2 c2 e,v = .agg #[.bool r.neg,.slice A0 r.n.length c0,.slice A2 r.d.length c2]/\Ln=[e]/\Has (K++[e]) A0 r.n.length c0 1 Ez r.n/\Has (K++[e]) A2 r.d.length c2 1 Ez r.d/\True):=⟨by
 rintro K _ r ⟨U0,E0,U1,E1,U2,E2,U3,E3,rfl,ha0,ha1,ha2,ha3,-⟩ hx w hK;unfold Qr at hx;have:=dl 1 [0,1,0,1,2,0,1,0,1,2,2,2] [0,1,2,3,5,6,7,8,4,9,10,11];have:=dl 4 [0,1,0,0,2,0,0,3] [0,1,2,3,5,4,6,7];have:=dl 6 [0,1,0,0,2,0,0,3] [0,1,2,3,5,4,6,7];have:=dl 7 [0,1,0,0,2,0,0,3] [0,1,2,3,5,4,6,7];refine CtS ntmps289 results289 ?_;try (refine pre ?_;intros;rename_i hx)
 refine Cq3 (s:=27) hx rfl (fun _ hx=>?_) (fun _ hx=>?_)
 ·exact au
 ·exact au⟩
instance ratio_Num_Sign_c(p0:Cb):Con (Ph p0) prog 290 (fun K vs=>∃ U0 E0 U1 E1,vs=[.agg #[.bool p0.neg,.slice U0 p0.n.length E0,.slice U1 p0.d.length E1]]/\Has K U0 p0.n.length E0 1 Ez p0.n/\Has K U1 p0.d.length E1 1 Ez p0.d/\True) (fun _ r=>fun v Ln=>v = iq r/\Ln=[]/\True):=⟨by
 rintro K _ r ⟨U0,E0,U1,E1,rfl,ha0,ha1,-⟩ hx w hK;replace ha0:=Has.lo ha0 hK;replace ha1:=Has.lo ha1 hK;unfold Ph at hx;refine CtS ntmps290 results290 ?_;exact au⟩
instance ratio_Int_c(p0:Int):ConB (Mv p0) prog 286 (fun _ vs=>vs=[iq p0]) (fun K r=>fun v Ln=>∃ A0 c0 A2 c2 e,v = .agg #[.bool r.neg,.slice A0 r.n.length c0,.slice A2 r.d.length c2]/\Ln=[e]/\Has (K++[e]) A0 r.n.length c0 1 Ez r.n/\Has (K++[e]) A2 r.d.length c2 1 Ez r.d/\True):=⟨by
 rintro K _ r rfl hx w hK;unfold Mv at hx;refine CtS ntmps286 results286 ?_;exact au⟩
instance exact_inside_c(p0:List Ab):Con (Sk p0) prog 267 (fun K vs=>∃ U0 E0,vs=[.slice U0 p0.length E0]/\Has K U0 p0.length E0 2 Np p0/\True) (fun _ r=>fun v Ln=>v = .bool r/\Ln=[]/\True):=⟨by
 rintro K _ r ⟨U0,E0,rfl,ha0,-⟩ hx w hK;replace ha0:=Has.lo ha0 hK;unfold Sk at hx;refine CtS ntmps267 results267 ?_;try (refine pre ?_;intros;rename_i hx)
 refine Bl ?_;try (refine pre ?_;intros;rename_i hx)
 apply Jr (γ:=Unit) hx [] (fun s2 y2 f=>f) [999] (fun s2 y2 l=>l);exact kk
 ·intro s2 y2 hx;exact au
 ·intro _ hx;try (refine pre ?_;intros;rename_i hx)
  apply Lr (γ:=Unit) hx [5,6] (fun s0 y0 f=>(7,iq s0)::f) [999] (fun s0 y0 l=>l) ();exact kk;exact sk;intro s0 y0 x0 hx _;unfold Mw at hx;try (refine pre ?_;intros;rename_i hx)
  refine Cq1 (s:=8) hx rfl (fun _ hx=>?_) (fun _ hx=>?_)
  ·try (refine pre ?_;intros;rename_i hx)
   apply Jr (γ:=Unit) hx [5,6,7] (fun s1 y1 f=>(28,.bool s1)::f) [999] (fun s1 y1 l=>l);exact kk
   ·intro s1 y1 hx;exact au
   ·intro _ hx;exact au
  ·exact au⟩
instance exact_sign_int__c(p0:Int):Con (Mx p0) prog 268 (fun _ vs=>vs=[iq p0]) (fun _ r=>fun v Ln=>v = iq r/\Ln=[]/\True):=⟨by
 rintro _ _ r rfl hx w hK;unfold Mx at hx;refine CtS ntmps268 results268 ?_;exact au⟩
instance exact_cross_c(p0:Ab)(p1:Ab)(p2:Ab):Con (Ns p0 p1 p2) prog 269 (fun _ vs=>vs=[.agg #[iq p0.X,iq p0.Y],.agg #[iq p1.X,iq p1.Y],.agg #[iq p2.X,iq p2.Y]]) (fun _ r=>fun v Ln=>v = iq r/\Ln=[]/\True):=⟨by
 rintro _ _ r rfl hx w hK;unfold Ns at hx;refine CtS ntmps269 results269 ?_;exact au⟩
instance exact_Turn_c(p0:Ab)(p1:Ab)(p2:Ab):Con (Vm p0 p1 p2) prog 230 (fun _ vs=>vs=[.agg #[iq p0.X,iq p0.Y],.agg #[iq p1.X,iq p1.Y],.agg #[iq p2.X,iq p2.Y]]) (fun _ r=>fun v Ln=>v = .tuple #[iq r.1,iq r.2]/\Ln=[]/\True):=⟨by
 rintro _ _ r rfl hx w hK;unfold Vm at hx;refine CtS ntmps230 results230 ?_;exact au⟩
instance exact_lift_c(p0:Ab)(p1:Ab):Con (Tv p0 p1) prog 287 (fun _ vs=>vs=[.agg #[iq p0.X,iq p0.Y],.agg #[iq p1.X,iq p1.Y]]) (fun _ r=>fun v Ln=>v = iq r/\Ln=[]/\True):=⟨by
 rintro _ _ r rfl hx w hK;unfold Tv at hx;have:=dl 1 [0,1,0,1,0,0,1,0,1,0,2,2] [0,1,2,3,4,5,6,7,8,9,10,11];refine CtS ntmps287 results287 ?_;exact au⟩
instance exact_Circle_c(p0:Ab)(p1:Ab)(p2:Ab)(p3:Ab):Con (Va p0 p1 p2 p3) prog 236 (fun _ vs=>vs=[.agg #[iq p0.X,iq p0.Y],.agg #[iq p1.X,iq p1.Y],.agg #[iq p2.X,iq p2.Y],.agg #[iq p3.X,iq p3.Y]]) (fun _ r=>fun v Ln=>v = .tuple #[iq r.1,iq r.2]/\Ln=[]/\True):=⟨by
 rintro _ _ r rfl hx w hK;unfold Va at hx;have:=dl 6 [1,1,2,2,1,1,1,2,2,2,4,3] [0,1,4,5,6,2,3,7,8,9,10,11] [10];have:=dl 7 [1,1,1,2,2,1,1,1,2,2,2,2,3] [0,1,2,5,6,7,3,4,8,9,10,11,12];have:=dl 8 [1,1,1,2,2,1,1,1,2,2,2,2,3] [0,1,2,5,6,7,3,4,8,9,10,11,12];refine CtS ntmps236 results236 ?_;try (refine pre ?_;intros;rename_i hx)
 refine Cq4 (s:=18) hx rfl (fun _ hx=>?_) (fun _ hx=>?_)
 ·exact au
 ·try (refine pre ?_;intros;rename_i hx)
  refine Cq1 (s:=25) hx rfl (fun _ hx=>?_) (fun _ hx=>?_)
  ·exact au
  ·exact au⟩
instance exact_Valid_c(p0:Ax):Con (Zj p0) prog 231 (fun _ vs=>vs=[.agg #[iq p0.Lo,iq p0.Hi]]) (fun _ r=>fun v Ln=>v = .bool r/\Ln=[]/\True):=⟨by
 rintro _ _ r rfl hx w hK;unfold Zj at hx;refine CtS ntmps231 results231 ?_;exact au⟩
instance Au3(p0:Ad):Con (Oj p0) prog 172 (fun _ vs=>vs=[.agg #[iq p0.X,iq p0.Y,iq p0.Z.Lo,iq p0.Z.Hi]]) (fun _ r=>fun v Ln=>v = .agg #[iq r.X,iq r.Y]/\Ln=[]/\True):=⟨by
 rintro _ _ r rfl hx w hK;unfold Oj at hx;refine CtS ntmps172 results172 ?_;exact au⟩
theorem Abf(p0:Ad){r:Ab}(hx:Oj p0=some r)(w:World):CtL prog 172 [.agg #[iq p0.X,iq p0.Y,iq p0.Z.Lo,iq p0.Z.Hi]] w fun v Ln=>v = .agg #[iq r.X,iq r.Y]/\Ln=[]/\True:=(Au3 p0).h [] _ _ rfl hx w (fun _ h=>absurd h List.not_mem_nil)
instance Ak0(p0:Ab)(p1:Ab):Con (Km p0 p1) prog 184 (fun _ vs=>vs=[.agg #[iq p0.X,iq p0.Y],.agg #[iq p1.X,iq p1.Y]]) (fun _ r=>fun v Ln=>v = .bool r/\Ln=[]/\True):=⟨by
 rintro _ _ r rfl hx w hK;unfold Km at hx;refine CtS ntmps184 results184 ?_;exact au⟩
theorem Acw(p0:Ab)(p1:Ab){r:Bool}(hx:Km p0 p1=some r)(w:World):CtL prog 184 [.agg #[iq p0.X,iq p0.Y],.agg #[iq p1.X,iq p1.Y]] w fun v Ln=>v = .bool r/\Ln=[]/\True:=(Ak0 p0 p1).h [] _ _ rfl hx w (fun _ h=>absurd h List.not_mem_nil)
instance mesh_turn_c(p0:Ab)(p1:Ab)(p2:Ab):Con (Sm p0 p1 p2) prog 178 (fun _ vs=>vs=[.agg #[iq p0.X,iq p0.Y],.agg #[iq p1.X,iq p1.Y],.agg #[iq p2.X,iq p2.Y]]) (fun _ r=>fun v Ln=>v = iq r/\Ln=[]/\True):=⟨by
 rintro _ _ r rfl hx w hK;unfold Sm at hx;refine CtS ntmps178 results178 ?_;exact au⟩
instance mesh_good_c(p0:Ad):Con (Aap p0) prog 171 (fun _ vs=>vs=[.agg #[iq p0.X,iq p0.Y,iq p0.Z.Lo,iq p0.Z.Hi]]) (fun _ r=>fun v Ln=>v = .bool r/\Ln=[]/\True):=⟨by
 rintro _ _ r rfl hx w hK;unfold Aap at hx;have:=dl 1 [1,2,1,2,1,2,2,0,0,0,2,2] [0,2,4,1,3,5,6,7,8,9,10,11];refine CtS ntmps171 results171 ?_;exact au⟩
instance Apg(p0:Int)(p1:Int):Con (Qs p0 p1) prog 173 (fun _ vs=>vs=[iq p0,iq p1]) (fun _ r=>fun v Ln=>v = .agg #[iq r.a0,iq r.a1]/\Ln=[]/\True):=⟨by
 rintro _ _ r rfl hx w hK;unfold Qs at hx;refine CtS ntmps173 results173 ?_;exact au⟩
theorem Ano(p0:Int)(p1:Int){r:Ac}(hx:Qs p0 p1=some r)(w:World):CtL prog 173 [iq p0,iq p1] w fun v Ln=>v = .agg #[iq r.a0,iq r.a1]/\Ln=[]/\True:=(Apg p0 p1).h [] _ _ rfl hx w (fun _ h=>absurd h List.not_mem_nil)
instance Anp(p0:Ac)(p1:Ac):Con (Yn p0 p1) prog 177 (fun _ vs=>vs=[.agg #[iq p0.a0,iq p0.a1],.agg #[iq p1.a0,iq p1.a1]]) (fun _ r=>fun v Ln=>v = iq r/\Ln=[]/\True):=⟨by
 rintro _ _ r rfl hx w hK;unfold Yn at hx;refine CtS ntmps177 results177 ?_;exact au⟩
theorem Zv(p0:Ac)(p1:Ac){r:Int}(hx:Yn p0 p1=some r)(w:World):CtL prog 177 [.agg #[iq p0.a0,iq p0.a1],.agg #[iq p1.a0,iq p1.a1]] w fun v Ln=>v = iq r/\Ln=[]/\True:=(Anp p0 p1).h [] _ _ rfl hx w (fun _ h=>absurd h List.not_mem_nil)
instance mesh_legal_c(p0:Ab)(p1:Ab)(p2:Ab)(p3:Ab):Con (Vn p0 p1 p2 p3) prog 187 (fun _ vs=>vs=[.agg #[iq p0.X,iq p0.Y],.agg #[iq p1.X,iq p1.Y],.agg #[iq p2.X,iq p2.Y],.agg #[iq p3.X,iq p3.Y]]) (fun _ r=>fun v Ln=>v = .bool r/\Ln=[]/\True):=⟨by
 rintro _ _ r rfl hx w hK;unfold Vn at hx;refine CtS ntmps187 results187 ?_;try (refine pre ?_;intros;rename_i hx)
 refine Cq2 (s:=23) hx rfl (fun _ hx=>?_) (fun _ hx=>?_)
 ·exact au
 ·try (refine pre ?_;intros;rename_i hx)
  refine Bl ?_;try (refine pre ?_;intros;rename_i hx)
  apply Jr (γ:=Nat) hx [6,7] (fun s7 y7 f=>(11,.pointer (some ⟨y7,0,none⟩))::f) [1,2,999] (fun s7 y7 l=>.m y7 57 [iq s7.1,iq s7.2]::l);exact kk
  ·intro s7 y7 hx;exact au
  ·intro _ hx;try (refine pre ?_;intros;rename_i hx)
   apply Lr (γ:=Nat) hx [6,7,30] (fun s0 y0 f=>(11,.pointer (some ⟨y0,0,none⟩))::(31,iq s0.2.2)::f) [1,2,999] (fun s0 y0 l=>.m y0 57 [iq s0.1,iq s0.2.1]::l) _;exact kk;exact sk;intro s0 y0 x0 hx _;unfold Zu at hx;exact au⟩
theorem Ww:Na prog 22 108 4:=.mk underlying22 (show prog.info? 108=some t108 from by kernel_rfl) kr
instance:Pp prog 22 108 4:=⟨Ww⟩
instance:Ub prog 108 [iq 0,iq 0,iq 0,iq 0]:=⟨⟨_,zeroValue108,rfl⟩⟩
instance:Pp prog 24 103 2:=⟨.mk underlying24 (show prog.info? 103=some t103 from by kernel_rfl) kr⟩
theorem Rz:Na prog 42 3 1:=.mk underlying42 (show prog.info? 3=some Tryz.t3 from by kernel_rfl) kr
instance:Pp prog 42 3 1:=⟨Rz⟩
theorem Vo:Ag9 prog 101 3 1:=.mk underlying101 (show prog.info? 3=some Tryz.t3 from by kernel_rfl) kr
instance:ArrI prog 101 3 1:=⟨Vo⟩
theorem Yo:Vd prog 22:=.mk underlying22 rfl (show prog.info? 22=some Tryz.t22 from by kernel_rfl) kr
instance:OneI prog 22:=⟨Yo⟩
instance:UndI prog 22 (.slice 108):=⟨underlying22⟩
instance:UndI prog 203 (.map 57 4):=⟨underlying203⟩
noncomputable def Ky(p0:List Ad):Int->Option (Sum Int (Sum Unit Int)):=fun s0=>
 if s0<(p0.length:Int) then (bnd (idx p0 s0) fun x0=>
 bnd (Aap x0) fun r0=>
 if r0=true then (some (.inl (w64 (s0+1))))
 else (some (.inr (.inr 60))))
 else (some (.inr (.inl ())))
noncomputable def Rg(p0:List Ad):((List (Ab × Bool)) × Int)->Option (Sum ((List (Ab × Bool)) × Int) (Sum Unit Int)):=fun s0=>
 if s0.2<(p0.length:Int) then (bnd (idx p0 s0.2) fun x0=>
 bnd (Oj x0) fun r0=>
 gd ((-9223372036854775808<=r0.X/\r0.X<=9223372036854775807)/\(-9223372036854775808<=r0.Y/\r0.Y<=9223372036854775807))<|
 bnd (some ((mget s0.1 r0).getD false)) fun x1=>
 if x1=true then (some (.inr (.inr 61)))
 else (bnd (Oj x0) fun r1=>
 gd ((-9223372036854775808<=r1.X/\r1.X<=9223372036854775807)/\(-9223372036854775808<=r1.Y/\r1.Y<=9223372036854775807))<|
 gd (s0.1.length<9223372036854775807)<|
 some (.inl (mput s0.1 r1 true,w64 (s0.2+1)))))
 else (some (.inr (.inl ())))
noncomputable def Tg(p0:List Ad):Option Int :=
 if 1024<(p0.length:Int) then (some 2)
 else (jn (fun (s5:Unit)=>
 jn (fun (s0:Unit)=>
 some 0)
 (fun j0=>bnd (lfix (Rg p0) (([]:List (Ab × Bool)),0)) fun t0=>
 (match t0 with
 | (.inl z0)=>j0 z0
 | (.inr z0)=>some z0
 )))
 (fun j5=>bnd (lfix (Ky p0) 0) fun t1=>
 (match t1 with
 | (.inl z1)=>j5 z1
 | (.inr z1)=>some z1
 )))
def Ak(x:Ad):List Value:=[iq x.X,iq x.Y,iq x.Z.Lo,iq x.Z.Hi]
instance(x0:Int)(x1:Int)(x2:Int)(x3:Int):DecI Ak [iq x0,iq x1,iq x2,iq x3] (⟨x0,x1,⟨x2,x3⟩⟩):=⟨rfl⟩
instance:EncI 108 Ak:=⟨trivial⟩
def Ao(x:Ac):Value:=.agg #[iq x.a0,iq x.a1]
theorem Fw(x y:Ac)(h:Ao x=Ao y):x=y:=by
 rcases x with⟨_,_⟩;rcases y with⟨_,_⟩;simp[Ao] at h;simp[h]
instance(x:Ac):UnfI Ao x (.agg #[iq x.a0,iq x.a1]):=⟨rfl⟩
instance(x0:Int)(x1:Int):Ab7 Ao (.agg #[iq x0,iq x1]) (⟨x0,x1⟩):=⟨rfl⟩
instance:ValI prog 103 Ao ((⟨0,0⟩:Ac)):=⟨Fw,fun w=>kr⟩
theorem Bbg:(match prog.underlying 103 with | some (.array _ _) | some (.struct _)=>true | _=>false)=true:=kr
theorem Abg:Maps.Keyed prog 103:=Maps.Keyed.of_law (deep_law_laid Aou (m:=3) oo (of_decide_eq_true kr) kr Bbg)
theorem Aq7(x:Ac)(h:(-9223372036854775808<=x.a0/\x.a0<=9223372036854775807)/\(-9223372036854775808<=x.a1/\x.a1<=9223372036854775807)):(keyOf prog 103 (Ao x)).isSome=true:=by
 refine Atp (zs:=[x.a0,x.a1]) (d:=333) kr underlying103 kr rfl underlying3 kr kr (fun z hz=>?_);simp only[List.mem_cons,List.not_mem_nil,or_false] at hz;rcases hz with rfl | rfl
 ·exact Ajz h.1
 ·exact Ajz h.2
instance:KeyI prog 103 Ao (fun x=>(-9223372036854775808<=x.a0/\x.a0<=9223372036854775807)/\(-9223372036854775808<=x.a1/\x.a1<=9223372036854775807)):=⟨Abg,Fw,Aq7⟩
instance:UndI prog 154 (.map 103 4):=⟨underlying154⟩
instance:UndI prog 24 (.slice 103):=⟨underlying24⟩
def Ar(x:Ac):List Value:=[iq x.a0,iq x.a1]
instance(x0:Int)(x1:Int):DecI Ar [iq x0,iq x1] (⟨x0,x1⟩):=⟨rfl⟩
instance:EncI 103 Ar:=⟨trivial⟩
noncomputable def Tw(p1:List Ac):((List (Ac × Bool)) × Int)->Option (Sum ((List (Ac × Bool)) × Int) Unit):=fun s6=>
 if s6.2<(p1.length:Int) then none
 else (some (.inr ()))
noncomputable def Sq(p1:List Ac):Int->Option (Sum Int Unit):=fun s0=>
 if s0<(p1.length:Int) then none
 else (some (.inr ()))
noncomputable def Qo(p0:List Ad)(p1:List Ac):Option Int :=
 jn (fun (s3:Unit)=>
 jn (fun (s9:Unit)=>
 some 0)
 (fun j9=>bnd (lfix (Sq p1) 0) fun t0=>
 j9 t0))
 (fun j3=>bnd (lfix (Tw p1) (([]:List (Ac × Bool)),0)) fun t6=>
 j3 t6)
noncomputable def Sa(p0:Int):Option Bool :=
 some (!(decide (p0=p0)))
noncomputable def Pi(p0:Int)(p1:Int):Option Int :=
 bnd (Sa p0) fun r1=>
 bnd (Sa p1) fun r4=>
 if r1=true then (if r4=true then (some 0)
 else (some (-1)))
 else (if r4=true then (some 1)
 else (if p0<p1 then (some (-1))
 else (if p1<p0 then (some 1)
 else (some 0))))
instance:UndI prog 42 (.slice 3):=⟨underlying42⟩
noncomputable def Cc(p0:List Int)(p1:List Int):Int->Option (Sum Int (Sum Unit Int)):=fun s0=>
 if s0<(p0.length:Int) then (bnd (idx p0 s0) fun x0=>
 if (p1.length:Int)<=s0 then (some (.inr (.inr 1)))
 else (bnd (idx p1 s0) fun x1=>
 bnd (Pi x0 x1) fun r0=>
 if r0=0 then (some (.inl (w64 (s0+1))))
 else (some (.inr (.inr r0)))))
 else (some (.inr (.inl ())))
noncomputable def Hk(p0:List Int)(p1:List Int):Option Int :=
 jn (fun (s2:Unit)=>
 if (p0.length:Int)<(p1.length:Int) then (some (-1))
 else (some 0))
 (fun j2=>bnd (lfix (Cc p0 p1) 0) fun t0=>
 (match t0 with
 | (.inl z0)=>j2 z0
 | (.inr z0)=>some z0
 ))
structure Aj where
 a0:Int
 a1:Int
 a2:Int
noncomputable def Fy(p0:Aj)(p1:Aj):Option Int :=
 bnd (Hk ([p0.a0,p0.a1,p0.a2]) ([p1.a0,p1.a1,p1.a2])) fun r5=>
 some r5
noncomputable def Xh(p0:Int)(p1:Int)(p2:List Ad):Option Int :=
 bnd (idx p2 p0) fun x1=>
 bnd (idx p2 p1) fun x0=>
 bnd (Oj x1) fun r0=>
 bnd (Oj x0) fun r1=>
 bnd (Km r0 r1) fun r2=>
 if r2=true then (some (-1))
 else (bnd (idx p2 p1) fun x2=>
 bnd (idx p2 p0) fun x3=>
 bnd (Oj x2) fun r3=>
 bnd (Oj x3) fun r4=>
 bnd (Km r3 r4) fun r5=>
 if r5=true then (some 1)
 else (some 0))
def Aw(x:Aj):List Value:=[iq x.a0,iq x.a1,iq x.a2]
instance(x0:Int)(x1:Int)(x2:Int):DecI Aw [iq x0,iq x1,iq x2] (⟨x0,x1,x2⟩):=⟨rfl⟩
instance:EncI 101 Aw:=⟨trivial⟩
instance mesh_vertices_c(p0:List Ad):Con (Tg p0) prog 123 (fun K vs=>∃ U0 E0,vs=[.slice U0 p0.length E0]/\Has K U0 p0.length E0 4 Ak p0/\True) (fun _ r=>fun v Ln=>v = iq r/\Ln=[]/\True):=⟨by
 rintro K _ r ⟨U0,E0,rfl,ha0,-⟩ hx w hK;replace ha0:=Has.lo ha0 hK;unfold Tg at hx;refine CtS ntmps123 results123 ?_;try (refine pre ?_;intros;rename_i hx)
 refine Cq1 (s:=10) hx rfl (fun _ hx=>?_) (fun _ hx=>?_)
 ·exact au
 ·try (refine pre ?_;intros;rename_i hx)
  apply Jr (γ:=Unit) hx [0] (fun s5 y5 f=>f) [999] (fun s5 y5 l=>l);exact kk
  ·intro s5 y5 hx;try (refine pre ?_;intros;rename_i hx)
   refine Bl ?_;try (refine pre ?_;intros;rename_i hx)
   apply Jr (γ:=Unit) hx [] (fun s0 y0 f=>f) [999] (fun s0 y0 l=>l);exact kk
   ·intro s0 y0 hx;exact au
   ·intro _ hx;try (refine pre ?_;intros;rename_i hx)
    apply Lr (γ:=Nat) hx [22,23] (fun s1 y1 f=>(5,.map (some y1))::(24,iq s1.2)::f) [999] (fun s1 y1 l=>Ba prog 57 Ey Ce y1 s1.1::l) _;exact kk;exact sk;intro s1 y1 x0 hx _;unfold Rg at hx;exact au
  ·intro _ hx;try (refine pre ?_;intros;rename_i hx)
   apply Lr (γ:=Unit) hx [0,11,12] (fun s2 y2 f=>(13,iq s2)::f) [999] (fun s2 y2 l=>l) ();exact kk;exact sk;intro s2 y2 x1 hx _;unfold Ky at hx;exact au⟩
instance mesh_lineErrors_c(p0:List Ad)(p1:List Ac):Con (Qo p0 p1) prog 124 (fun K vs=>∃ U0 E0 U1 E1,vs=[.slice U0 p0.length E0,.slice U1 p1.length E1]/\Has K U0 p0.length E0 4 Ak p0/\Has K U1 p1.length E1 2 Ar p1/\True) (fun _ r=>fun v Ln=>v = iq r/\Ln=[]/\True):=⟨by
 rintro K _ r ⟨U0,E0,U1,E1,rfl,ha0,ha1,-⟩ hx w hK;replace ha0:=Has.lo ha0 hK;replace ha1:=Has.lo ha1 hK;unfold Qo at hx;refine CtS ntmps124 results124 ?_;try (refine pre ?_;intros;rename_i hx)
 refine Bl ?_;try (refine pre ?_;intros;rename_i hx)
 refine Bl ?_;try (refine pre ?_;intros;rename_i hx)
 apply Jr (γ:=Unit) hx [0,1] (fun s3 y3 f=>f) [999] (fun s3 y3 l=>l);exact kk
 ·intro s3 y3 hx;apply Jr (γ:=Unit) hx [] (fun s9 y9 f=>f) [999] (fun s9 y9 l=>l);exact kk
  ·intro s9 y9 hx;exact au
  ·intro _ hx;try (refine pre ?_;intros;rename_i hx)
   apply Lr (γ:=Unit) hx [0,1,66,67] (fun s0 y0 f=>(68,iq s0)::f) [999] (fun s0 y0 l=>l) ();exact kk;exact sk;intro s0 y0 x0 hx _;unfold Sq at hx;exact au
 ·intro _ hx;try (refine pre ?_;intros;rename_i hx)
  apply Lr (γ:=Nat) hx [0,1,15,16] (fun s6 y6 f=>(5,.map (some y6))::(17,iq s6.2)::f) [999] (fun s6 y6 l=>Ba prog 103 Ao Ce y6 s6.1::l) _;exact kk;exact sk;intro s6 y6 x6 hx _;unfold Tw at hx;exact au⟩
instance cmp_isNaN_int__c(p0:Int):Con (Sa p0) prog 265 (fun _ vs=>vs=[iq p0]) (fun _ r=>fun v Ln=>v = .bool r/\Ln=[]/\True):=⟨by
 rintro _ _ r rfl hx w hK;unfold Sa at hx;refine CtS ntmps265 results265 ?_;exact au⟩
instance cmp_Compare_int__c(p0:Int)(p1:Int):Con (Pi p0 p1) prog 238 (fun _ vs=>vs=[iq p0,iq p1]) (fun _ r=>fun v Ln=>v = iq r/\Ln=[]/\True):=⟨by
 rintro _ _ r rfl hx w hK;unfold Pi at hx;refine CtS ntmps238 results238 ?_;exact au⟩
instance slices_Compare___int_int__c(p0:List Int)(p1:List Int):Con (Hk p0 p1) prog 190 (fun K vs=>∃ U0 E0 U1 E1,vs=[.slice U0 p0.length E0,.slice U1 p1.length E1]/\Has K U0 p0.length E0 1 Ag p0/\Has K U1 p1.length E1 1 Ag p1/\True) (fun _ r=>fun v Ln=>v = iq r/\Ln=[]/\True):=⟨by
 rintro K _ r ⟨U0,E0,U1,E1,rfl,ha0,ha1,-⟩ hx w hK;replace ha0:=Has.lo ha0 hK;replace ha1:=Has.lo ha1 hK;unfold Hk at hx;refine CtS ntmps190 results190 ?_;try (refine pre ?_;intros;rename_i hx)
 refine Bl ?_;try (refine pre ?_;intros;rename_i hx)
 apply Jr (γ:=Unit) hx [0,1] (fun s2 y2 f=>f) [999] (fun s2 y2 l=>l);exact kk
 ·intro s2 y2 hx;exact au
 ·intro _ hx;try (refine pre ?_;intros;rename_i hx)
  apply Lr (γ:=Unit) hx [0,1,9,10] (fun s0 y0 f=>(11,iq s0)::f) [999] (fun s0 y0 l=>l) ();exact kk;exact sk;intro s0 y0 x0 hx _;unfold Cc at hx;exact au⟩
instance Yp(p0:Aj)(p1:Aj):Con (Fy p0 p1) prog 189 (fun _ vs=>vs=[.agg #[iq p0.a0,iq p0.a1,iq p0.a2],.agg #[iq p1.a0,iq p1.a1,iq p1.a2]]) (fun _ r=>fun v Ln=>v = iq r/\Ln=[]/\True):=⟨by
 rintro _ _ r rfl hx w hK;unfold Fy at hx;have:=dl 1 [0,0,2,2] [0,1,2,3];refine CtS ntmps189 results189 ?_;exact au⟩
theorem Xi(p0:Aj)(p1:Aj){r:Int}(hx:Fy p0 p1=some r)(w:World):CtL prog 189 [.agg #[iq p0.a0,iq p0.a1,iq p0.a2],.agg #[iq p1.a0,iq p1.a1,iq p1.a2]] w fun v Ln=>v = iq r/\Ln=[]/\True:=(Yp p0 p1).h [] _ _ rfl hx w (fun _ h=>absurd h List.not_mem_nil)
theorem Ah3(p0:Int)(p1:Int)(p2:List Ad){K:List Ent}{U0:Option Addr}{E0:Nat}(ha0:Has K U0 p2.length E0 4 Ak p2){g0_2:Nat}(hp2:Pt K g0_2 0 [.slice U0 p2.length E0]){r:Int}(hx:Xh p0 p1 p2=some r)(w:World)(hK:∀ e∈K,Ent.ok w e):CtL prog 183 [iq p0,iq p1,.pointer (some ⟨g0_2,0,none⟩)] w fun v Ln=>v = iq r/\Ln=[]/\True:=by
 have ha0':=Has.up0 ha0;have hp2':=Pt.low (E:=[]) (Pt.up0 hp2) hK;refine CtL.mk 28 func183 rfl ntmps183 kr rfl ?_;show T 28 _ [(0,iq p0),(1,iq p1),(2,.pointer (some ⟨g0_2,0,none⟩))] _;unfold Xh at hx;refine Y7 ?_;refine T_dr [1,0,0,1,2,1,0,0,1,2,2] (.q 0 (.q 1 (.q 2 (.q 3 (.q 5 (.q 6 (.q 7 (.q 8 (.e 4 (.e 9 (.e 10 (.done) (.stop)) (.stop)) (.stop)))))))))) mixed kr kr ?_;refine P_q rfl rfl (Cx rfl hp2' (sb 0) rfl Yo) rfl ?_;refine Y ?_;obtain⟨x1,h2,hx3⟩:=An hx;refine P_il (Has.low (E:=[]) ha0' hK) h2 Ww Ae3 (sb 0) (fun b4 o5=>?_);refine P_q rfl rfl (Cx rfl hp2' (sb 0) rfl Yo) rfl ?_;refine Y ?_;obtain⟨x0,h0,hx0⟩:=An hx3;refine P_il (Has.low (E:=[]) ha0' hK) h0 Ww Ae3 (sb 0) (fun b0 o0=>?_);obtain⟨r0,h1,hx1⟩:=An hx0;refine Pc (fun w1 hw1=>Abf x1  h1 w1) ?_;obtain⟨r1,h3,hx2⟩:=An hx1;refine Pc (fun w1 hw1=>Abf x0  h3 w1) ?_;obtain⟨r2,h4,hx4⟩:=An hx2;refine Pc (fun w1 hw1=>Acw r0 r1  h4 w1) ?_;refine Y2 ?_;refine Io (s:=16) rfl (fun h5=>?_) (fun h5=>?_)
 ·have hx5:=Gp h5 hx4;refine Y8 ?_;obtain rfl:=Option.some.inj hx5;exact Cz (rs:=[.tmp 5]) results183 (.tmp rfl (.nil)) (Ln:=[]) ⟨rfl,rfl,trivial⟩ Co (by exact .refl)
 ·have hx6:=Kd h5 hx4;refine Y5 ?_;refine T_dr [1,0,0,1,2,1,0,0,1,2,2] (.q 0 (.q 1 (.q 2 (.q 3 (.q 5 (.q 6 (.q 7 (.q 8 (.e 4 (.e 9 (.e 10 (.done) (.stop)) (.stop)) (.stop)))))))))) mixed kr kr ?_;refine P_q rfl rfl (Cx rfl hp2' (sb 0) rfl Yo) rfl ?_;refine Y ?_;obtain⟨x2,h6,hx7⟩:=An hx6;refine P_il (Has.low (E:=[]) ha0' hK) h6 Ww Ae3 (sb 0) (fun b1 o1=>?_);refine P_q rfl rfl (Cx rfl hp2' (sb 0) rfl Yo) rfl ?_;refine Y ?_;obtain⟨x3,h7,hx8⟩:=An hx7;refine P_il (Has.low (E:=[]) ha0' hK) h7 Ww Ae3 (sb 0) (fun b2 o2=>?_);obtain⟨r3,h8,hx9⟩:=An hx8;refine Pc (fun w1 hw1=>Abf x2  h8 w1) ?_;obtain⟨r4,h9,hx62⟩:=An hx9;refine Pc (fun w1 hw1=>Abf x3  h9 w1) ?_;obtain⟨r5,h64,hx65⟩:=An hx62;refine Pc (fun w1 hw1=>Acw r3 r4  h64 w1) ?_;refine Y2 ?_;refine Io (s:=27) rfl (fun h66=>?_) (fun h66=>?_)
  ·have hx67:=Gp h66 hx65;refine Y8 ?_;obtain rfl:=Option.some.inj hx67;exact Cz (rs:=[.tmp 5]) results183 (.tmp rfl (.nil)) (Ln:=[]) ⟨rfl,rfl,trivial⟩ Co (by exact .refl)
  ·have hx68:=Kd h66 hx65;refine Y9 ?_;obtain rfl:=Option.some.inj hx68;exact Cz (rs:=[.tmp 5]) results183 (.tmp rfl (.nil)) (Ln:=[]) ⟨rfl,rfl,trivial⟩ Co (by exact .refl)
instance:Cd prog 156 0 0:=⟨.mk underlying156 rfl rfl (show prog.info? 22=some Tryz.t22 from by kernel_rfl) (show Tryz.t22.size=1 from by kernel_rfl) rfl⟩
theorem Aaq:Hj prog 156 1 1:=.mk underlying156 rfl rfl (show prog.info? 153=some t153 from by kernel_rfl) (show t153.size=1 from by kernel_rfl) rfl
instance:Cd prog 156 1 1:=⟨Aaq⟩
theorem Ag3:Vd prog 153:=.mk underlying153 rfl (show prog.info? 153=some t153 from by kernel_rfl) kr
instance:OneI prog 153:=⟨Ag3⟩
structure Am where
 v:List Ad
 apex:List (Ac × Int)
 fixed:List (Ac × Bool)
noncomputable def Bn(p0:Am)(p1:Int):Option Ab :=
 bnd (idx p0.v p1) fun x2=>
 bnd (Oj x2) fun r0=>
 some r0
instance:UndI prog 153 (.map 103 3):=⟨underlying153⟩
noncomputable def Eu(p0:Am)(p1:Int)(p2:Int)(p3:Int):Option Am :=
 gd ((-9223372036854775808<=p1/\p1<=9223372036854775807)/\(-9223372036854775808<=p2/\p2<=9223372036854775807))<|
 gd (p0.apex.length<9223372036854775807)<|
 gd ((-9223372036854775808<=p2/\p2<=9223372036854775807)/\(-9223372036854775808<=p3/\p3<=9223372036854775807))<|
 gd ((mput p0.apex ((⟨p1,p2⟩:Ac)) p3).length<9223372036854775807)<|
 gd ((-9223372036854775808<=p3/\p3<=9223372036854775807)/\(-9223372036854775808<=p1/\p1<=9223372036854775807))<|
 gd ((mput (mput p0.apex ((⟨p1,p2⟩:Ac)) p3) ((⟨p2,p3⟩:Ac)) p1).length<9223372036854775807)<|
 some (⟨p0.v,mput (mput (mput p0.apex ((⟨p1,p2⟩:Ac)) p3) ((⟨p2,p3⟩:Ac)) p1) ((⟨p3,p1⟩:Ac)) p2,p0.fixed⟩:Am)
noncomputable def Kz(p0:Am)(p1:Int)(p2:Int)(p3:Int):Option Am :=
 gd ((-9223372036854775808<=p1/\p1<=9223372036854775807)/\(-9223372036854775808<=p2/\p2<=9223372036854775807))<|
 gd ((-9223372036854775808<=p2/\p2<=9223372036854775807)/\(-9223372036854775808<=p3/\p3<=9223372036854775807))<|
 gd ((-9223372036854775808<=p3/\p3<=9223372036854775807)/\(-9223372036854775808<=p1/\p1<=9223372036854775807))<|
 some (⟨p0.v,mdel (mdel (mdel p0.apex ((⟨p1,p2⟩:Ac))) ((⟨p2,p3⟩:Ac))) ((⟨p3,p1⟩:Ac)),p0.fixed⟩:Am)
noncomputable def Jc(p0:Am)(p1:Int)(p2:Int):Option (Am × Bool):=
 gd ((-9223372036854775808<=p1/\p1<=9223372036854775807)/\(-9223372036854775808<=p2/\p2<=9223372036854775807))<|
 bnd (some ((mget p0.apex ((⟨p1,p2⟩:Ac))).getD 0)) fun x3=>
 gd ((-9223372036854775808<=p2/\p2<=9223372036854775807)/\(-9223372036854775808<=p1/\p1<=9223372036854775807))<|
 bnd (some ((mget p0.apex ((⟨p2,p1⟩:Ac))).getD 0)) fun x8=>
 jn (fun (s5:Bool)=>
 if s5=true then (some (p0,false))
 else (bnd (Kz p0 p1 p2 x3) fun r0=>
 bnd (Kz r0 p2 p1 x8) fun r1=>
 bnd (Eu r1 p1 x8 x3) fun r2=>
 bnd (Eu r2 p2 x3 x8) fun r3=>
 some (r3,true)))
 (fun j5=>if ((mget p0.apex ((⟨p1,p2⟩:Ac))).isSome)=true then (if ((mget p0.apex ((⟨p2,p1⟩:Ac))).isSome)=true then (bnd (Bn p0 x3) fun r4=>
 bnd (Bn p0 x8) fun r5=>
 bnd (Bn p0 p1) fun r6=>
 bnd (Sm r4 r5 r6) fun r7=>
 bnd (Bn p0 x3) fun r8=>
 bnd (Bn p0 x8) fun r9=>
 bnd (Bn p0 p2) fun r35=>
 bnd (Sm r8 r9 r35) fun r38=>
 j5 (decide (0<=(w64 (r7*r38)))))
 else (j5 true))
 else (j5 true))
instance mesh_builder_p_c(p0:Am)(p1:Int):Con (Bn p0 p1) prog 179 (fun K vs=>∃ g0_0 gm0_0 gm0_1 U0 E0,vs=[.pointer (some ⟨g0_0,0,none⟩),iq p1]/\Pt K g0_0 0 [.slice U0 p0.v.length E0,.map (some gm0_0),.map (some gm0_1)]/\Has K U0 p0.v.length E0 4 Ak p0.v/\True) (fun _ r=>fun v Ln=>v = .agg #[iq r.X,iq r.Y]/\Ln=[]/\True):=⟨by
 rintro K _ r ⟨g0_0,gm0_0,gm0_1,U0,E0,rfl,hp0,ha0,-⟩ hx w hK;replace hp0:=Pt.lo hp0 hK;replace ha0:=Has.lo ha0 hK;unfold Bn at hx;refine CtS ntmps179 results179 ?_;exact au⟩
instance mesh_builder_put_c(p0:Am)(p1:Int)(p2:Int)(p3:Int):ConK (Eu p0 p1 p2 p3) prog 180 (fun g0_0 gm0_0 gm0_1 U0 E0 ua0 uc0 vs Lp=>vs=[.pointer (some ⟨g0_0,0,none⟩),iq p1,iq p2,iq p3]/\Lp=[.m g0_0 156 [.slice U0 p0.v.length E0,.map (some gm0_0),.map (some gm0_1)],Ba prog 103 Ao Cl gm0_0 p0.apex,Ba prog 103 Ao Ce gm0_1 p0.fixed]/\ua0=none/\uc0=0/\True) (fun U0 E0 ua0 uc0 K K2=>Has K U0 p0.v.length E0 4 Ak p0.v/\True) (fun g0_0 gm0_0 gm0_1 U0 E0 ua0 uc0 K r=>fun v Ln=>∃ A0 c0,v = .tuple #[]/\Ln=[.m g0_0 156 [.slice A0 r.v.length c0,.map (some gm0_0),.map (some gm0_1)],Ba prog 103 Ao Cl gm0_0 r.apex,Ba prog 103 Ao Ce gm0_1 r.fixed]/\Has K A0 r.v.length c0 4 Ak r.v/\True):=⟨by
 rintro g0_0 gm0_0 gm0_1 U0 E0 _ _ K K2 _ _ r ⟨rfl,rfl,rfl,rfl,-⟩ ⟨ha0,-⟩ hx;unfold Eu at hx;refine CtSK ntmps180 results180 ?_;intro Lf hKf;have hKg:=hKf.r;replace hKf:=hKf.l;refine Aa9 ?_;exact au⟩
instance mesh_builder_cut_c(p0:Am)(p1:Int)(p2:Int)(p3:Int):ConK (Kz p0 p1 p2 p3) prog 235 (fun g0_0 gm0_0 gm0_1 U0 E0 ua0 uc0 vs Lp=>vs=[.pointer (some ⟨g0_0,0,none⟩),iq p1,iq p2,iq p3]/\Lp=[.m g0_0 156 [.slice U0 p0.v.length E0,.map (some gm0_0),.map (some gm0_1)],Ba prog 103 Ao Cl gm0_0 p0.apex,Ba prog 103 Ao Ce gm0_1 p0.fixed]/\ua0=none/\uc0=0/\True) (fun U0 E0 ua0 uc0 K K2=>Has K U0 p0.v.length E0 4 Ak p0.v/\True) (fun g0_0 gm0_0 gm0_1 U0 E0 ua0 uc0 K r=>fun v Ln=>∃ A0 c0,v = .tuple #[]/\Ln=[.m g0_0 156 [.slice A0 r.v.length c0,.map (some gm0_0),.map (some gm0_1)],Ba prog 103 Ao Cl gm0_0 r.apex,Ba prog 103 Ao Ce gm0_1 r.fixed]/\Has K A0 r.v.length c0 4 Ak r.v/\True):=⟨by
 rintro g0_0 gm0_0 gm0_1 U0 E0 _ _ K K2 _ _ r ⟨rfl,rfl,rfl,rfl,-⟩ ⟨ha0,-⟩ hx;unfold Kz at hx;refine CtSK ntmps235 results235 ?_;intro Lf hKf;have hKg:=hKf.r;replace hKf:=hKf.l;refine Aa9 ?_;exact au⟩
instance mesh_builder_flip_c(p0:Am)(p1:Int)(p2:Int):ConK (Jc p0 p1 p2) prog 186 (fun g0_0 gm0_0 gm0_1 U0 E0 ua0 uc0 vs Lp=>vs=[.pointer (some ⟨g0_0,0,none⟩),iq p1,iq p2]/\Lp=[.m g0_0 156 [.slice U0 p0.v.length E0,.map (some gm0_0),.map (some gm0_1)],Ba prog 103 Ao Cl gm0_0 p0.apex,Ba prog 103 Ao Ce gm0_1 p0.fixed]/\ua0=none/\uc0=0/\True) (fun U0 E0 ua0 uc0 K K2=>Has K U0 p0.v.length E0 4 Ak p0.v/\True) (fun g0_0 gm0_0 gm0_1 U0 E0 ua0 uc0 K r=>fun v Ln=>∃ A0 c0,v = .bool r.2/\Ln=[.m g0_0 156 [.slice A0 r.1.v.length c0,.map (some gm0_0),.map (some gm0_1)],Ba prog 103 Ao Cl gm0_0 r.1.apex,Ba prog 103 Ao Ce gm0_1 r.1.fixed]/\Has K A0 r.1.v.length c0 4 Ak r.1.v/\True):=⟨by
 rintro g0_0 gm0_0 gm0_1 U0 E0 _ _ K K2 _ _ r ⟨rfl,rfl,rfl,rfl,-⟩ ⟨ha0,-⟩ hx;unfold Jc at hx;refine CtSK ntmps186 results186 ?_;intro Lf hKf;have hKg:=hKf.r;replace hKf:=hKf.l;refine Aa9 ?_;try (refine pre ?_;intros;rename_i hx)
 refine Bl ?_;try (refine pre ?_;intros;rename_i hx)
 apply Jr (γ:=Unit) hx [0,1,2,7,9] (fun s5 y5 f=>(62,.bool s5)::f) [0,1,2,1003] (fun s5 y5 l=>l);exact kk
 ·intro s5 y5 hx;exact au
 ·intro _ hx;exact au⟩
end Go.Proofs.YthlkpgdfifnagaaGreat
namespace Go.Proofs.YthlkpgdfifnagaaGreat
open Go Go.RowKit Go.Shelf Go.Lib Go.Sort Tryz
theorem Adk{P:Program}{f:FuncId}(h:Wk P f):∀ (args:Array Value) (w:World),(callFunc f args).run P w = .ok (.enter f args) w:=by
 obtain⟨fn,h1,h2,h3⟩:=h;obtain⟨c,hc⟩:∃ c,fn.body=some c:=by cases hb:fn.body with
  | none=>rw[hb] at h3;cases h3
  | some c=>exact⟨c,rfl⟩
 exact enters_of h1 h2 hc
def Anq(z:Int):Prop:=-1000000000000<=z/\z<=1000000000000
instance(z:Int):Decidable (Anq z):=by unfold Anq;infer_instance
def Sr(x:Ac):Prop:=Anq x.a0/\Anq x.a1
instance(x:Ac):Decidable (Sr x):=by unfold Sr;infer_instance
def cmp2(x y:Ac):Int:=if x.a0=y.a0 then x.a1-y.a1 else x.a0-y.a0
theorem Anr(x y:Ac):cmp2 x y<0↔x.a0<y.a0\/x.a0=y.a0/\x.a1<y.a1:=by unfold cmp2;split <;> omega
theorem tot2:Aat Sr cmp2 where
 irr x _:=by rw[Anr];omega
 trans x y z _ _ _ h1 h2:=by rw[Anr] at *;omega
 tot x y _ _ h1 h2:=by
  rw[Anr] at h1 h2;obtain⟨x0,x1⟩:=x;obtain⟨y0,y1⟩:=y;simp only at h1 h2;rw[show x0=y0 by omega,show x1=y1 by omega]
theorem Ag4{x y:Ac}(hx:Sr x)(hy:Sr y):Yn x y=some (cmp2 x y):=by
 obtain⟨⟨_,_⟩,_,_⟩:=hx;obtain⟨⟨_,_⟩,_,_⟩:=hy;unfold Yn cmp2;split <;> (rw[Av oo oo])
theorem Ae4(l:List Ac)(hb:l.length<=1000000000)(hp:∀ x∈l,Sr x){A:Option Addr}{m c:Nat}{t:TypeId}{gf:Nat}{cb:Array Value}(w:World)(hok:Ent.ok w (.r A m c t 2 (l.flatMap Ar)))(hcmp:Ad2 prog Sr cmp2 (fun x=>.agg #[iq x.a0,iq x.a1]) A m c t 2 gf cb w (l.flatMap Ar))(eg:Wk prog gf):Ad1 prog 176 A m c t 2 gf cb w (l.flatMap Ar) ((Bi cmp2 l).flatMap Ar):=
 Afb (ρ:=Tryz.laysSort2_ren) Tryz.laysSort2 (k:=2) isAgg103 sizeOf103 (enc:=Ar) (fun _=>rfl) dD (fun x v hv=>by simp[Ar] at hv;rcases hv with rfl | rfl <;> rfl) tot2 (Adk eg) l hb hp w hok hcmp
def Abh(x:Aj):Prop:=True
instance(x:Aj):Decidable (Abh x):=by unfold Abh;infer_instance
def cmpI(x y:Int):Int:=if x<y then -1 else if y<x then 1 else 0
theorem Ate(x y:Int):cmpI x y<0↔x<y:=by
 unfold cmpI;split
 ·omega
 ·split <;> omega
theorem Bbh(x y:Int):cmpI x y=0↔x=y:=by
 unfold cmpI;split
 ·omega
 ·split <;> omega
def cmp3(x y:Aj):Int:=if cmpI x.a0 y.a0=0 then if cmpI x.a1 y.a1=0 then cmpI x.a2 y.a2 else cmpI x.a1 y.a1 else cmpI x.a0 y.a0
theorem Adl(x y:Aj):cmp3 x y<0↔x.a0<y.a0\/x.a0=y.a0/\(x.a1<y.a1\/x.a1=y.a1/\x.a2<y.a2):=by
 unfold cmp3;simp only[Bbh];split
 ·split <;> rw[Ate] <;> omega
 ·rw[Ate];omega
theorem tot3:Aat Abh cmp3 where
 irr x _:=by rw[Adl];omega
 trans x y z _ _ _ h1 h2:=by rw[Adl] at *;omega
 tot x y _ _ h1 h2:=by
  rw[Adl] at h1 h2;obtain⟨x0,x1,x2⟩:=x;obtain⟨y0,y1,y2⟩:=y;simp only at h1 h2;rw[show x0=y0 by omega,show x1=y1 by omega,show x2=y2 by omega]
theorem Bbi(x y:Int):Pi x y=some (cmpI x y):=by
 unfold Pi Sa cmpI;simp only[bnd,decide_true,Bool.not_true,Bool.false_eq_true,if_false];split
 ·rfl
 ·split <;> rfl
theorem Ant{x y:Aj}(hx:Abh x)(hy:Abh y):Fy x y=some (cmp3 x y):=by
 obtain⟨x0,x1,x2⟩:=x;obtain⟨y0,y1,y2⟩:=y;unfold Fy Hk jn cmp3;simp only;have step:∀ i:Int,Cc [x0,x1,x2] [y0,y1,y2] i=if i<3 then bnd (idx [x0,x1,x2] i) fun a=>bnd (idx [y0,y1,y2] i) fun b=>if cmpI a b=0 then some (.inl (w64 (i+1))) else some (.inr (.inr (cmpI a b))) else some (.inr (.inl ())):=by
  intro i;unfold Cc;simp only[Bbi,List.length_cons,List.length_nil]
  by_cases h:i<3
  ·rw[if_pos oo,if_pos h];congr 1;funext a;rw[if_neg oo];rfl
  ·rw[if_neg oo,if_neg h]
 have w1:w64 (0+1)=1:=Av oo oo;have w2:w64 (1+1)=2:=Av oo oo;have w3:w64 (2+1)=3:=Av oo oo;have i0:∀ a b c:Int,idx [a,b,c] 0=some a:=fun _ _ _=>rfl
 have i1:∀ a b c:Int,idx [a,b,c] 1=some b:=fun _ _ _=>rfl
 have i2:∀ a b c:Int,idx [a,b,c] 2=some c:=fun _ _ _=>rfl
 have s0:Cc [x0,x1,x2] [y0,y1,y2] 0=if cmpI x0 y0=0 then some (.inl 1) else some (.inr (.inr (cmpI x0 y0))):=by rw[step,if_pos oo,w1];simp only[i0,bnd]
 have s1:Cc [x0,x1,x2] [y0,y1,y2] 1=if cmpI x1 y1=0 then some (.inl 2) else some (.inr (.inr (cmpI x1 y1))):=by rw[step,if_pos oo,w2];simp only[i1,bnd]
 have s2:Cc [x0,x1,x2] [y0,y1,y2] 2=if cmpI x2 y2=0 then some (.inl 3) else some (.inr (.inr (cmpI x2 y2))):=by rw[step,if_pos oo,w3];simp only[i2,bnd]
 have s3:Cc [x0,x1,x2] [y0,y1,y2] 3=some (.inr (.inl ())):=by rw[step,if_neg oo]
 rw[Bd,s0]
 by_cases h0:cmpI x0 y0=0
 ·rw[if_pos h0,if_pos h0];simp only;rw[Bd,s1]
  by_cases h1:cmpI x1 y1=0
  ·rw[if_pos h1,if_pos h1];simp only;rw[Bd,s2]
   by_cases h2:cmpI x2 y2=0
   ·rw[if_pos h2,h2];simp only;rw[Bd,s3];simp[bnd]
   ·rw[if_neg h2];simp[bnd]
  ·rw[if_neg h1,if_neg h1];simp[bnd]
 ·rw[if_neg h0,if_neg h0];simp[bnd]
theorem Aq8(l:List Aj)(hb:l.length<=1000000000)(hp:∀ x∈l,Abh x){A:Option Addr}{m c:Nat}{t:TypeId}{gf:Nat}{cb:Array Value}(w:World)(hok:Ent.ok w (.r A m c t 3 (l.flatMap Aw)))(hcmp:Ad2 prog Abh cmp3 (fun x=>.agg #[iq x.a0,iq x.a1,iq x.a2]) A m c t 3 gf cb w (l.flatMap Aw))(eg:Wk prog gf):Ad1 prog 188 A m c t 3 gf cb w (l.flatMap Aw) ((Bi cmp3 l).flatMap Aw):=
 Afb (ρ:=Tryz.laysSort3_ren) Tryz.laysSort3 (k:=3) isAgg101 sizeOf101 (enc:=Aw) (fun _=>rfl) dD (fun x v hv=>by simp[Aw] at hv;rcases hv with rfl | rfl | rfl <;> rfl) tot3 (Adk eg) l hb hp w hok hcmp
def befV(a b:Ad):Prop:=a.X<b.X\/a.X=b.X/\a.Y<b.Y
instance(a b:Ad):Decidable (befV a b):=by unfold befV;infer_instance
def Aar(a b:Ad):Prop:=a.X=b.X/\a.Y=b.Y
instance(a b:Ad):Decidable (Aar a b):=by unfold Aar;infer_instance
def Fp(v:List Ad):Prop:=v.Pairwise fun a b=>¬ Aar a b
instance(v:List Ad):Decidable (Fp v):=by unfold Fp;infer_instance
def okIx(v:List Ad)(i:Int):Prop:=0<=i/\i<(v.length:Int)
instance(v:List Ad)(i:Int):Decidable (okIx v i):=by unfold okIx;infer_instance
def cmpR(v:List Ad)(i j:Int):Int:=match idx v i,idx v j with
 | some a,some b=>if befV a b then -1 else if befV b a then 1 else 0
 | _,_=>0
theorem Mc{v:List Ad}{i:Int}(h:okIx v i):∃ (k:Nat) (hk:k<v.length),i=(k:Int)/\idx v i=some v[k]:=by
 obtain⟨h0,h1⟩:=h;obtain⟨k,rfl⟩:=Int.eq_ofNat_of_zero_le h0;have hk:k<v.length:=oo;exact⟨k,hk,rfl,At hk⟩
theorem Xj{v:List Ad}{i j:Nat}(hi:i<v.length)(hj:j<v.length):cmpR v (i:Int) (j:Int)<0↔befV v[i] v[j]:=by
 unfold cmpR;rw[At hi,At hj];simp only;split
 ·simp_all
 ·split <;> simp_all
theorem totR{v:List Ad}(hd:Fp v):Aat (okIx v) (cmpR v) where
 irr x hx:=by
  obtain⟨i,hi,rfl,_⟩:=Mc hx;rw[Xj hi hi];unfold befV;omega
 trans x y z hx hy hz h1 h2:=by
  obtain⟨i,hi,rfl,_⟩:=Mc hx;obtain⟨j,hj,rfl,_⟩:=Mc hy;obtain⟨k,hk,rfl,_⟩:=Mc hz;rw[Xj hi hj] at h1;rw[Xj hj hk] at h2;rw[Xj hi hk];unfold befV at *;omega
 tot x y hx hy h1 h2:=by
  obtain⟨i,hi,rfl,_⟩:=Mc hx;obtain⟨j,hj,rfl,_⟩:=Mc hy;rw[Xj hi hj] at h1;rw[Xj hj hi] at h2;have hs:Aar v[i] v[j]:=by unfold befV at h1 h2;unfold Aar;omega
  unfold Fp at hd;rw[List.pairwise_iff_getElem] at hd;rcases Nat.lt_trichotomy i j with h | h | h
  ·exact absurd hs (hd i j hi hj h)
  ·rw[h]
  ·exact absurd ⟨hs.1.symm,hs.2.symm⟩ (hd j i hj hi h)
theorem Au4(a b:Ad):Km ⟨a.X,a.Y⟩ ⟨b.X,b.Y⟩=some (decide (befV a b)):=by
 unfold Km jn befV;simp only
 by_cases h1:a.X<b.X
 ·simp[h1]
 ·by_cases h2:a.X=b.X
  ·simp[h2]
  ·simp[h1,h2]
theorem Au5(v:List Ad){x y:Int}(hx:okIx v x)(hy:okIx v y):Xh x y v=some (cmpR v x y):=by
 obtain⟨i,hi,rfl,ei⟩:=Mc hx;obtain⟨j,hj,rfl,ej⟩:=Mc hy;unfold Xh cmpR;simp only[ei,ej,bnd,Oj,Au4,decide_eq_true_eq];split
 ·rfl
 ·split <;> rfl
theorem Aph(v:List Ad)(hd:Fp v)(l:List Int)(hb:l.length<=1000000000)(hp:∀ x∈l,okIx v x){A:Option Addr}{m c:Nat}{t:TypeId}{gf:Nat}{cb:Array Value}(w:World)(hok:Ent.ok w (.r A m c t 1 (l.flatMap Ag)))(hcmp:Ad2 prog (okIx v) (cmpR v) (fun x=>iq x) A m c t 1 gf cb w (l.flatMap Ag))(eg:Wk prog gf):Ad1 prog 182 A m c t 1 gf cb w (l.flatMap Ag) ((Bi (cmpR v) l).flatMap Ag):=
 Are (ρ:=Tryz.laysSort1_ren) Tryz.laysSort1 (enc:=Value.int .i64) (fun _=>rfl) (totR hd) (Adk eg) l hb hp w hok hcmp
end Go.Proofs.YthlkpgdfifnagaaGreat
