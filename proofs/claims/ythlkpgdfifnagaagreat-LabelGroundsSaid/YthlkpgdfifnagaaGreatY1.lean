import Derived.Test.YthlkpgdfifnagaaGreatJ4b
set_option maxRecDepth 100000
set_option maxHeartbeats 1000000
namespace Go.Proofs.YthlkpgdfifnagaaGreat
open Go Go.RowKit Tryz
noncomputable section
theorem Awy:Ol prog 162 [iq 0,iq 0,iq 0,iq 0,iq 0,iq 0]:=⟨_,zeroValue162,rfl⟩
instance:Ub prog 162 [iq 0,iq 0,iq 0,iq 0,iq 0,iq 0]:=⟨Awy⟩
theorem Aeg:Ag9 prog 162 3 2:=.mk underlying162 (show prog.info? 57=some t57 from by kernel_rfl) kr
instance:ArrI prog 162 3 2:=⟨Aeg⟩
theorem Awz:Qx prog 162 6:=.arr underlying162 (show prog.info? 162=some t162 from by kernel_rfl) kr
instance:AggI prog 162 6:=⟨Awz⟩
instance:OneI prog 9:=⟨.mk underlying9 rfl (show prog.info? 9=some Tryz.t9 from by kernel_rfl) kr⟩
theorem Aw0:Ol prog 219 [.int .u64 0,.int .u64 0]:=⟨_,zeroValue219,rfl⟩
instance:Ub prog 219 [.int .u64 0,.int .u64 0]:=⟨Aw0⟩
theorem Aoi:Hj prog 219 1 1:=.mk underlying219 rfl rfl (show prog.info? 167=some t167 from by kernel_rfl) (show t167.size=1 from by kernel_rfl) rfl
instance:Cd prog 219 1 1:=⟨Aoi⟩
theorem Aqe:Vd prog 167:=.mk underlying167 rfl (show prog.info? 167=some t167 from by kernel_rfl) kr
instance:OneI prog 167:=⟨Aqe⟩
theorem Aoj:Hj prog 219 0 0:=.mk underlying219 rfl rfl (show prog.info? 167=some t167 from by kernel_rfl) (show t167.size=1 from by kernel_rfl) rfl
instance:Cd prog 219 0 0:=⟨Aoj⟩
theorem Ahx(x0:Int)(x1:Int):Ui prog 219 [(0,.int .u64 x0),(1,.int .u64 x1)] [.int .u64 x0,.int .u64 x1]:=fun w=>kr
theorem Aqf:Qx prog 219 2:=.mk underlying219 rfl (show prog.info? 219=some t219 from by kernel_rfl) kr
instance:AggI prog 219 2:=⟨Aqf⟩
theorem Asa:Ol prog 28 [iq 0,iq 0]:=⟨_,zeroValue28,rfl⟩
instance:Ub prog 28 [iq 0,iq 0]:=⟨Asa⟩
def Fs(p0:Ab)(p1:Ab)(p2:Ab):Option Int :=
 some (w64 ((w64 ((w64 (p1.X-p0.X))*(w64 (p2.Y-p0.Y))))-(w64 ((w64 (p1.Y-p0.Y))*(w64 (p2.X-p0.X))))))
def Kg(p0:Ad):Option Ab :=
 some (⟨p0.X,p0.Y⟩:Ab)
structure Zq where
 a0:Ab
 a1:Ab
 a2:Ab
theorem Ai5(x0:Int)(x1:Int)(x2:Int):Ana prog 101 [iq x0,iq x1,iq x2]:=by
 intro j h k w;have h':j<3:=h
 match j,h,h' with
 | 0,_,_=>exact (show (Instr.index 101 (.agg ([.int .i64 x0,.int .i64 x1,.int .i64 x2]:List Value).toArray) (.int k ((0:Nat):Int))).run prog w = .ok (.int .i64 x0) w by kernel_rfl)
 | 1,_,_=>exact (show (Instr.index 101 (.agg ([.int .i64 x0,.int .i64 x1,.int .i64 x2]:List Value).toArray) (.int k ((1:Nat):Int))).run prog w = .ok (.int .i64 x1) w by kernel_rfl)
 | 2,_,_=>exact (show (Instr.index 101 (.agg ([.int .i64 x0,.int .i64 x1,.int .i64 x2]:List Value).toArray) (.int k ((2:Nat):Int))).run prog w = .ok (.int .i64 x2) w by kernel_rfl)
instance(x0:Int)(x1:Int)(x2:Int):Aw1 prog 101 [iq x0,iq x1,iq x2]:=⟨Ai5 _ _ _⟩
instance(x0:Int)(x1:Int)(x2:Int):Asc prog 101 [iq x0,iq x1,iq x2] (Value.int .i64) [x0,x1,x2]:=⟨Ai5 _ _ _⟩
def Jg(p0:Aq)(p1:Int):Option Zq :=
 bnd (idx p0.T p1) fun x4=>
 bnd (idx p0.V x4.a0) fun x0=>
 bnd (Kg x0) fun r0=>
 bnd (idx p0.V x4.a1) fun x1=>
 bnd (Kg x1) fun r1=>
 bnd (idx p0.V x4.a2) fun x2=>
 bnd (Kg x2) fun r2=>
 some (⟨r0,r1,r2⟩:Zq)
def Nf(p0:Aq)(p1:Ab):Int->Option (Sum Int (Sum Unit Int)):=fun s0=>
 if s0<(p0.T.length:Int) then (bnd (Jg p0 s0) fun r0=>
 jn (fun (s1:Bool)=>
 if s1=true then (some (.inr (.inr s0)))
 else (some (.inl (w64 (s0+1)))))
 (fun j0=>bnd (Fs (⟨r0.a0.X,r0.a0.Y⟩:Ab) (⟨r0.a1.X,r0.a1.Y⟩:Ab) p1) fun r1=>
 if 0<=r1 then (bnd (Fs (⟨r0.a1.X,r0.a1.Y⟩:Ab) (⟨r0.a2.X,r0.a2.Y⟩:Ab) p1) fun r2=>
 if 0<=r2 then (bnd (Fs (⟨r0.a2.X,r0.a2.Y⟩:Ab) (⟨r0.a0.X,r0.a0.Y⟩:Ab) p1) fun r3=>
 j0 (decide (0<=r3)))
 else (j0 false))
 else (j0 false)))
 else (some (.inr (.inl ())))
def Rl(p0:Aq)(p1:Ab):Option Int :=
 jn (fun (s2:Unit)=>
 some (-1))
 (fun j2=>bnd (lfix (Nf p0 p1) 0) fun t0=>
 (match t0 with
 | (.inl z0)=>j2 z0
 | (.inr z0)=>some z0
 ))
def Hd(p0:Int)(p1:Int):Option (Int × Int):=
 some (wu64 ((wu64 ((wu64 ((shr_ .u64 p0 32)*(shr_ .u64 p1 32)))+(shr_ .u64 (wu64 ((wu64 ((shr_ .u64 p0 32)*(Ch .u64 p1 4294967295)))+(shr_ .u64 (wu64 ((Ch .u64 p0 4294967295)*(Ch .u64 p1 4294967295))) 32))) 32)))+(shr_ .u64 (wu64 ((Ch .u64 (wu64 ((wu64 ((shr_ .u64 p0 32)*(Ch .u64 p1 4294967295)))+(shr_ .u64 (wu64 ((Ch .u64 p0 4294967295)*(Ch .u64 p1 4294967295))) 32))) 4294967295)+(wu64 ((Ch .u64 p0 4294967295)*(shr_ .u64 p1 32))))) 32)),wu64 (p0*p1))
instance:UndI prog 5 (.int .u8):=⟨underlying5⟩
def Nx:List Int:=[0,1,2,2,3,3,3,3,4,4,4,4,4,4,4,4,5,5,5,5,5,5,5,5,5,5,5,5,5,5,5,5,6,6,6,6,6,6,6,6,6,6,6,6,6,6,6,6,6,6,6,6,6,6,6,6,6,6,6,6,6,6,6,6,7,7,7,7,7,7,7,7,7,7,7,7,7,7,7,7,7,7,7,7,7,7,7,7,7,7,7,7,7,7,7,7,7,7,7,7,7,7,7,7,7,7,7,7,7,7,7,7,7,7,7,7,7,7,7,7,7,7,7,7,7,7,7,7,8,8,8,8,8,8,8,8,8,8,8,8,8,8,8,8,8,8,8,8,8,8,8,8,8,8,8,8,8,8,8,8,8,8,8,8,8,8,8,8,8,8,8,8,8,8,8,8,8,8,8,8,8,8,8,8,8,8,8,8,8,8,8,8,8,8,8,8,8,8,8,8,8,8,8,8,8,8,8,8,8,8,8,8,8,8,8,8,8,8,8,8,8,8,8,8,8,8,8,8,8,8,8,8,8,8,8,8,8,8,8,8,8,8,8,8,8,8,8,8,8,8,8,8,8,8,8,8]
def Mj(p0:Int):Option Int :=
 jn (fun (s2:Int × Int)=>
 jn (fun (s5:Int × Int)=>
 jn (fun (s8:Int × Int)=>
 bnd (idx Nx (wu8 s8.1)) fun x0=>
 some (w64 (s8.2+(w64 x0))))
 (fun j8=>if 256<=s5.1 then (j8 (shr_ .u64 s5.1 8,w64 (s5.2+8)))
 else (j8 (s5.1,s5.2))))
 (fun j5=>if 65536<=s2.1 then (j5 (shr_ .u64 s2.1 16,w64 (s2.2+16)))
 else (j5 (s2.1,s2.2))))
 (fun j2=>if 4294967296<=p0 then (j2 (shr_ .u64 p0 32,32))
 else (j2 (p0,0)))
def Du(p0:Int):Option Int :=
 bnd (Mj p0) fun r1=>
 some (w64 (64-r1))
instance:UndI prog 144 (.int .u64):=⟨underlying144⟩
def Og(p2:Int)(r0:Int)(p1:Int):(Int × Int)->Option (Sum (Int × Int) Int):=fun s0=>
 jn (fun (s1:Bool)=>
 if s1=true then (if 4294967296<=(wu64 (s0.2+(shr_ .u64 (shl_ .u64 p2 (wu64 r0)) 32))) then (some (.inr (wu64 (s0.1-1))))
 else (some (.inl (wu64 (s0.1-1),wu64 (s0.2+(shr_ .u64 (shl_ .u64 p2 (wu64 r0)) 32))))))
 else (some (.inr s0.1)))
 (fun j0=>if 4294967296<=s0.1 then (j0 true)
 else (j0 (decide ((wu64 ((wu64 (4294967296*s0.2))+(shr_ .u64 (shl_ .u64 p1 (wu64 r0)) 32)))<(wu64 (s0.1*(Ch .u64 (shl_ .u64 p2 (wu64 r0)) 4294967295)))))))
def Oh(p2:Int)(r0:Int)(p1:Int):(Int × Int)->Option (Sum (Int × Int) Int):=fun s0=>
 jn (fun (s1:Bool)=>
 if s1=true then (if 4294967296<=(wu64 (s0.1+(shr_ .u64 (shl_ .u64 p2 (wu64 r0)) 32))) then (some (.inr (wu64 (s0.2-1))))
 else (some (.inl (wu64 (s0.1+(shr_ .u64 (shl_ .u64 p2 (wu64 r0)) 32)),wu64 (s0.2-1)))))
 else (some (.inr s0.2)))
 (fun j0=>if 4294967296<=s0.2 then (j0 true)
 else (j0 (decide ((wu64 ((wu64 (4294967296*s0.1))+(Ch .u64 (shl_ .u64 p1 (wu64 r0)) 4294967295)))<(wu64 (s0.2*(Ch .u64 (shl_ .u64 p2 (wu64 r0)) 4294967295)))))))
def Mk(p0:Int)(p1:Int)(p2:Int):Option (Int × Int):=
 if p2=0 then none
 else (if p2<=p0 then none
 else (if p0=0 then (gd (p2≠0)<|
 gd (p2≠0)<|
 some (wu64 (Int.tdiv p1 p2),Int.tmod p1 p2))
 else (bnd (Du p2) fun r0=>
 gd (0<=(wu64 r0))<|
 gd (0<=(wu64 r0))<|
 gd (0<=(wu64 (64-(wu64 r0))))<|
 gd (0<=(wu64 r0))<|
 gd ((shr_ .u64 (shl_ .u64 p2 (wu64 r0)) 32)≠0)<|
 jn (fun (s0:Int)=>
 gd ((shr_ .u64 (shl_ .u64 p2 (wu64 r0)) 32)≠0)<|
 jn (fun (s1:Int)=>
 gd (0<=(wu64 r0))<|
 some (wu64 ((wu64 (s0*4294967296))+s1),shr_ .u64 (wu64 ((wu64 ((wu64 ((wu64 ((wu64 ((wu64 ((Qt .u64 (shl_ .u64 p0 (wu64 r0)) (shr_ .u64 p1 (wu64 (64-(wu64 r0)))))*4294967296))+(shr_ .u64 (shl_ .u64 p1 (wu64 r0)) 32)))-(wu64 (s0*(shl_ .u64 p2 (wu64 r0))))))*4294967296))+(Ch .u64 (shl_ .u64 p1 (wu64 r0)) 4294967295)))-(wu64 (s1*(shl_ .u64 p2 (wu64 r0)))))) (wu64 r0)))
 (fun j0=>bnd (lfix (Oh p2 r0 p1) (wu64 ((wu64 ((wu64 ((wu64 ((Qt .u64 (shl_ .u64 p0 (wu64 r0)) (shr_ .u64 p1 (wu64 (64-(wu64 r0)))))*4294967296))+(shr_ .u64 (shl_ .u64 p1 (wu64 r0)) 32)))-(wu64 (s0*(shl_ .u64 p2 (wu64 r0))))))-(wu64 ((wu64 (Int.tdiv (wu64 ((wu64 ((wu64 ((Qt .u64 (shl_ .u64 p0 (wu64 r0)) (shr_ .u64 p1 (wu64 (64-(wu64 r0)))))*4294967296))+(shr_ .u64 (shl_ .u64 p1 (wu64 r0)) 32)))-(wu64 (s0*(shl_ .u64 p2 (wu64 r0)))))) (shr_ .u64 (shl_ .u64 p2 (wu64 r0)) 32)))*(shr_ .u64 (shl_ .u64 p2 (wu64 r0)) 32)))),wu64 (Int.tdiv (wu64 ((wu64 ((wu64 ((Qt .u64 (shl_ .u64 p0 (wu64 r0)) (shr_ .u64 p1 (wu64 (64-(wu64 r0)))))*4294967296))+(shr_ .u64 (shl_ .u64 p1 (wu64 r0)) 32)))-(wu64 (s0*(shl_ .u64 p2 (wu64 r0)))))) (shr_ .u64 (shl_ .u64 p2 (wu64 r0)) 32)))) fun t0=>
 j0 t0))
 (fun j1=>bnd (lfix (Og p2 r0 p1) (wu64 (Int.tdiv (Qt .u64 (shl_ .u64 p0 (wu64 r0)) (shr_ .u64 p1 (wu64 (64-(wu64 r0))))) (shr_ .u64 (shl_ .u64 p2 (wu64 r0)) 32)),wu64 ((Qt .u64 (shl_ .u64 p0 (wu64 r0)) (shr_ .u64 p1 (wu64 (64-(wu64 r0)))))-(wu64 ((wu64 (Int.tdiv (Qt .u64 (shl_ .u64 p0 (wu64 r0)) (shr_ .u64 p1 (wu64 (64-(wu64 r0))))) (shr_ .u64 (shl_ .u64 p2 (wu64 r0)) 32)))*(shr_ .u64 (shl_ .u64 p2 (wu64 r0)) 32)))))) fun t1=>
 j1 t1))))
structure Gl where
 hi:Int
 lo:Int
theorem Ago{x y c:Int}(h:(((0:Int)<=x/\(0:Int)<=y)/\(0:Int)<=c/\c<=(1:Int)))(w:World):(callFunc 239 #[.int .u64 x,.int .u64 y,.int .u64 c]).run prog w = .ok (.value (.tuple #[.int .u64 ((x+y+c) % 18446744073709551616),.int .u64 ((x+y+c) / 18446744073709551616)])) w:=by
 rw[run_callFunc_extern func239 kr kr kr (e:=add64Entry) kr,run_add64 x y c h.1.1 h.1.2 h.2.1 h.2.2];rfl
instance{x y c:Int}:ExtI prog 239 [.int .u64 x,.int .u64 y,.int .u64 c] (((0:Int)<=x/\(0:Int)<=y)/\(0:Int)<=c/\c<=(1:Int)) (.tuple [.int .u64 ((x+y+c) % 18446744073709551616),.int .u64 ((x+y+c) / 18446744073709551616)].toArray):=⟨fun h w=>Ago h w⟩
def Fi(p0:Gl)(p1:Int)(p2:Int):Option Gl :=
 bnd (Hd (wu64 p1) (wu64 p2)) fun r3=>
 gd ((((0:Int)<=p0.lo/\(0:Int)<=r3.2)/\(0:Int)<=0/\0<=(1:Int)))<|
 gd ((((0:Int)<=p0.hi/\(0:Int)<=r3.1)/\(0:Int)<=((p0.lo+r3.2+0) / 18446744073709551616)/\((p0.lo+r3.2+0) / 18446744073709551616)<=(1:Int)))<|
 some (⟨(p0.hi+r3.1+((p0.lo+r3.2+0) / 18446744073709551616)) % 18446744073709551616,(p0.lo+r3.2+0) % 18446744073709551616⟩:Gl)
def Kh(p0:Aj)(p1:Aj):Option (Int × Int):=
 bnd (Fi (⟨0,0⟩:Gl) p0.a0 (w64 (p1.a0-(min (min p1.a0 p1.a1) p1.a2)))) fun r4=>
 bnd (Fi r4 p0.a1 (w64 (p1.a1-(min (min p1.a0 p1.a1) p1.a2)))) fun r7=>
 bnd (Fi r7 p0.a2 (w64 (p1.a2-(min (min p1.a0 p1.a1) p1.a2)))) fun r0=>
 bnd (Mk r0.hi r0.lo (wu64 (w64 ((w64 (p0.a0+p0.a1))+p0.a2)))) fun r1=>
 if 0<r1.2 then (some (w64 ((min (min p1.a0 p1.a1) p1.a2)+(w64 r1.1)),w64 ((w64 ((min (min p1.a0 p1.a1) p1.a2)+(w64 r1.1)))+1)))
 else (some (w64 ((min (min p1.a0 p1.a1) p1.a2)+(w64 r1.1)),w64 ((min (min p1.a0 p1.a1) p1.a2)+(w64 r1.1))))
def Ot(p0:Aq)(p1:Int)(p2:Ab):Option Ax :=
 bnd (Jg p0 p1) fun r4=>
 jn (fun (s3:Int × Int × Int)=>
 bnd (idx p0.T p1) fun x0=>
 jn (fun (s9:Int × Int)=>
 jn (fun (s0:Int × Int)=>
 jn (fun (s1:Int × Int)=>
 bnd (Kh (⟨s3.1,s3.2.1,s3.2.2⟩:Aj) (⟨s9.1,s0.1,s1.1⟩:Aj)) fun r0=>
 bnd (Kh (⟨s3.1,s3.2.1,s3.2.2⟩:Aj) (⟨s9.2,s0.2,s1.2⟩:Aj)) fun r1=>
 some (⟨r0.1,r1.2⟩:Ax))
 (fun j0=>bnd (idx p0.V x0.a2) fun x1=>
 bnd (idx p0.V x0.a2) fun x2=>
 j0 (x1.Z.Lo,x2.Z.Hi)))
 (fun j1=>bnd (idx p0.V x0.a1) fun x3=>
 bnd (idx p0.V x0.a1) fun x4=>
 j1 (x3.Z.Lo,x4.Z.Hi)))
 (fun j9=>bnd (idx p0.V x0.a0) fun x5=>
 bnd (idx p0.V x0.a0) fun x6=>
 j9 (x5.Z.Lo,x6.Z.Hi)))
 (fun j3=>bnd (Fs (⟨r4.a1.X,r4.a1.Y⟩:Ab) (⟨r4.a2.X,r4.a2.Y⟩:Ab) p2) fun r8=>
 bnd (Fs (⟨r4.a2.X,r4.a2.Y⟩:Ab) (⟨r4.a0.X,r4.a0.Y⟩:Ab) p2) fun r2=>
 bnd (Fs (⟨r4.a0.X,r4.a0.Y⟩:Ab) (⟨r4.a1.X,r4.a1.Y⟩:Ab) p2) fun r3=>
 j3 (r8,r2,r3))
def Xm(p0:Ax)(p1:Ax):Option Int :=
 some (max (max 0 (w64 (p0.Lo-p1.Hi))) (w64 (p1.Lo-p0.Hi)))
def Sd(p0:Int)(p1:Int)(p2:Int):Option Bool :=
 bnd (Hd (wu64 ((wu64 p0)*(wu64 p0))) 1000000) fun r1=>
 bnd (Hd (wu64 ((wu64 p2)*(wu64 p2))) (wu64 p1)) fun r4=>
 jn (fun (s4:Bool)=>
 some s4)
 (fun j4=>if r1.1<r4.1 then (j4 true)
 else (if r1.1=r4.1 then (j4 (decide (r1.2<=r4.2)))
 else (j4 false)))
def Qp(x0:Aj)(p0:Aq)(p1:Aa)(p2:Af)(r7:Int):Int->Option (Sum Int (Sum Unit (Int × Bool × Int))):=fun s0=>
 if s0<3 then (bnd (idx [x0.a0,x0.a1,x0.a2] s0) fun x1=>
 bnd (idx p0.V x1) fun x2=>
 bnd (Xm p1.Z x2.Z) fun r0=>
 bnd (Df p1) fun r1=>
 bnd (Kg x2) fun r2=>
 bnd (Lv r1 r2) fun r3=>
 bnd (Sd r0 r3 p2.Slope) fun r4=>
 if r4=true then (some (.inl (w64 (s0+1))))
 else (some (.inr (.inr (r7,false,0)))))
 else (some (.inr (.inl ())))
def Vh(p0:Aq)(p1:Aa)(p2:Af):Option (Int × Bool × Int):=
 bnd (Df p1) fun r4=>
 bnd (Rl p0 r4) fun r7=>
 if r7<0 then (some (r7,false,0))
 else (bnd (Df p1) fun r0=>
 bnd (Ot p0 r7 r0) fun r1=>
 bnd (Xm p1.Z r1) fun r2=>
 if p2.Reach<r2 then (some (r7,false,0))
 else (jn (fun (s0:Unit)=>
 some (r7,true,r2))
 (fun j0=>bnd (idx p0.T r7) fun x0=>
 bnd (lfix (Qp x0 p0 p1 p2 r7) 0) fun t0=>
 (match t0 with
 | (.inl z0)=>j0 z0
 | (.inr z0)=>some z0
 ))))
instance Ahy(p0:Ab)(p1:Ab)(p2:Ab):Con (Fs p0 p1 p2) prog 133 (fun _ vs=>vs=[.agg #[iq p0.X,iq p0.Y],.agg #[iq p1.X,iq p1.Y],.agg #[iq p2.X,iq p2.Y]]) (fun _ r=>fun v Ln=>v = iq r/\Ln=[]/\True):=⟨by
 rintro _ _ r rfl hx w hK;unfold Fs at hx;refine CtS ntmps133 results133 ?_;exact au⟩
theorem En(p0:Ab)(p1:Ab)(p2:Ab){r:Int}(hx:Fs p0 p1 p2=some r)(w:World):CtL prog 133 [.agg #[iq p0.X,iq p0.Y],.agg #[iq p1.X,iq p1.Y],.agg #[iq p2.X,iq p2.Y]] w fun v Ln=>v = iq r/\Ln=[]/\True:=(Ahy p0 p1 p2).h [] _ _ rfl hx w (fun _ h=>absurd h List.not_mem_nil)
instance surface_Place_c(p0:Ad):Con (Kg p0) prog 79 (fun _ vs=>vs=[.agg #[iq p0.X,iq p0.Y,iq p0.Z.Lo,iq p0.Z.Hi]]) (fun _ r=>fun v Ln=>v = .agg #[iq r.X,iq r.Y]/\Ln=[]/\True):=⟨by
 rintro _ _ r rfl hx w hK;unfold Kg at hx;refine CtS ntmps79 results79 ?_;exact au⟩
instance Afq(p0:Aq)(p1:Int):Con (Jg p0 p1) prog 132 (fun K vs=>∃ U0 E0 U1 E1 U2 E2,vs=[.agg #[.slice U0 p0.V.length E0,.slice U1 p0.T.length E1,.slice U2 p0.Lines.length E2],iq p1]/\Has K U0 p0.V.length E0 4 Ak p0.V/\Has K U1 p0.T.length E1 3 Aw p0.T/\Has K U2 p0.Lines.length E2 2 Ar p0.Lines/\True) (fun _ r=>fun v Ln=>v = .agg #[iq r.a0.X,iq r.a0.Y,iq r.a1.X,iq r.a1.Y,iq r.a2.X,iq r.a2.Y]/\Ln=[]/\True):=⟨by
 rintro K _ r ⟨U0,E0,U1,E1,U2,E2,rfl,ha0,ha1,ha2,-⟩ hx w hK;replace ha0:=Has.lo ha0 hK;replace ha1:=Has.lo ha1 hK;replace ha2:=Has.lo ha2 hK;unfold Jg at hx;refine CtS ntmps132 results132 ?_;exact au⟩
theorem Aeh(p0:Aq)(p1:Int){K:List Ent}{U0:Option Addr}{E0:Nat}{U1:Option Addr}{E1:Nat}{U2:Option Addr}{E2:Nat}(ha0:Has K U0 p0.V.length E0 4 Ak p0.V)(ha1:Has K U1 p0.T.length E1 3 Aw p0.T)(ha2:Has K U2 p0.Lines.length E2 2 Ar p0.Lines){r:Zq}(hx:Jg p0 p1=some r)(w:World)(hK:∀ e∈K,Ent.ok w e):CtL prog 132 [.agg #[.slice U0 p0.V.length E0,.slice U1 p0.T.length E1,.slice U2 p0.Lines.length E2],iq p1] w fun v Ln=>v = .agg #[iq r.a0.X,iq r.a0.Y,iq r.a1.X,iq r.a1.Y,iq r.a2.X,iq r.a2.Y]/\Ln=[]/\True:=(Afq p0 p1).h K _ _ ⟨_,_,_,_,_,_,rfl,ha0,ha1,ha2,trivial⟩ hx w hK
instance surface_Locate_c(p0:Aq)(p1:Ab):Con (Rl p0 p1) prog 74 (fun K vs=>∃ U0 E0 U1 E1 U2 E2,vs=[.agg #[.slice U0 p0.V.length E0,.slice U1 p0.T.length E1,.slice U2 p0.Lines.length E2],.agg #[iq p1.X,iq p1.Y]]/\Has K U0 p0.V.length E0 4 Ak p0.V/\Has K U1 p0.T.length E1 3 Aw p0.T/\Has K U2 p0.Lines.length E2 2 Ar p0.Lines/\True) (fun _ r=>fun v Ln=>v = iq r/\Ln=[]/\True):=⟨by
 rintro K _ r ⟨U0,E0,U1,E1,U2,E2,rfl,ha0,ha1,ha2,-⟩ hx w hK;replace ha0:=Has.lo ha0 hK;replace ha1:=Has.lo ha1 hK;replace ha2:=Has.lo ha2 hK;unfold Rl at hx;refine CtS ntmps74 results74 ?_;try (refine pre ?_;intros;rename_i hx)
 refine Bl ?_;try (refine pre ?_;intros;rename_i hx)
 apply Jr (γ:=Unit) hx [] (fun s2 y2 f=>f) [999] (fun s2 y2 l=>l);exact kk
 ·intro s2 y2 hx;exact au
 ·intro _ hx;try (refine pre ?_;intros;rename_i hx)
  apply Lr (γ:=Unit) hx [2,3,9] (fun s0 y0 f=>(10,iq s0)::f) [0,1,999] (fun s0 y0 l=>l) ();exact kk;exact sk;intro s0 y0 x0 hx _;unfold Nf at hx;try (refine pre ?_;intros;rename_i hx)
  refine Cq1 (s:=11) hx rfl (fun _ hx=>?_) (fun _ hx=>?_)
  ·try (refine pre ?_;intros;rename_i hx)
   apply Jr (γ:=Unit) hx [2,3,5,9,10] (fun s1 y1 f=>(40,.bool s1)::f) [1,2,999] (fun s1 y1 l=>l);exact kk
   ·intro s1 y1 hx;exact au
   ·intro _ hx;exact au
  ·exact au⟩
instance Afr(p0:Int)(p1:Int):Con (Hd p0 p1) prog 135 (fun _ vs=>vs=[.int .u64 p0,.int .u64 p1]) (fun _ r=>fun v Ln=>v = .tuple #[.int .u64 r.1,.int .u64 r.2]/\Ln=[]/\True):=⟨by
 rintro _ _ r rfl hx w hK;unfold Hd at hx;refine CtS ntmps135 results135 ?_;exact au⟩
theorem Aei(p0:Int)(p1:Int){r:Int × Int}(hx:Hd p0 p1=some r)(w:World):CtL prog 135 [.int .u64 p0,.int .u64 p1] w fun v Ln=>v = .tuple #[.int .u64 r.1,.int .u64 r.2]/\Ln=[]/\True:=(Afr p0 p1).h [] _ _ rfl hx w (fun _ h=>absurd h List.not_mem_nil)
theorem Aej(p0:Int){r:Int}(hx:Mj p0=some r)(w:World):CtL prog 167 [.int .u64 p0] w fun v Ln=>v = iq r/\Ln=[]/\True:=by
 refine CtL.mk 25 func167 rfl ntmps167 kr rfl ?_;show T 25 _ [(0,.int .u64 p0)] _;unfold Mj at hx;refine Y5 ?_;refine Tj (γ:=Unit) hx (fun s2 y2=>[(0,.int .u64 s2.1),(2,iq s2.2)]) (fun s2 y2=>[]++[.old w]) (fun s2 y2=>True) (fun s2 y2 hx4 hG5=>?_) (fun j2 hx=>?_)
 ·refine Tj (γ:=Unit) hx4 (fun s5 y5=>[(0,.int .u64 s5.1),(2,iq s5.2)]) (fun s5 y5=>[]++[.old w]) (fun s5 y5=>True) (fun s5 y5 hx9 hG0=>?_) (fun j5 hx4=>?_)
  ·refine Tj (γ:=Unit) hx9 (fun s8 y8=>[(0,.int .u64 s8.1),(2,iq s8.2)]) (fun s8 y8=>[]++[.old w]) (fun s8 y8=>True) (fun s8 y8 hx0 hG1=>?_) (fun j8 hx9=>?_)
   ·refine Y4 ?_;refine As (Ao3 rfl kr underlying5) rfl ?_;obtain⟨x0,h0,hx1⟩:=An hx0;refine As (App (ys:=Nx) rfl rfl underlying9 kr h0) rfl ?_;refine As (Ahg rfl kr underlying3) rfl ?_;refine Y5 ?_;obtain rfl:=Option.some.inj hx1;exact Cz (rs:=[.tmp 2]) results167 (.tmp rfl (.nil)) (Ln:=[]) ⟨rfl,rfl,trivial⟩ Co (by exact .refl)
   ·refine Y6 ?_;refine Ti hx9 (s:=14) rfl (fun h2 hx5=>?_) (fun h2 hx6=>?_)
    ·refine Y4 ?_;refine As (Zg rfl rfl dD) rfl ?_;refine Y8 ?_;exact Mt (shr_ .u64 s5.1 8,w64 (s5.2+8)) () hx5 trivial (by exact .refl)
    ·refine Y2 ?_;exact Mt (s5.1,s5.2) () hx6 trivial (by exact .refl)
  ·refine Y6 ?_;refine Ti hx4 (s:=8) rfl (fun h6 hx7=>?_) (fun h6 hx8=>?_)
   ·refine Y4 ?_;refine As (Zg rfl rfl dD) rfl ?_;refine Y8 ?_;exact Mt (shr_ .u64 s2.1 16,w64 (s2.2+16)) () hx7 trivial (by exact .refl)
   ·refine Y2 ?_;exact Mt (s2.1,s2.2) () hx8 trivial (by exact .refl)
 ·refine Y6 ?_;refine Ti hx (s:=4) rfl (fun h1 hx2=>?_) (fun h1 hx3=>?_)
  ·refine Y4 ?_;refine As (Zg rfl rfl dD) rfl ?_;refine Y6 ?_;exact Mt (shr_ .u64 p0 32,32) () hx2 trivial (by exact .refl)
  ·refine Y2 ?_;exact Mt (p0,0) () hx3 trivial (by exact .refl)
instance math_bits_Len64_c(p0:Int):Con (Mj p0) prog 167 (fun _ vs=>vs=[.int .u64 p0]) (fun _ r=>fun v Ln=>v = iq r/\Ln=[]/\True):=⟨by
 rintro _ _ r rfl hx w hK;exact Aej p0 hx w⟩
instance Xy(p0:Int):Con (Du p0) prog 240 (fun _ vs=>vs=[.int .u64 p0]) (fun _ r=>fun v Ln=>v = iq r/\Ln=[]/\True):=⟨by
 rintro _ _ r rfl hx w hK;unfold Du at hx;refine CtS ntmps240 results240 ?_;exact au⟩
theorem Xc(p0:Int){r:Int}(hx:Du p0=some r)(w:World):CtL prog 240 [.int .u64 p0] w fun v Ln=>v = iq r/\Ln=[]/\True:=(Xy p0).h [] _ _ rfl hx w (fun _ h=>absurd h List.not_mem_nil)
theorem Aek(p0:Int)(p1:Int)(p2:Int){r:Int × Int}(hx:Mk p0 p1 p2=some r)(w:World):CtL prog 192 [.int .u64 p0,.int .u64 p1,.int .u64 p2] w fun v Ln=>v = .tuple #[.int .u64 r.1,.int .u64 r.2]/\Ln=[]/\True:=by
 refine CtL.mk 135 func192 rfl ntmps192 kr rfl ?_;show T 135 _ [(0,.int .u64 p0),(1,.int .u64 p1),(2,.int .u64 p2)] _;unfold Mk at hx;(iterate 13 refine Y ?_);refine Ti hx (s:=20) rfl (fun h1 hx2=>?_) (fun h1 hx3=>?_)
 ·refine Y2 ?_;exact Am7 hx2
 ·refine Y11 ?_;refine Ti hx3 (s:=24) rfl (fun h4 hx5=>?_) (fun h4 hx6=>?_)
  ·refine Y2 ?_;exact Am7 hx5
  ·refine Y10 ?_;refine Ti hx6 (s:=27) rfl (fun h7 hx8=>?_) (fun h7 hx0=>?_)
   ·refine Y2 ?_;refine T_dr [0,0,0,0,0,0,2,2] (.q 0 (.q 1 (.q 2 (.q 3 (.q 4 (.q 5 (.e 6 (.e 7 (.done) (.stop)) (.stop)))))))) mixed kr kr ?_;refine Y2 ?_;obtain⟨h9,hx1⟩:=Bo hx8;refine P_p rfl rfl (Zh rfl rfl h9) rfl ?_;refine Y2 ?_;obtain⟨h0,hx4⟩:=Bo hx1;refine P_p rfl rfl (Ame rfl rfl h0) rfl ?_;refine P_x rfl (Ec (Ek rfl) rfl ?_) ?_;rotate_left;exact Bj;refine P_x rfl (Ec (Ek rfl) rfl ?_) ?_;rotate_left;exact Bj;refine Y4 ?_;obtain rfl:=Option.some.inj hx4;exact Cz (rs:=[.tmp 6,.tmp 7]) results192 (.tmp rfl (.tmp rfl (.nil))) (Ln:=[]) ⟨rfl,rfl,trivial⟩ Co (by exact .refl)
   ·refine Y6 ?_;obtain⟨r0,h2,hx7⟩:=An hx0;refine Tc (fun w1 hw1=>Xc p2  h2 w1) ?_;refine As (Xf rfl kr underlying144) rfl ?_;refine Y7 ?_;obtain⟨h3,hx9⟩:=Bo hx7;refine As (Aii rfl rfl h3) rfl ?_;refine Y6 ?_;refine As (Zg rfl rfl dD) rfl ?_;(iterate 14 refine Y ?_);obtain⟨h5,hx20⟩:=Bo hx9;refine As (Aii rfl rfl h5) rfl ?_;refine Y3 ?_;obtain⟨h6,hx22⟩:=Bo hx20;refine As (Zg rfl rfl h6) rfl ?_;refine Y8 ?_;obtain⟨h8,hx24⟩:=Bo hx22;refine As (Aii rfl rfl h8) rfl ?_;refine Y6 ?_;refine As (Zg rfl rfl dD) rfl ?_;(iterate 14 refine Y ?_);obtain⟨h25,hx26⟩:=Bo hx24;refine As (Zh rfl rfl h25) rfl ?_;(iterate 13 refine Y ?_);refine Tj (γ:=Unit) hx26 (fun s0 y0=>[(2,.int .u64 (shl_ .u64 p2 (wu64 r0))),(8,.int .u64 (wu64 r0)),(9,.int .u64 (shr_ .u64 (shl_ .u64 p2 (wu64 r0)) 32)),(10,.int .u64 (Ch .u64 (shl_ .u64 p2 (wu64 r0)) 4294967295)),(11,.int .u64 (Qt .u64 (shl_ .u64 p0 (wu64 r0)) (shr_ .u64 p1 (wu64 (64-(wu64 r0)))))),(13,.int .u64 (shr_ .u64 (shl_ .u64 p1 (wu64 r0)) 32)),(14,.int .u64 (Ch .u64 (shl_ .u64 p1 (wu64 r0)) 4294967295)),(15,.int .u64 s0)]) (fun s0 y0=>[]++[.old w]) (fun s0 y0=>True) (fun s0 y0 hx51 hG0=>?_) (fun j0 hx26=>?_)
    ·(iterate 17 refine Y ?_);obtain⟨h53,hx54⟩:=Bo hx51;refine As (Zh rfl rfl h53) rfl ?_;(iterate 13 refine Y ?_);refine Tj (γ:=Unit) hx54 (fun s1 y1=>[(2,.int .u64 (shl_ .u64 p2 (wu64 r0))),(8,.int .u64 (wu64 r0)),(14,.int .u64 (Ch .u64 (shl_ .u64 p1 (wu64 r0)) 4294967295)),(15,.int .u64 s0),(17,.int .u64 (wu64 ((wu64 ((wu64 ((Qt .u64 (shl_ .u64 p0 (wu64 r0)) (shr_ .u64 p1 (wu64 (64-(wu64 r0)))))*4294967296))+(shr_ .u64 (shl_ .u64 p1 (wu64 r0)) 32)))-(wu64 (s0*(shl_ .u64 p2 (wu64 r0))))))),(18,.int .u64 s1)]) (fun s1 y1=>[]++[.old w]) (fun s1 y1=>True) (fun s1 y1 hx79 hG1=>?_) (fun j1 hx54=>?_)
     ·(iterate 15 refine Y ?_);obtain⟨h81,hx82⟩:=Bo hx79;refine As (Zg rfl rfl h81) rfl ?_;refine Y5 ?_;obtain rfl:=Option.some.inj hx82;exact Cz (rs:=[.tmp 6,.tmp 7]) results192 (.tmp rfl (.tmp rfl (.nil))) (Ln:=[]) ⟨rfl,rfl,trivial⟩ Co (by exact .refl)
     ·refine Y ?_;obtain⟨t0,hl0,ho0⟩:=An hx54;refine Lp (σ:=Int × Int) (γ:=Unit) hl0 (fun s2 y2=>[(2,.int .u64 (shl_ .u64 p2 (wu64 r0))),(8,.int .u64 (wu64 r0)),(9,.int .u64 (shr_ .u64 (shl_ .u64 p2 (wu64 r0)) 32)),(10,.int .u64 (Ch .u64 (shl_ .u64 p2 (wu64 r0)) 4294967295)),(14,.int .u64 (Ch .u64 (shl_ .u64 p1 (wu64 r0)) 4294967295)),(15,.int .u64 s0),(16,.int .u64 s2.1),(17,.int .u64 (wu64 ((wu64 ((wu64 ((Qt .u64 (shl_ .u64 p0 (wu64 r0)) (shr_ .u64 p1 (wu64 (64-(wu64 r0)))))*4294967296))+(shr_ .u64 (shl_ .u64 p1 (wu64 r0)) 32)))-(wu64 (s0*(shl_ .u64 p2 (wu64 r0))))))),(18,.int .u64 s2.2)]) (fun s2 y2=>[]++[.old w]) (fun s2 y2=>True) () trivial (by exact .refl) ?_;intro s2 y2 hG2 x0 hx67 ht0;unfold Oh at hx67;refine Y ?_;refine Tj (γ:=Unit) hx67 (fun s3 y3=>[(2,.int .u64 (shl_ .u64 p2 (wu64 r0))),(8,.int .u64 (wu64 r0)),(9,.int .u64 (shr_ .u64 (shl_ .u64 p2 (wu64 r0)) 32)),(10,.int .u64 (Ch .u64 (shl_ .u64 p2 (wu64 r0)) 4294967295)),(14,.int .u64 (Ch .u64 (shl_ .u64 p1 (wu64 r0)) 4294967295)),(15,.int .u64 s0),(16,.int .u64 s2.1),(17,.int .u64 (wu64 ((wu64 ((wu64 ((Qt .u64 (shl_ .u64 p0 (wu64 r0)) (shr_ .u64 p1 (wu64 (64-(wu64 r0)))))*4294967296))+(shr_ .u64 (shl_ .u64 p1 (wu64 r0)) 32)))-(wu64 (s0*(shl_ .u64 p2 (wu64 r0))))))),(18,.int .u64 s2.2),(113,.bool s3)]) (fun s3 y3=>[]++[.old w]) (fun s3 y3=>True) (fun s3 y3 hx71 hG3=>?_) (fun j2 hx67=>?_)
      ·refine Io (s:=113) rfl (fun h73=>?_) (fun h73=>?_)
       ·have hx74:=Gp h73 hx71;(iterate 25 refine Y ?_);refine Ti hx74 (s:=120) rfl (fun h76 hx77=>?_) (fun h76 hx78=>?_)
        ·refine Y2 ?_;refine Apv rfl ?_;obtain rfl:=Gg ht0 hx77;refine Y2 ?_;exact Mt (wu64 (s2.2-1)) () ho0 trivial (by exact .refl)
        ·refine Y3 ?_;exact Rp (wu64 (s2.1+(shr_ .u64 (shl_ .u64 p2 (wu64 r0)) 32)),wu64 (s2.2-1)) () hx78 trivial (by exact .refl)
       ·have hx75:=Kd h73 hx71;refine Y3 ?_;obtain rfl:=Gg ht0 hx75;refine Y2 ?_;exact Mt s2.2 () ho0 trivial (by exact .refl)
      ·refine Y4 ?_;refine Ti hx67 (s:=104) rfl (fun h68 hx69=>?_) (fun h68 hx70=>?_)
       ·refine Y10 ?_;exact Mt true () hx69 trivial (by exact .refl)
       ·refine Y10 ?_;exact Mt (decide ((wu64 ((wu64 (4294967296*s2.1))+(Ch .u64 (shl_ .u64 p1 (wu64 r0)) 4294967295)))<(wu64 (s2.2*(Ch .u64 (shl_ .u64 p2 (wu64 r0)) 4294967295))))) () hx70 trivial (by exact .refl)
    ·refine Y ?_;obtain⟨t1,hl1,ho1⟩:=An hx26;refine Lp (σ:=Int × Int) (γ:=Unit) hl1 (fun s4 y4=>[(2,.int .u64 (shl_ .u64 p2 (wu64 r0))),(8,.int .u64 (wu64 r0)),(9,.int .u64 (shr_ .u64 (shl_ .u64 p2 (wu64 r0)) 32)),(10,.int .u64 (Ch .u64 (shl_ .u64 p2 (wu64 r0)) 4294967295)),(11,.int .u64 (Qt .u64 (shl_ .u64 p0 (wu64 r0)) (shr_ .u64 p1 (wu64 (64-(wu64 r0)))))),(13,.int .u64 (shr_ .u64 (shl_ .u64 p1 (wu64 r0)) 32)),(14,.int .u64 (Ch .u64 (shl_ .u64 p1 (wu64 r0)) 4294967295)),(15,.int .u64 s4.1),(16,.int .u64 s4.2)]) (fun s4 y4=>[]++[.old w]) (fun s4 y4=>True) () trivial (by exact .refl) ?_;intro s4 y4 hG4 x1 hx39 ht1;unfold Og at hx39;refine Y ?_;refine Tj (γ:=Unit) hx39 (fun s5 y5=>[(2,.int .u64 (shl_ .u64 p2 (wu64 r0))),(8,.int .u64 (wu64 r0)),(9,.int .u64 (shr_ .u64 (shl_ .u64 p2 (wu64 r0)) 32)),(10,.int .u64 (Ch .u64 (shl_ .u64 p2 (wu64 r0)) 4294967295)),(11,.int .u64 (Qt .u64 (shl_ .u64 p0 (wu64 r0)) (shr_ .u64 p1 (wu64 (64-(wu64 r0)))))),(13,.int .u64 (shr_ .u64 (shl_ .u64 p1 (wu64 r0)) 32)),(14,.int .u64 (Ch .u64 (shl_ .u64 p1 (wu64 r0)) 4294967295)),(15,.int .u64 s4.1),(16,.int .u64 s4.2),(78,.bool s5)]) (fun s5 y5=>[]++[.old w]) (fun s5 y5=>True) (fun s5 y5 hx43 hG5=>?_) (fun j3 hx39=>?_)
     ·refine Io (s:=78) rfl (fun h45=>?_) (fun h45=>?_)
      ·have hx46:=Gp h45 hx43;(iterate 25 refine Y ?_);refine Ti hx46 (s:=85) rfl (fun h48 hx49=>?_) (fun h48 hx50=>?_)
       ·refine Y2 ?_;refine Apv rfl ?_;obtain rfl:=Gg ht1 hx49;refine Y2 ?_;exact Mt (wu64 (s4.1-1)) () ho1 trivial (by exact .refl)
       ·refine Y3 ?_;exact Rp (wu64 (s4.1-1),wu64 (s4.2+(shr_ .u64 (shl_ .u64 p2 (wu64 r0)) 32))) () hx50 trivial (by exact .refl)
      ·have hx47:=Kd h45 hx43;refine Y3 ?_;obtain rfl:=Gg ht1 hx47;refine Y2 ?_;exact Mt s4.1 () ho1 trivial (by exact .refl)
     ·refine Y4 ?_;refine Ti hx39 (s:=69) rfl (fun h40 hx41=>?_) (fun h40 hx42=>?_)
      ·refine Y10 ?_;exact Mt true () hx41 trivial (by exact .refl)
      ·refine Y10 ?_;exact Mt (decide ((wu64 ((wu64 (4294967296*s4.2))+(shr_ .u64 (shl_ .u64 p1 (wu64 r0)) 32)))<(wu64 (s4.1*(Ch .u64 (shl_ .u64 p2 (wu64 r0)) 4294967295))))) () hx42 trivial (by exact .refl)
instance math_bits_Div64_c(p0:Int)(p1:Int)(p2:Int):Con (Mk p0 p1 p2) prog 192 (fun _ vs=>vs=[.int .u64 p0,.int .u64 p1,.int .u64 p2]) (fun _ r=>fun v Ln=>v = .tuple #[.int .u64 r.1,.int .u64 r.2]/\Ln=[]/\True):=⟨by
 rintro _ _ r rfl hx w hK;exact Aek p0 p1 p2 hx w⟩
theorem Ab6(p0:Gl)(p1:Int)(p2:Int){r:Gl}(hx:Fi p0 p1 p2=some r)(w:World):CtL prog 191 [.agg #[.int .u64 p0.hi,.int .u64 p0.lo],iq p1,iq p2] w fun v Ln=>v = .agg #[.int .u64 r.hi,.int .u64 r.lo]/\Ln=[]/\True:=by
 refine CtL.mk 39 func191 rfl ntmps191 kr rfl ?_;show T 39 _ [(0,.agg #[.int .u64 p0.hi,.int .u64 p0.lo]),(1,iq p1),(2,iq p2)] _;unfold Fi at hx;refine Y2 ?_;refine T_x (Pn rfl rfl rfl (fun g1=>?_));refine T_x (Bu Aw0 rfl (fun g2=>?_));refine Y5 ?_;refine As (Xf rfl kr underlying167) rfl ?_;refine Y ?_;refine As (Xf rfl kr underlying167) rfl ?_;obtain⟨r3,h4,hx5⟩:=An hx;refine Tc (fun w1 hw1=>Aei (wu64 p1) (wu64 p2)  h4 w1) ?_;refine Y9 ?_;refine As (Be rfl Aoi rfl) rfl ?_;refine As (Bf rfl (i:=1) rfl rfl Aqe) rfl ?_;refine Y ?_;obtain⟨h6,hx7⟩:=Bo hx5;refine As (Aza rfl (fun w=>Ago h6 w)) rfl ?_;refine Y9 ?_;refine As (Be rfl Aoj rfl) rfl ?_;refine As (Bf rfl (i:=1) rfl rfl Aqe) rfl ?_;refine Y2 ?_;obtain⟨h8,hx9⟩:=Bo hx7;refine As (Aza rfl (fun w=>Ago h8 w)) rfl ?_;refine Y11 ?_;refine As (Ex rfl (Ahx _ _)) rfl ?_;refine T_h (Az rfl rfl rfl (.here) (.put (.put (.done))) rfl (List.cons_ne_nil _ _) Aqf.2 ?_);refine Y3 ?_;obtain rfl:=Option.some.inj hx9;exact Cz (rs:=[.cell 6 219]) results191 (.cell rfl (i:=0) rfl rfl Aqf (.nil)) (Ln:=[]) ⟨rfl,rfl,trivial⟩ Co (by exact .drop 0 rfl (.drop 0 rfl (.refl)))
instance surface_wide_plus_c(p0:Gl)(p1:Int)(p2:Int):Con (Fi p0 p1 p2) prog 191 (fun _ vs=>vs=[.agg #[.int .u64 p0.hi,.int .u64 p0.lo],iq p1,iq p2]) (fun _ r=>fun v Ln=>v = .agg #[.int .u64 r.hi,.int .u64 r.lo]/\Ln=[]/\True):=⟨by
 rintro _ _ r rfl hx w hK;exact Ab6 p0 p1 p2 hx w⟩
instance Ahz(p0:Aj)(p1:Aj):Con (Kh p0 p1) prog 134 (fun _ vs=>vs=[.agg #[iq p0.a0,iq p0.a1,iq p0.a2],.agg #[iq p1.a0,iq p1.a1,iq p1.a2]]) (fun _ r=>fun v Ln=>v = .tuple #[iq r.1,iq r.2]/\Ln=[]/\True):=⟨by
 rintro _ _ r rfl hx w hK;unfold Kh at hx;have:=dl 6 [1,0,0,1,0,0,1,0,0,2,3] [0,1,2,3,4,5,6,7,8,9,10];refine CtS ntmps134 results134 ?_;try (refine pre ?_;intros;rename_i hx)
 refine Cq1 (s:=57) hx rfl (fun _ hx=>?_) (fun _ hx=>?_)
 ·exact au
 ·exact au⟩
theorem Aae(p0:Aj)(p1:Aj){r:Int × Int}(hx:Kh p0 p1=some r)(w:World):CtL prog 134 [.agg #[iq p0.a0,iq p0.a1,iq p0.a2],.agg #[iq p1.a0,iq p1.a1,iq p1.a2]] w fun v Ln=>v = .tuple #[iq r.1,iq r.2]/\Ln=[]/\True:=(Ahz p0 p1).h [] _ _ rfl hx w (fun _ h=>absurd h List.not_mem_nil)
theorem Afs(p0:Aq)(p1:Int)(p2:Ab){K:List Ent}{U0:Option Addr}{E0:Nat}{U1:Option Addr}{E1:Nat}{U2:Option Addr}{E2:Nat}(ha0:Has K U0 p0.V.length E0 4 Ak p0.V)(ha1:Has K U1 p0.T.length E1 3 Aw p0.T)(ha2:Has K U2 p0.Lines.length E2 2 Ar p0.Lines){r:Ax}(hx:Ot p0 p1 p2=some r)(w:World)(hK:∀ e∈K,Ent.ok w e):CtL prog 76 [.agg #[.slice U0 p0.V.length E0,.slice U1 p0.T.length E1,.slice U2 p0.Lines.length E2],iq p1,.agg #[iq p2.X,iq p2.Y]] w fun v Ln=>v = .agg #[iq r.Lo,iq r.Hi]/\Ln=[]/\True:=by
 have ha0':=Has.up0 ha0;have ha1':=Has.up0 ha1;have ha2':=Has.up0 ha2;refine CtL.mk 82 func76 rfl ntmps76 kr rfl ?_;show T 82 _ [(0,.agg #[.slice U0 p0.V.length E0,.slice U1 p0.T.length E1,.slice U2 p0.Lines.length E2]),(1,iq p1),(2,.agg #[iq p2.X,iq p2.Y])] _;unfold Ot at hx;refine Y2 ?_;refine T_x (Pn rfl rfl rfl (fun g1=>?_));refine T_x (Pn rfl rfl rfl (fun g2=>?_));refine T_x (Bu Asa rfl (fun g3=>?_));refine Y4 ?_;refine As (Bp rfl (i:=2) rfl rfl Aov) rfl ?_;refine Y ?_;obtain⟨r4,h5,hx6⟩:=An hx;refine Tc (fun w1 hw1=>Aeh p0 p1 (Has.len' ha0') (Has.len' ha1') (Has.len' ha2') h5 w1 (Qz (K:=K) (K2:=[]) hK (by exact (sb 3)) (by exact SubE.nil) hw1)) ?_;refine T_x (Bu Awy rfl (fun g7=>?_));refine T_h (Az rfl rfl rfl (.here) (.put (.put (.put (.put (.put (.put (.done))))))) rfl (List.cons_ne_nil _ _) Awz.2 ?_);refine Y2 ?_;refine Tj (γ:=Nat) hx6 (fun s3 y3=>[(1,iq p1),(3,.pointer (some ⟨g1,0,none⟩)),(6,.pointer (some ⟨g3,0,none⟩)),(8,.pointer (some ⟨y3,0,none⟩))]) (fun s3 y3=>[.m y3 101 [iq s3.1,iq s3.2.1,iq s3.2.2],.m g3 28 [iq 0,iq 0],.m g1 26 [.slice U0 p0.V.length E0,.slice U1 p0.T.length E1,.slice U2 p0.Lines.length E2]]++[.old w]) (fun s3 y3=>True) (fun s3 y3 hx0 hG0=>?_) (fun j3 hx6=>?_)
 ·refine Y2 ?_;refine T_x (Bu Ae1 rfl (fun g0=>?_));refine T_x (Bu Ae1 rfl (fun g4=>?_));refine Y5 ?_;refine As (Be rfl Asn rfl) rfl ?_;refine As (Bf rfl (i:=4) rfl rfl Bci) rfl ?_;refine Y ?_;obtain⟨x0,h0,hx1⟩:=An hx0;have hw0:=Has.low (E:=[]) ha1' hK;obtain⟨b0,o0,j0,hA0,hj0,hl0,hp0⟩:=Has.at_idx hw0 h0;refine As (Bt rfl rfl hA0 (j:=j0) hj0 hl0 Bcj) rfl ?_;refine As (Di rfl hp0 (sb 5) rfl Zr) rfl ?_;refine Y4 ?_;refine Bcr 9 ?_;refine Akl ?_;refine Y9 ?_;refine Tj (γ:=Unit) hx1 (fun s9 y9=>[(3,.pointer (some ⟨g1,0,none⟩)),(6,.pointer (some ⟨g3,0,none⟩)),(8,.pointer (some ⟨y3,0,none⟩)),(9,.pointer (some ⟨g0,0,none⟩)),(10,.pointer (some ⟨g4,0,none⟩)),(43,.agg #[iq x0.a0,iq x0.a1,iq x0.a2]),(44,iq 0)]) (fun s9 y9=>[.m g4 101 [iq s9.2,iq 0,iq 0],.m g0 101 [iq s9.1,iq 0,iq 0],.m y3 101 [iq s3.1,iq s3.2.1,iq s3.2.2],.m g3 28 [iq 0,iq 0],.m g1 26 [.slice U0 p0.V.length E0,.slice U1 p0.T.length E1,.slice U2 p0.Lines.length E2]]++[.old w]) (fun s9 y9=>True) (fun s9 y9 hx2 hG1=>?_) (fun j9 hx1=>?_)
  ·refine Y ?_;refine As (Aiq (c:=1) rfl rfl dD) rfl ?_;refine Y2 ?_;refine Aid ?_;refine Akl ?_;refine Y9 ?_;refine Tj (γ:=Unit) hx2 (fun s0 y0=>[(3,.pointer (some ⟨g1,0,none⟩)),(6,.pointer (some ⟨g3,0,none⟩)),(8,.pointer (some ⟨y3,0,none⟩)),(9,.pointer (some ⟨g0,0,none⟩)),(10,.pointer (some ⟨g4,0,none⟩)),(43,.agg #[iq x0.a0,iq x0.a1,iq x0.a2]),(44,iq 1)]) (fun s0 y0=>[.m g4 101 [iq s9.2,iq s0.2,iq 0],.m g0 101 [iq s9.1,iq s0.1,iq 0],.m y3 101 [iq s3.1,iq s3.2.1,iq s3.2.2],.m g3 28 [iq 0,iq 0],.m g1 26 [.slice U0 p0.V.length E0,.slice U1 p0.T.length E1,.slice U2 p0.Lines.length E2]]++[.old w]) (fun s0 y0=>True) (fun s0 y0 hx3 hG2=>?_) (fun j1 hx2=>?_)
   ·refine Y ?_;refine As (Aiq (c:=2) rfl rfl dD) rfl ?_;refine Y2 ?_;refine Aid ?_;refine Akl ?_;refine Y9 ?_;refine Tj (γ:=Unit) hx3 (fun s1 y1=>[(3,.pointer (some ⟨g1,0,none⟩)),(6,.pointer (some ⟨g3,0,none⟩)),(8,.pointer (some ⟨y3,0,none⟩)),(9,.pointer (some ⟨g0,0,none⟩)),(10,.pointer (some ⟨g4,0,none⟩)),(43,.agg #[iq x0.a0,iq x0.a1,iq x0.a2]),(44,iq 2)]) (fun s1 y1=>[.m g4 101 [iq s9.2,iq s0.2,iq s1.2],.m g0 101 [iq s9.1,iq s0.1,iq s1.1],.m y3 101 [iq s3.1,iq s3.2.1,iq s3.2.2],.m g3 28 [iq 0,iq 0],.m g1 26 [.slice U0 p0.V.length E0,.slice U1 p0.T.length E1,.slice U2 p0.Lines.length E2]]++[.old w]) (fun s1 y1=>True) (fun s1 y1 hx4 hG3=>?_) (fun j2 hx3=>?_)
    ·refine Y ?_;refine As (Aiq (c:=3) rfl rfl dD) rfl ?_;refine Y2 ?_;refine Aid ?_;refine Akl ?_;(iterate 14 refine Y ?_);refine As (Bp rfl (i:=2) rfl rfl Zr) rfl ?_;refine As (Bp rfl (i:=1) rfl rfl Zr) rfl ?_;obtain⟨r0,h1,hx5⟩:=An hx4;refine Tc (fun w1 hw1=>Aae (⟨s3.1,s3.2.1,s3.2.2⟩:Aj) (⟨s9.1,s0.1,s1.1⟩:Aj)  h1 w1) ?_;refine Y9 ?_;refine As (Bp rfl (i:=2) rfl rfl Zr) rfl ?_;refine As (Bp rfl (i:=0) rfl rfl Zr) rfl ?_;obtain⟨r1,h2,hx7⟩:=An hx5;refine Tc (fun w1 hw1=>Aae (⟨s3.1,s3.2.1,s3.2.2⟩:Aj) (⟨s9.2,s0.2,s1.2⟩:Aj)  h2 w1) ?_;refine Y11 ?_;refine As (Ex rfl (Yh _ _)) rfl ?_;refine T_h (Az rfl rfl rfl (.there (.there (.there (.here)))) (.put (.put (.done))) rfl (List.cons_ne_nil _ _) Acv.2 ?_);refine Y3 ?_;obtain rfl:=Option.some.inj hx7;exact Cz (rs:=[.cell 6 28]) results76 (.cell rfl (i:=3) rfl rfl Acv (.nil)) (Ln:=[]) ⟨rfl,rfl,trivial⟩ Co (by exact .drop 0 rfl (.drop 0 rfl (.drop 0 rfl (.drop 0 rfl (.drop 0 rfl (.refl))))))
    ·refine Y4 ?_;refine As (Ade (kd:=.i64) rfl rfl rfl (Ai5 _ _ _) (show idx [x0.a0,x0.a1,x0.a2] 2=some x0.a2 from rfl)) rfl ?_;refine Y4 ?_;obtain⟨x1,h3,hx8⟩:=An hx3;obtain⟨x2,h4,hx9⟩:=An hx8;refine T_dr [0,0,0,1,0,0,0,0,1,0,2,0,0,0,0,2,0,3,0,3] (.q 0 (.q 1 (.q 2 (.q 3 (.q 4 (.q 5 (.q 6 (.q 7 (.q 8 (.q 9 (.q 11 (.q 16 (.e 10 (.q 12 (.q 13 (.q 14 (.e 15 (.e 17 (.q 18 (.e 19 (.done) (.stop))) (.stop)) (.e 17 (.e 15 (.q 18 (.e 19 (.done) (.stop))) (.stop)) (.stop)))))) (.e 17 (.e 10 (.q 12 (.q 13 (.q 14 (.e 15 (.q 18 (.e 19 (.done) (.stop))) (.stop))))) (.stop)) (.stop))))))))))))))) mixed kr kr ?_;refine Y2 ?_;refine P_p rfl rfl (Be rfl Aa5 rfl) rfl ?_;refine P_q rfl rfl (Bf rfl (i:=4) rfl rfl Yo) rfl ?_;refine Y ?_;have hw2:=Has.low (E:=[]) ha0' hK;obtain⟨b1,o1,j4,hA1,hj1,hl1,hp1⟩:=Has.at_idx hw2 h3;refine P_p rfl rfl (Bt rfl rfl hA1 (j:=j4) hj1 hl1 Ww) rfl ?_;refine P_p rfl rfl (Be rfl Te rfl) rfl ?_;refine P_p rfl rfl (Be rfl Ain rfl) rfl ?_;refine P_q rfl rfl (El (d:=2) rfl hp1 (sb 5) rfl one3) rfl ?_;refine P_p rfl rfl (Be rfl Aa5 rfl) rfl ?_;refine Y ?_;refine P_p rfl rfl (Bw rfl rfl Vo dD dD rfl) rfl ?_;refine P_x rfl (Ec (Bf rfl (i:=4) rfl rfl Yo) rfl ?_) ?_
     ·skip;have hw3:=Has.low (E:=[]) ha0' hK;obtain⟨b2,o2,j5,hA2,hj2,hl2,hp2⟩:=Has.at_idx hw3 h4;refine P_p rfl rfl (Bt rfl rfl hA2 (j:=j5) hj2 hl2 Ww) rfl ?_;refine P_p rfl rfl (Be rfl Te rfl) rfl ?_;refine P_p rfl rfl (Be rfl Abe rfl) rfl ?_;refine P_x rfl (Ec (El (d:=3) rfl hp2 (sb 5) rfl one3) rfl ?_) ?_
      ·skip;refine P_h rfl rfl (Az rfl rfl rfl (.there (.here)) (.skip (.skip (.put (.done)))) rfl (List.cons_ne_nil _ _) one3.2 ?_) ?_;rotate_left;exact Bj;refine P_p rfl rfl (Bw rfl rfl Vo dD dD rfl) rfl ?_;refine P_h rfl rfl (Az rfl rfl rfl (.here) (.skip (.skip (.put (.done)))) rfl (List.cons_ne_nil _ _) one3.2 ?_) ?_;rotate_left;exact Bj;refine Y2 ?_;exact Mt (x1.Z.Lo,x2.Z.Hi) () hx9 trivial (by exact .pick 0 rfl (.pick 0 rfl (.pick 0 rfl (.pick 0 rfl (.pick 0 rfl (.refl))))))
      ·skip;refine P_h rfl rfl (Az rfl rfl rfl (.there (.here)) (.skip (.skip (.put (.done)))) rfl (List.cons_ne_nil _ _) one3.2 ?_) ?_;rotate_left;exact Bj;refine P_x rfl (Ec (El (d:=3) rfl hp2 (sb 5) rfl one3) rfl ?_) ?_;rotate_left;exact Bj;refine P_p rfl rfl (Bw rfl rfl Vo dD dD rfl) rfl ?_;refine P_h rfl rfl (Az rfl rfl rfl (.here) (.skip (.skip (.put (.done)))) rfl (List.cons_ne_nil _ _) one3.2 ?_) ?_;rotate_left;exact Bj;refine Y2 ?_;exact Mt (x1.Z.Lo,x2.Z.Hi) () hx9 trivial (by exact .pick 0 rfl (.pick 0 rfl (.pick 0 rfl (.pick 0 rfl (.pick 0 rfl (.refl))))))
     ·skip;refine P_h rfl rfl (Az rfl rfl rfl (.there (.here)) (.skip (.skip (.put (.done)))) rfl (List.cons_ne_nil _ _) one3.2 ?_) ?_;rotate_left;exact Bj;refine P_x rfl (Ec (Bf rfl (i:=4) rfl rfl Yo) rfl ?_) ?_;rotate_left;exact Bj;have hw4:=Has.low (E:=[]) ha0' hK;obtain⟨b3,o3,j6,hA3,hj3,hl3,hp3⟩:=Has.at_idx hw4 h4;refine P_p rfl rfl (Bt rfl rfl hA3 (j:=j6) hj3 hl3 Ww) rfl ?_;refine P_p rfl rfl (Be rfl Te rfl) rfl ?_;refine P_p rfl rfl (Be rfl Abe rfl) rfl ?_;refine P_x rfl (Ec (El (d:=3) rfl hp3 (sb 5) rfl one3) rfl ?_) ?_;rotate_left;exact Bj;refine P_p rfl rfl (Bw rfl rfl Vo dD dD rfl) rfl ?_;refine P_h rfl rfl (Az rfl rfl rfl (.here) (.skip (.skip (.put (.done)))) rfl (List.cons_ne_nil _ _) one3.2 ?_) ?_;rotate_left;exact Bj;refine Y2 ?_;exact Mt (x1.Z.Lo,x2.Z.Hi) () hx9 trivial (by exact .pick 0 rfl (.pick 0 rfl (.pick 0 rfl (.pick 0 rfl (.pick 0 rfl (.refl))))))
   ·refine Y4 ?_;refine As (Ade (kd:=.i64) rfl rfl rfl (Ai5 _ _ _) (show idx [x0.a0,x0.a1,x0.a2] 1=some x0.a1 from rfl)) rfl ?_;refine Y4 ?_;obtain⟨x3,h6,hx10⟩:=An hx2;obtain⟨x4,h7,hx11⟩:=An hx10;refine T_dr [0,0,0,1,0,0,0,0,1,0,2,0,0,0,0,2,0,3,0,3] (.q 0 (.q 1 (.q 2 (.q 3 (.q 4 (.q 5 (.q 6 (.q 7 (.q 8 (.q 9 (.q 11 (.q 16 (.e 10 (.q 12 (.q 13 (.q 14 (.e 15 (.e 17 (.q 18 (.e 19 (.done) (.stop))) (.stop)) (.e 17 (.e 15 (.q 18 (.e 19 (.done) (.stop))) (.stop)) (.stop)))))) (.e 17 (.e 10 (.q 12 (.q 13 (.q 14 (.e 15 (.q 18 (.e 19 (.done) (.stop))) (.stop))))) (.stop)) (.stop))))))))))))))) mixed kr kr ?_;refine Y2 ?_;refine P_p rfl rfl (Be rfl Aa5 rfl) rfl ?_;refine P_q rfl rfl (Bf rfl (i:=4) rfl rfl Yo) rfl ?_;refine Y ?_;have hw5:=Has.low (E:=[]) ha0' hK;obtain⟨b4,o4,j7,hA4,hj4,hl4,hp4⟩:=Has.at_idx hw5 h6;refine P_p rfl rfl (Bt rfl rfl hA4 (j:=j7) hj4 hl4 Ww) rfl ?_;refine P_p rfl rfl (Be rfl Te rfl) rfl ?_;refine P_p rfl rfl (Be rfl Ain rfl) rfl ?_;refine P_q rfl rfl (El (d:=2) rfl hp4 (sb 5) rfl one3) rfl ?_;refine P_p rfl rfl (Be rfl Aa5 rfl) rfl ?_;refine Y ?_;refine P_p rfl rfl (Bw rfl rfl Vo dD dD rfl) rfl ?_;refine P_x rfl (Ec (Bf rfl (i:=4) rfl rfl Yo) rfl ?_) ?_
    ·skip;have hw6:=Has.low (E:=[]) ha0' hK;obtain⟨b5,o5,j8,hA5,hj5,hl5,hp5⟩:=Has.at_idx hw6 h7;refine P_p rfl rfl (Bt rfl rfl hA5 (j:=j8) hj5 hl5 Ww) rfl ?_;refine P_p rfl rfl (Be rfl Te rfl) rfl ?_;refine P_p rfl rfl (Be rfl Abe rfl) rfl ?_;refine P_x rfl (Ec (El (d:=3) rfl hp5 (sb 5) rfl one3) rfl ?_) ?_
     ·skip;refine P_h rfl rfl (Az rfl rfl rfl (.there (.here)) (.skip (.put (.done))) rfl (List.cons_ne_nil _ _) one3.2 ?_) ?_;rotate_left;exact Bj;refine P_p rfl rfl (Bw rfl rfl Vo dD dD rfl) rfl ?_;refine P_h rfl rfl (Az rfl rfl rfl (.here) (.skip (.put (.done))) rfl (List.cons_ne_nil _ _) one3.2 ?_) ?_;rotate_left;exact Bj;refine Y2 ?_;exact Mt (x3.Z.Lo,x4.Z.Hi) () hx11 trivial (by exact .pick 0 rfl (.pick 0 rfl (.pick 0 rfl (.pick 0 rfl (.pick 0 rfl (.refl))))))
     ·skip;refine P_h rfl rfl (Az rfl rfl rfl (.there (.here)) (.skip (.put (.done))) rfl (List.cons_ne_nil _ _) one3.2 ?_) ?_;rotate_left;exact Bj;refine P_x rfl (Ec (El (d:=3) rfl hp5 (sb 5) rfl one3) rfl ?_) ?_;rotate_left;exact Bj;refine P_p rfl rfl (Bw rfl rfl Vo dD dD rfl) rfl ?_;refine P_h rfl rfl (Az rfl rfl rfl (.here) (.skip (.put (.done))) rfl (List.cons_ne_nil _ _) one3.2 ?_) ?_;rotate_left;exact Bj;refine Y2 ?_;exact Mt (x3.Z.Lo,x4.Z.Hi) () hx11 trivial (by exact .pick 0 rfl (.pick 0 rfl (.pick 0 rfl (.pick 0 rfl (.pick 0 rfl (.refl))))))
    ·skip;refine P_h rfl rfl (Az rfl rfl rfl (.there (.here)) (.skip (.put (.done))) rfl (List.cons_ne_nil _ _) one3.2 ?_) ?_;rotate_left;exact Bj;refine P_x rfl (Ec (Bf rfl (i:=4) rfl rfl Yo) rfl ?_) ?_;rotate_left;exact Bj;have hw7:=Has.low (E:=[]) ha0' hK;obtain⟨b6,o6,j10,hA6,hj6,hl6,hp6⟩:=Has.at_idx hw7 h7;refine P_p rfl rfl (Bt rfl rfl hA6 (j:=j10) hj6 hl6 Ww) rfl ?_;refine P_p rfl rfl (Be rfl Te rfl) rfl ?_;refine P_p rfl rfl (Be rfl Abe rfl) rfl ?_;refine P_x rfl (Ec (El (d:=3) rfl hp6 (sb 5) rfl one3) rfl ?_) ?_;rotate_left;exact Bj;refine P_p rfl rfl (Bw rfl rfl Vo dD dD rfl) rfl ?_;refine P_h rfl rfl (Az rfl rfl rfl (.here) (.skip (.put (.done))) rfl (List.cons_ne_nil _ _) one3.2 ?_) ?_;rotate_left;exact Bj;refine Y2 ?_;exact Mt (x3.Z.Lo,x4.Z.Hi) () hx11 trivial (by exact .pick 0 rfl (.pick 0 rfl (.pick 0 rfl (.pick 0 rfl (.pick 0 rfl (.refl))))))
  ·refine Y4 ?_;refine As (Ade (kd:=.i64) rfl rfl rfl (Ai5 _ _ _) (show idx [x0.a0,x0.a1,x0.a2] 0=some x0.a0 from rfl)) rfl ?_;refine Y4 ?_;obtain⟨x5,h8,hx62⟩:=An hx1;obtain⟨x6,h52,hx63⟩:=An hx62;refine T_dr [0,0,0,1,0,0,0,0,1,0,2,0,0,0,0,2,0,3,0,3] (.q 0 (.q 1 (.q 2 (.q 3 (.q 4 (.q 5 (.q 6 (.q 7 (.q 8 (.q 9 (.q 11 (.q 16 (.e 10 (.q 12 (.q 13 (.q 14 (.e 15 (.e 17 (.q 18 (.e 19 (.done) (.stop))) (.stop)) (.e 17 (.e 15 (.q 18 (.e 19 (.done) (.stop))) (.stop)) (.stop)))))) (.e 17 (.e 10 (.q 12 (.q 13 (.q 14 (.e 15 (.q 18 (.e 19 (.done) (.stop))) (.stop))))) (.stop)) (.stop))))))))))))))) mixed kr kr ?_;refine Y2 ?_;refine P_p rfl rfl (Be rfl Aa5 rfl) rfl ?_;refine P_q rfl rfl (Bf rfl (i:=4) rfl rfl Yo) rfl ?_;refine Y ?_;have hw8:=Has.low (E:=[]) ha0' hK;obtain⟨b7,o7,j66,hA7,hj7,hl7,hp7⟩:=Has.at_idx hw8 h8;refine P_p rfl rfl (Bt rfl rfl hA7 (j:=j66) hj7 hl7 Ww) rfl ?_;refine P_p rfl rfl (Be rfl Te rfl) rfl ?_;refine P_p rfl rfl (Be rfl Ain rfl) rfl ?_;refine P_q rfl rfl (El (d:=2) rfl hp7 (sb 5) rfl one3) rfl ?_;refine P_p rfl rfl (Be rfl Aa5 rfl) rfl ?_;refine Y ?_;refine P_p rfl rfl (Bw rfl rfl Vo dD dD rfl) rfl ?_;refine P_x rfl (Ec (Bf rfl (i:=4) rfl rfl Yo) rfl ?_) ?_
   ·skip;have hw9:=Has.low (E:=[]) ha0' hK;obtain⟨b8,o8,j74,hA8,hj8,hl8,hp8⟩:=Has.at_idx hw9 h52;refine P_p rfl rfl (Bt rfl rfl hA8 (j:=j74) hj8 hl8 Ww) rfl ?_;refine P_p rfl rfl (Be rfl Te rfl) rfl ?_;refine P_p rfl rfl (Be rfl Abe rfl) rfl ?_;refine P_x rfl (Ec (El (d:=3) rfl hp8 (sb 5) rfl one3) rfl ?_) ?_
    ·skip;refine P_h rfl rfl (Az rfl rfl rfl (.there (.here)) (.put (.done)) rfl (List.cons_ne_nil _ _) one3.2 ?_) ?_;rotate_left;exact Bj;refine P_p rfl rfl (Bw rfl rfl Vo dD dD rfl) rfl ?_;refine P_h rfl rfl (Az rfl rfl rfl (.here) (.put (.done)) rfl (List.cons_ne_nil _ _) one3.2 ?_) ?_;rotate_left;exact Bj;refine Y2 ?_;exact Mt (x5.Z.Lo,x6.Z.Hi) () hx63 trivial (by exact .pick 0 rfl (.pick 0 rfl (.pick 0 rfl (.pick 0 rfl (.pick 0 rfl (.refl))))))
    ·skip;refine P_h rfl rfl (Az rfl rfl rfl (.there (.here)) (.put (.done)) rfl (List.cons_ne_nil _ _) one3.2 ?_) ?_;rotate_left;exact Bj;refine P_x rfl (Ec (El (d:=3) rfl hp8 (sb 5) rfl one3) rfl ?_) ?_;rotate_left;exact Bj;refine P_p rfl rfl (Bw rfl rfl Vo dD dD rfl) rfl ?_;refine P_h rfl rfl (Az rfl rfl rfl (.here) (.put (.done)) rfl (List.cons_ne_nil _ _) one3.2 ?_) ?_;rotate_left;exact Bj;refine Y2 ?_;exact Mt (x5.Z.Lo,x6.Z.Hi) () hx63 trivial (by exact .pick 0 rfl (.pick 0 rfl (.pick 0 rfl (.pick 0 rfl (.pick 0 rfl (.refl))))))
   ·skip;refine P_h rfl rfl (Az rfl rfl rfl (.there (.here)) (.put (.done)) rfl (List.cons_ne_nil _ _) one3.2 ?_) ?_;rotate_left;exact Bj;refine P_x rfl (Ec (Bf rfl (i:=4) rfl rfl Yo) rfl ?_) ?_;rotate_left;exact Bj;have hw87:=Has.low (E:=[]) ha0' hK;obtain⟨b9,o9,j82,hA9,hj9,hl9,hp9⟩:=Has.at_idx hw87 h52;refine P_p rfl rfl (Bt rfl rfl hA9 (j:=j82) hj9 hl9 Ww) rfl ?_;refine P_p rfl rfl (Be rfl Te rfl) rfl ?_;refine P_p rfl rfl (Be rfl Abe rfl) rfl ?_;refine P_x rfl (Ec (El (d:=3) rfl hp9 (sb 5) rfl one3) rfl ?_) ?_;rotate_left;exact Bj;refine P_p rfl rfl (Bw rfl rfl Vo dD dD rfl) rfl ?_;refine P_h rfl rfl (Az rfl rfl rfl (.here) (.put (.done)) rfl (List.cons_ne_nil _ _) one3.2 ?_) ?_;rotate_left;exact Bj;refine Y2 ?_;exact Mt (x5.Z.Lo,x6.Z.Hi) () hx63 trivial (by exact .pick 0 rfl (.pick 0 rfl (.pick 0 rfl (.pick 0 rfl (.pick 0 rfl (.refl))))))
 ·obtain⟨r8,h9,hx18⟩:=An hx6;obtain⟨r2,h12,hx19⟩:=An hx18;obtain⟨r3,h15,hx20⟩:=An hx19;refine T_dr [0,1,0,1,1,2,0,1,0,1,1,2,0,1,0,1,1,2,0,2,3] (.q 0 (.q 1 (.q 2 (.q 3 (.q 4 (.q 6 (.q 7 (.q 8 (.q 9 (.q 10 (.q 12 (.q 13 (.q 14 (.q 15 (.q 16 (.e 5 (.e 11 (.e 17 (.q 18 (.e 19 (.e 20 (.done) (.stop)) (.stop))) (.e 19 (.e 17 (.q 18 (.e 20 (.done) (.stop))) (.stop)) (.stop))) (.e 19 (.e 11 (.e 17 (.q 18 (.e 20 (.done) (.stop))) (.stop)) (.stop)) (.stop))) (.e 19 (.e 5 (.e 11 (.e 17 (.q 18 (.e 20 (.done) (.stop))) (.stop)) (.stop)) (.stop)) (.stop)))))))))))))))))) mixed kr kr ?_;refine P_p rfl rfl (Bw rfl rfl Aeg dD dD rfl) rfl ?_;refine P_q rfl rfl (Bp rfl (i:=0) rfl rfl Uf) rfl ?_;refine P_p rfl rfl (Bw rfl rfl Aeg dD dD rfl) rfl ?_;refine P_q rfl rfl (Bp rfl (i:=0) rfl rfl Uf) rfl ?_;refine P_q rfl rfl (Bp rfl (i:=2) rfl rfl Uf) rfl ?_;refine P_p rfl rfl (Bw rfl rfl Aeg dD dD rfl) rfl ?_;refine P_q rfl rfl (Bp rfl (i:=0) rfl rfl Uf) rfl ?_;refine P_p rfl rfl (Bw rfl rfl Aeg dD dD rfl) rfl ?_;refine P_q rfl rfl (Bp rfl (i:=0) rfl rfl Uf) rfl ?_;refine P_q rfl rfl (Bp rfl (i:=2) rfl rfl Uf) rfl ?_;refine P_p rfl rfl (Bw rfl rfl Aeg dD dD rfl) rfl ?_;refine P_q rfl rfl (Bp rfl (i:=0) rfl rfl Uf) rfl ?_;refine P_p rfl rfl (Bw rfl rfl Aeg dD dD rfl) rfl ?_;refine P_q rfl rfl (Bp rfl (i:=0) rfl rfl Uf) rfl ?_;refine P_q rfl rfl (Bp rfl (i:=2) rfl rfl Uf) rfl ?_;refine P_x rfl (Bv rfl (fun w1 hw1=>En (⟨r4.a1.X,r4.a1.Y⟩:Ab) (⟨r4.a2.X,r4.a2.Y⟩:Ab) p2  h9 w1) rfl ?_) ?_
  ·skip;rintro _ _ hlo ⟨rfl,rfl,-⟩;refine Yg ?_;refine P_x rfl (Bv rfl (fun w1 hw1=>En (⟨r4.a2.X,r4.a2.Y⟩:Ab) (⟨r4.a0.X,r4.a0.Y⟩:Ab) p2  h12 w1) rfl ?_) ?_
   ·skip;rintro _ _ hlo ⟨rfl,rfl,-⟩;refine Yg ?_;refine P_x rfl (Bv rfl (fun w1 hw1=>En (⟨r4.a0.X,r4.a0.Y⟩:Ab) (⟨r4.a1.X,r4.a1.Y⟩:Ab) p2  h15 w1) rfl ?_) ?_
    ·skip;rintro _ _ hlo ⟨rfl,rfl,-⟩;refine Yg ?_;refine P_p rfl rfl (Ex rfl (Gz _ _ _)) rfl ?_;refine P_x rfl (Bu Ae1 rfl (fun g5=>?_)) ?_;rotate_left;exact Bj;refine P_h rfl rfl (Az rfl rfl rfl (.here) (.put (.put (.put (.done)))) rfl (List.cons_ne_nil _ _) Zr.2 ?_) ?_;rotate_left;exact Bj;refine Y ?_;exact Mt (r8,r2,r3) g5 hx20 trivial (by exact .pick 0 rfl (.pick 1 rfl (.pick 2 rfl (.drop 0 rfl (.drop 0 rfl (.refl))))))
    ·skip;refine P_x rfl (Bu Ae1 rfl (fun g6=>?_)) ?_;rotate_left;exact Bj;refine Pc (fun w1 hw1=>En (⟨r4.a0.X,r4.a0.Y⟩:Ab) (⟨r4.a1.X,r4.a1.Y⟩:Ab) p2  h15 w1) ?_;refine P_p rfl rfl (Ex rfl (Gz _ _ _)) rfl ?_;refine P_h rfl rfl (Az rfl rfl rfl (.here) (.put (.put (.put (.done)))) rfl (List.cons_ne_nil _ _) Zr.2 ?_) ?_;rotate_left;exact Bj;refine Y ?_;exact Mt (r8,r2,r3) g6 hx20 trivial (by exact .pick 0 rfl (.pick 1 rfl (.pick 2 rfl (.drop 0 rfl (.drop 0 rfl (.refl))))))
   ·skip;refine P_x rfl (Bu Ae1 rfl (fun g8=>?_)) ?_;rotate_left;exact Bj;refine Pc (fun w1 hw1=>En (⟨r4.a2.X,r4.a2.Y⟩:Ab) (⟨r4.a0.X,r4.a0.Y⟩:Ab) p2  h12 w1) ?_;refine Pc (fun w1 hw1=>En (⟨r4.a0.X,r4.a0.Y⟩:Ab) (⟨r4.a1.X,r4.a1.Y⟩:Ab) p2  h15 w1) ?_;refine P_p rfl rfl (Ex rfl (Gz _ _ _)) rfl ?_;refine P_h rfl rfl (Az rfl rfl rfl (.here) (.put (.put (.put (.done)))) rfl (List.cons_ne_nil _ _) Zr.2 ?_) ?_;rotate_left;exact Bj;refine Y ?_;exact Mt (r8,r2,r3) g8 hx20 trivial (by exact .pick 0 rfl (.pick 1 rfl (.pick 2 rfl (.drop 0 rfl (.drop 0 rfl (.refl))))))
  ·skip;refine P_x rfl (Bu Ae1 rfl (fun g9=>?_)) ?_;rotate_left;exact Bj;refine Pc (fun w1 hw1=>En (⟨r4.a1.X,r4.a1.Y⟩:Ab) (⟨r4.a2.X,r4.a2.Y⟩:Ab) p2  h9 w1) ?_;refine Pc (fun w1 hw1=>En (⟨r4.a2.X,r4.a2.Y⟩:Ab) (⟨r4.a0.X,r4.a0.Y⟩:Ab) p2  h12 w1) ?_;refine Pc (fun w1 hw1=>En (⟨r4.a0.X,r4.a0.Y⟩:Ab) (⟨r4.a1.X,r4.a1.Y⟩:Ab) p2  h15 w1) ?_;refine P_p rfl rfl (Ex rfl (Gz _ _ _)) rfl ?_;refine P_h rfl rfl (Az rfl rfl rfl (.here) (.put (.put (.put (.done)))) rfl (List.cons_ne_nil _ _) Zr.2 ?_) ?_;rotate_left;exact Bj;refine Y ?_;exact Mt (r8,r2,r3) g9 hx20 trivial (by exact .pick 0 rfl (.pick 1 rfl (.pick 2 rfl (.drop 0 rfl (.drop 0 rfl (.refl))))))
instance surface_Bounds_c(p0:Aq)(p1:Int)(p2:Ab):Con (Ot p0 p1 p2) prog 76 (fun K vs=>∃ U0 E0 U1 E1 U2 E2,vs=[.agg #[.slice U0 p0.V.length E0,.slice U1 p0.T.length E1,.slice U2 p0.Lines.length E2],iq p1,.agg #[iq p2.X,iq p2.Y]]/\Has K U0 p0.V.length E0 4 Ak p0.V/\Has K U1 p0.T.length E1 3 Aw p0.T/\Has K U2 p0.Lines.length E2 2 Ar p0.Lines/\True) (fun _ r=>fun v Ln=>v = .agg #[iq r.Lo,iq r.Hi]/\Ln=[]/\True):=⟨by
 rintro K _ r ⟨U0,E0,U1,E1,U2,E2,rfl,ha0,ha1,ha2,-⟩ hx w hK;exact Afs p0 p1 p2 ha0 ha1 ha2 hx w hK⟩
instance label_gap_c(p0:Ax)(p1:Ax):Con (Xm p0 p1) prog 75 (fun _ vs=>vs=[.agg #[iq p0.Lo,iq p0.Hi],.agg #[iq p1.Lo,iq p1.Hi]]) (fun _ r=>fun v Ln=>v = iq r/\Ln=[]/\True):=⟨by
 rintro _ _ r rfl hx w hK;unfold Xm at hx;refine CtS ntmps75 results75 ?_;exact au⟩
instance label_gentle_c(p0:Int)(p1:Int)(p2:Int):Con (Sd p0 p1 p2) prog 77 (fun _ vs=>vs=[iq p0,iq p1,iq p2]) (fun _ r=>fun v Ln=>v = .bool r/\Ln=[]/\True):=⟨by
 rintro _ _ r rfl hx w hK;unfold Sd at hx;refine CtS ntmps77 results77 ?_;exact au⟩
instance Amr(p0:Aq)(p1:Aa)(p2:Af):Con (Vh p0 p1 p2) prog 34 (fun K vs=>∃ U0 E0 U1 E1 U2 E2,vs=[.agg #[.slice U0 p0.V.length E0,.slice U1 p0.T.length E1,.slice U2 p0.Lines.length E2],.agg #[iq p1.Id,iq p1.X,iq p1.Y,iq p1.Z.Lo,iq p1.Z.Hi,iq p1.Wide,iq p1.Num,iq p1.Of,iq p1.Class],.agg #[iq p2.Cell,iq p2.Reach,iq p2.Slope,iq p2.Link,iq p2.Flat,iq p2.Tall,iq p2.High,iq p2.Low,iq p2.Brush,iq p2.Few]]/\Has K U0 p0.V.length E0 4 Ak p0.V/\Has K U1 p0.T.length E1 3 Aw p0.T/\Has K U2 p0.Lines.length E2 2 Ar p0.Lines/\True) (fun _ r=>fun v Ln=>v = .tuple #[iq r.1,.bool r.2.1,iq r.2.2]/\Ln=[]/\True):=⟨by
 rintro K _ r ⟨U0,E0,U1,E1,U2,E2,rfl,ha0,ha1,ha2,-⟩ hx w hK;replace ha0:=Has.lo ha0 hK;replace ha1:=Has.lo ha1 hK;replace ha2:=Has.lo ha2 hK;unfold Vh at hx;have:=dl 1 [1,1,2,2,2] [0,1,2,3,4];have:=dl 4 [0,1,1,0,1,2,2,2,2] [0,1,2,3,4,5,6,7,8];have:=dl 11 [0,1,0,1,2,1,2,1,2,2,0,1,2,0] [0,1,2,3,5,7,10,11,4,6,8,9,12,13];refine CtS ntmps34 results34 ?_;try (refine pre ?_;intros;rename_i hx)
 refine Cq1 (s:=19) hx rfl (fun _ hx=>?_) (fun _ hx=>?_)
 ·exact au
 ·try (refine pre ?_;intros;rename_i hx)
  refine Cq1 (s:=32) hx rfl (fun _ hx=>?_) (fun _ hx=>?_)
  ·exact au
  ·try (refine pre ?_;intros;rename_i hx)
   apply Jr (γ:=Unit) hx [9,10] (fun s10 y10 f=>f) [999] (fun s10 y10 l=>l);exact kk
   ·intro s10 y10 hx;exact au
   ·intro _ hx;try (refine pre ?_;intros;rename_i hx)
    apply Lr (γ:=Unit) hx [3,4,5,9,10,38] (fun s73 y73 f=>(39,iq s73)::f) [0,1,2,999] (fun s73 y73 l=>l) ();exact kk;exact sk;intro s73 y73 x73 hx _;unfold Qp at hx;exact au⟩
theorem Akp(p0:Aq)(p1:Aa)(p2:Af){K:List Ent}{U0:Option Addr}{E0:Nat}{U1:Option Addr}{E1:Nat}{U2:Option Addr}{E2:Nat}(ha0:Has K U0 p0.V.length E0 4 Ak p0.V)(ha1:Has K U1 p0.T.length E1 3 Aw p0.T)(ha2:Has K U2 p0.Lines.length E2 2 Ar p0.Lines){r:Int × Bool × Int}(hx:Vh p0 p1 p2=some r)(w:World)(hK:∀ e∈K,Ent.ok w e):CtL prog 34 [.agg #[.slice U0 p0.V.length E0,.slice U1 p0.T.length E1,.slice U2 p0.Lines.length E2],.agg #[iq p1.Id,iq p1.X,iq p1.Y,iq p1.Z.Lo,iq p1.Z.Hi,iq p1.Wide,iq p1.Num,iq p1.Of,iq p1.Class],.agg #[iq p2.Cell,iq p2.Reach,iq p2.Slope,iq p2.Link,iq p2.Flat,iq p2.Tall,iq p2.High,iq p2.Low,iq p2.Brush,iq p2.Few]] w fun v Ln=>v = .tuple #[iq r.1,.bool r.2.1,iq r.2.2]/\Ln=[]/\True:=(Amr p0 p1 p2).h K _ _ ⟨_,_,_,_,_,_,rfl,ha0,ha1,ha2,trivial⟩ hx w hK
end
end Go.Proofs.YthlkpgdfifnagaaGreat
