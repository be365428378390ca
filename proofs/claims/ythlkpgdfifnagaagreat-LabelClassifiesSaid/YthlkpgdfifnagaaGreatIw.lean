import Derived.Test.YthlkpgdfifnagaaGreatX3
set_option maxRecDepth 100000
set_option maxHeartbeats 1000000
namespace Go.Proofs.YthlkpgdfifnagaaGreat
open Go Go.RowKit Tryz List
noncomputable section
instance:Um prog 162 [.int .i64 0,.int .i64 0,.int .i64 0,.int .i64 0,.int .i64 0,.int .i64 0]:=⟨⟨_,zeroValue162,rfl⟩⟩
instance:ArrI prog 162 3 2:=⟨.mk underlying162 (show prog.info? 57=some t57 from by kernel_rfl) kr⟩
instance:AggI prog 162 6:=⟨.arr underlying162 (show prog.info? 162=some t162 from by kernel_rfl) kr⟩
instance:OneI prog 9:=⟨.mk underlying9 rfl (show prog.info? 9=some Tryz.t9 from by kernel_rfl) kr⟩
theorem Axx:Wt prog 219 [.int .u64 0,.int .u64 0]:=⟨_,zeroValue219,rfl⟩
instance:Um prog 219 [.int .u64 0,.int .u64 0]:=⟨Axx⟩
theorem An2:Vy prog 219 1 1:=.mk underlying219 rfl rfl (show prog.info? 167=some t167 from by kernel_rfl) (show t167.size=1 from by kernel_rfl) rfl
instance:Br prog 219 1 1:=⟨An2⟩
theorem Aqa:Yj prog 167:=.mk underlying167 rfl (show prog.info? 167=some t167 from by kernel_rfl) kr
instance:OneI prog 167:=⟨Aqa⟩
theorem An3:Vy prog 219 0 0:=.mk underlying219 rfl rfl (show prog.info? 167=some t167 from by kernel_rfl) (show t167.size=1 from by kernel_rfl) rfl
instance:Br prog 219 0 0:=⟨An3⟩
theorem Agw(x0:Int)(x1:Int):Ahf prog 219 [(0,.int .u64 x0),(1,.int .u64 x1)] [.int .u64 x0,.int .u64 x1]:=fun w=>kr
theorem Aqb:Yi prog 219 2:=.mk underlying219 rfl (show prog.info? 219=some t219 from by kernel_rfl) kr
instance:AggI prog 219 2:=⟨Aqb⟩
instance:Um prog 28 [.int .i64 0,.int .i64 0]:=⟨⟨_,zeroValue28,rfl⟩⟩
def Fy(p0:Ab)(p1:Ab)(p2:Ab):Option Int :=
 some (w64 ((w64 ((w64 (p1.X-p0.X))*(w64 (p2.Y-p0.Y))))-(w64 ((w64 (p1.Y-p0.Y))*(w64 (p2.X-p0.X))))))
def Kk(p0:Ae):Option Ab :=
 some (⟨p0.X,p0.Y⟩:Ab)
structure Ac8 where
 a0:Ab
 a1:Ab
 a2:Ab
theorem Axy(x0:Int)(x1:Int)(x2:Int):Alc prog 101 [.int .i64 x0,.int .i64 x1,.int .i64 x2]:=by
 intro j h k w;have h':j<3:=h
 match j,h,h' with
 |0,_,_=>exact (show (Instr.index 101 (.agg ([.int .i64 x0,.int .i64 x1,.int .i64 x2]:LV).toArray) (.int k ((0:Nat):Int))).run prog w=.ok (.int .i64 x0) w by kernel_rfl)
 |1,_,_=>exact (show (Instr.index 101 (.agg ([.int .i64 x0,.int .i64 x1,.int .i64 x2]:LV).toArray) (.int k ((1:Nat):Int))).run prog w=.ok (.int .i64 x1) w by kernel_rfl)
 |2,_,_=>exact (show (Instr.index 101 (.agg ([.int .i64 x0,.int .i64 x1,.int .i64 x2]:LV).toArray) (.int k ((2:Nat):Int))).run prog w=.ok (.int .i64 x2) w by kernel_rfl)
instance(x0:Int)(x1:Int)(x2:Int):Aya prog 101 [.int .i64 x0,.int .i64 x1,.int .i64 x2]:=⟨Axy _ _ _⟩
instance(x0:Int)(x1:Int)(x2:Int):Asj prog 101 [.int .i64 x0,.int .i64 x1,.int .i64 x2] (Value.int .i64) [x0,x1,x2]:=⟨Axy _ _ _⟩
def Mw(p0:Ak)(p1:Int):Option Ac8 :=
 bnd (idx p0.T p1) fun x4=>
 bnd (idx p0.V x4.a0) fun x0=>
 bnd (Kk x0) fun r0=>
 bnd (idx p0.V x4.a1) fun x1=>
 bnd (Kk x1) fun r1=>
 bnd (idx p0.V x4.a2) fun x2=>
 bnd (Kk x2) fun r2=>
 some (⟨r0,r1,r2⟩:Ac8)
def Nq(p0:Ak)(p1:Ab):Int->Option (Sum Int (Sum Unit Int)):=fun s0=>
 if s0<(p0.T.length:Int) then (bnd (Mw p0 s0) fun r0=>
 jn (fun (s1:Bool)=>
 if s1=true then (some (.inr (.inr s0)))
 else (some (.inl (w64 (s0+1)))))
 (fun j0=>bnd (Fy (⟨r0.a0.X,r0.a0.Y⟩:Ab) (⟨r0.a1.X,r0.a1.Y⟩:Ab) p1) fun r1=>
 if 0<=r1 then (bnd (Fy (⟨r0.a1.X,r0.a1.Y⟩:Ab) (⟨r0.a2.X,r0.a2.Y⟩:Ab) p1) fun r2=>
 if 0<=r2 then (bnd (Fy (⟨r0.a2.X,r0.a2.Y⟩:Ab) (⟨r0.a0.X,r0.a0.Y⟩:Ab) p1) fun r3=>
 j0 (decide (0<=r3)))
 else (j0 false))
 else (j0 false)))
 else (some (.inr (.inl ())))
def Pj(p0:Ak)(p1:Ab):Option Int :=
 jn (fun (s2:Unit)=>
 some (-1))
 (fun j2=>bnd (lfix (Nq p0 p1) 0) fun t0=>
 (match t0 with
 |(.inl z0)=>j2 z0
 |(.inr z0)=>some z0
 ))
def Hb(p0:Int)(p1:Int):Option (Int×Int):=
 some (wu64 ((wu64 ((wu64 ((shr_ .u64 p0 32)*(shr_ .u64 p1 32)))+(shr_ .u64 (wu64 ((wu64 ((shr_ .u64 p0 32)*(De .u64 p1 4294967295)))+(shr_ .u64 (wu64 ((De .u64 p0 4294967295)*(De .u64 p1 4294967295))) 32))) 32)))+(shr_ .u64 (wu64 ((De .u64 (wu64 ((wu64 ((shr_ .u64 p0 32)*(De .u64 p1 4294967295)))+(shr_ .u64 (wu64 ((De .u64 p0 4294967295)*(De .u64 p1 4294967295))) 32))) 4294967295)+(wu64 ((De .u64 p0 4294967295)*(shr_ .u64 p1 32))))) 32)),wu64 (p0*p1))
instance:UndI prog 5 (.int .u8):=⟨underlying5⟩
def Ob:LI:=[0,1,2,2,3,3,3,3,4,4,4,4,4,4,4,4,5,5,5,5,5,5,5,5,5,5,5,5,5,5,5,5,6,6,6,6,6,6,6,6,6,6,6,6,6,6,6,6,6,6,6,6,6,6,6,6,6,6,6,6,6,6,6,6,7,7,7,7,7,7,7,7,7,7,7,7,7,7,7,7,7,7,7,7,7,7,7,7,7,7,7,7,7,7,7,7,7,7,7,7,7,7,7,7,7,7,7,7,7,7,7,7,7,7,7,7,7,7,7,7,7,7,7,7,7,7,7,7,8,8,8,8,8,8,8,8,8,8,8,8,8,8,8,8,8,8,8,8,8,8,8,8,8,8,8,8,8,8,8,8,8,8,8,8,8,8,8,8,8,8,8,8,8,8,8,8,8,8,8,8,8,8,8,8,8,8,8,8,8,8,8,8,8,8,8,8,8,8,8,8,8,8,8,8,8,8,8,8,8,8,8,8,8,8,8,8,8,8,8,8,8,8,8,8,8,8,8,8,8,8,8,8,8,8,8,8,8,8,8,8,8,8,8,8,8,8,8,8,8,8,8,8,8,8,8,8]
def Mx(p0:Int):Option Int :=
 jn (fun (s2:Int×Int)=>
 jn (fun (s5:Int×Int)=>
 jn (fun (s8:Int×Int)=>
 bnd (idx Ob (wu8 s8.1)) fun x0=>
 some (w64 (s8.2+(w64 x0))))
 (fun j8=>if 256<=s5.1 then (j8 (shr_ .u64 s5.1 8,w64 (s5.2+8)))
 else (j8 (s5.1,s5.2))))
 (fun j5=>if 65536<=s2.1 then (j5 (shr_ .u64 s2.1 16,w64 (s2.2+16)))
 else (j5 (s2.1,s2.2))))
 (fun j2=>if 4294967296<=p0 then (j2 (shr_ .u64 p0 32,32))
 else (j2 (p0,0)))
def Ey(p0:Int):Option Int :=
 bnd (Mx p0) fun r1=>
 some (w64 (64-r1))
instance:UndI prog 144 (.int .u64):=⟨underlying144⟩
def Ok(p2:Int)(r0:Int)(p1:Int):(Int×Int)->Option (Sum (Int×Int) Int):=fun s0=>
 jn (fun (s1:Bool)=>
 if s1=true then (if 4294967296<=(wu64 (s0.2+(shr_ .u64 (shl_ .u64 p2 (wu64 r0)) 32))) then (some (.inr (wu64 (s0.1-1))))
 else (some (.inl (wu64 (s0.1-1),wu64 (s0.2+(shr_ .u64 (shl_ .u64 p2 (wu64 r0)) 32))))))
 else (some (.inr s0.1)))
 (fun j0=>if 4294967296<=s0.1 then (j0 true)
 else (j0 (decide ((wu64 ((wu64 (4294967296*s0.2))+(shr_ .u64 (shl_ .u64 p1 (wu64 r0)) 32)))<(wu64 (s0.1*(De .u64 (shl_ .u64 p2 (wu64 r0)) 4294967295)))))))
def Ol(p2:Int)(r0:Int)(p1:Int):(Int×Int)->Option (Sum (Int×Int) Int):=fun s0=>
 jn (fun (s1:Bool)=>
 if s1=true then (if 4294967296<=(wu64 (s0.1+(shr_ .u64 (shl_ .u64 p2 (wu64 r0)) 32))) then (some (.inr (wu64 (s0.2-1))))
 else (some (.inl (wu64 (s0.1+(shr_ .u64 (shl_ .u64 p2 (wu64 r0)) 32)),wu64 (s0.2-1)))))
 else (some (.inr s0.2)))
 (fun j0=>if 4294967296<=s0.2 then (j0 true)
 else (j0 (decide ((wu64 ((wu64 (4294967296*s0.1))+(De .u64 (shl_ .u64 p1 (wu64 r0)) 4294967295)))<(wu64 (s0.2*(De .u64 (shl_ .u64 p2 (wu64 r0)) 4294967295)))))))
def Qj(p0:Int)(p1:Int)(p2:Int):Option (Int×Int):=
 if p2=0 then none
 else (if p2<=p0 then none
 else (if p0=0 then (gd (p2≠0)<|
 gd (p2≠0)<|
 some (wu64 (Int.tdiv p1 p2),Int.tmod p1 p2))
 else (bnd (Ey p2) fun r0=>
 gd (0<=(wu64 r0))<|
 gd (0<=(wu64 r0))<|
 gd (0<=(wu64 (64-(wu64 r0))))<|
 gd (0<=(wu64 r0))<|
 gd ((shr_ .u64 (shl_ .u64 p2 (wu64 r0)) 32)≠0)<|
 jn (fun (s0:Int)=>
 gd ((shr_ .u64 (shl_ .u64 p2 (wu64 r0)) 32)≠0)<|
 jn (fun (s1:Int)=>
 gd (0<=(wu64 r0))<|
 some (wu64 ((wu64 (s0*4294967296))+s1),shr_ .u64 (wu64 ((wu64 ((wu64 ((wu64 ((wu64 ((wu64 ((Wn .u64 (shl_ .u64 p0 (wu64 r0)) (shr_ .u64 p1 (wu64 (64-(wu64 r0)))))*4294967296))+(shr_ .u64 (shl_ .u64 p1 (wu64 r0)) 32)))-(wu64 (s0*(shl_ .u64 p2 (wu64 r0))))))*4294967296))+(De .u64 (shl_ .u64 p1 (wu64 r0)) 4294967295)))-(wu64 (s1*(shl_ .u64 p2 (wu64 r0)))))) (wu64 r0)))
 (fun j0=>bnd (lfix (Ol p2 r0 p1) (wu64 ((wu64 ((wu64 ((wu64 ((Wn .u64 (shl_ .u64 p0 (wu64 r0)) (shr_ .u64 p1 (wu64 (64-(wu64 r0)))))*4294967296))+(shr_ .u64 (shl_ .u64 p1 (wu64 r0)) 32)))-(wu64 (s0*(shl_ .u64 p2 (wu64 r0))))))-(wu64 ((wu64 (Int.tdiv (wu64 ((wu64 ((wu64 ((Wn .u64 (shl_ .u64 p0 (wu64 r0)) (shr_ .u64 p1 (wu64 (64-(wu64 r0)))))*4294967296))+(shr_ .u64 (shl_ .u64 p1 (wu64 r0)) 32)))-(wu64 (s0*(shl_ .u64 p2 (wu64 r0)))))) (shr_ .u64 (shl_ .u64 p2 (wu64 r0)) 32)))*(shr_ .u64 (shl_ .u64 p2 (wu64 r0)) 32)))),wu64 (Int.tdiv (wu64 ((wu64 ((wu64 ((Wn .u64 (shl_ .u64 p0 (wu64 r0)) (shr_ .u64 p1 (wu64 (64-(wu64 r0)))))*4294967296))+(shr_ .u64 (shl_ .u64 p1 (wu64 r0)) 32)))-(wu64 (s0*(shl_ .u64 p2 (wu64 r0)))))) (shr_ .u64 (shl_ .u64 p2 (wu64 r0)) 32)))) fun t0=>
 j0 t0))
 (fun j1=>bnd (lfix (Ok p2 r0 p1) (wu64 (Int.tdiv (Wn .u64 (shl_ .u64 p0 (wu64 r0)) (shr_ .u64 p1 (wu64 (64-(wu64 r0))))) (shr_ .u64 (shl_ .u64 p2 (wu64 r0)) 32)),wu64 ((Wn .u64 (shl_ .u64 p0 (wu64 r0)) (shr_ .u64 p1 (wu64 (64-(wu64 r0)))))-(wu64 ((wu64 (Int.tdiv (Wn .u64 (shl_ .u64 p0 (wu64 r0)) (shr_ .u64 p1 (wu64 (64-(wu64 r0))))) (shr_ .u64 (shl_ .u64 p2 (wu64 r0)) 32)))*(shr_ .u64 (shl_ .u64 p2 (wu64 r0)) 32)))))) fun t1=>
 j1 t1))))
structure Gj where
 hi:Int
 lo:Int
theorem Afr{x y c:Int}(h:(((0:Int)<=x/\(0:Int)<=y)/\(0:Int)<=c/\c<=(1:Int)))(w:World):(callFunc 239 #[.int .u64 x,.int .u64 y,.int .u64 c]).run prog w=.ok (.value (.tuple #[.int .u64 ((x+y+c)%18446744073709551616),.int .u64 ((x+y+c)/18446744073709551616)])) w:=by
 rw[run_callFunc_extern func239 kr kr kr (e:=add64Entry) kr,run_add64 x y c h.1.1 h.1.2 h.2.1 h.2.2];rfl
instance{x y c:Int}:ExtI prog 239 [.int .u64 x,.int .u64 y,.int .u64 c] (((0:Int)<=x/\(0:Int)<=y)/\(0:Int)<=c/\c<=(1:Int)) (.tuple [.int .u64 ((x+y+c)%18446744073709551616),.int .u64 ((x+y+c)/18446744073709551616)].toArray):=⟨fun h w=>Afr h w⟩
def El(p0:Gj)(p1:Int)(p2:Int):Option Gj :=
 bnd (Hb (wu64 p1) (wu64 p2)) fun r3=>
 gd ((((0:Int)<=p0.lo/\(0:Int)<=r3.2)/\(0:Int)<=0/\0<=(1:Int)))<|
 gd ((((0:Int)<=p0.hi/\(0:Int)<=r3.1)/\(0:Int)<=((p0.lo+r3.2+0)/18446744073709551616)/\((p0.lo+r3.2+0)/18446744073709551616)<=(1:Int)))<|
 some (⟨(p0.hi+r3.1+((p0.lo+r3.2+0)/18446744073709551616))%18446744073709551616,(p0.lo+r3.2+0)%18446744073709551616⟩:Gj)
def Oc(p0:Ag)(p1:Ag):Option (Int×Int):=
 bnd (El (⟨0,0⟩:Gj) p0.a0 (w64 (p1.a0-(min (min p1.a0 p1.a1) p1.a2)))) fun r4=>
 bnd (El r4 p0.a1 (w64 (p1.a1-(min (min p1.a0 p1.a1) p1.a2)))) fun r7=>
 bnd (El r7 p0.a2 (w64 (p1.a2-(min (min p1.a0 p1.a1) p1.a2)))) fun r0=>
 bnd (Qj r0.hi r0.lo (wu64 (w64 ((w64 (p0.a0+p0.a1))+p0.a2)))) fun r1=>
 if 0<r1.2 then (some (w64 ((min (min p1.a0 p1.a1) p1.a2)+(w64 r1.1)),w64 ((w64 ((min (min p1.a0 p1.a1) p1.a2)+(w64 r1.1)))+1)))
 else (some (w64 ((min (min p1.a0 p1.a1) p1.a2)+(w64 r1.1)),w64 ((min (min p1.a0 p1.a1) p1.a2)+(w64 r1.1))))
def Pk(p0:Ak)(p1:Int)(p2:Ab):Option Av :=
 bnd (Mw p0 p1) fun r4=>
 bnd (Fy (⟨r4.a1.X,r4.a1.Y⟩:Ab) (⟨r4.a2.X,r4.a2.Y⟩:Ab) p2) fun r8=>
 bnd (Fy (⟨r4.a2.X,r4.a2.Y⟩:Ab) (⟨r4.a0.X,r4.a0.Y⟩:Ab) p2) fun r0=>
 bnd (Fy (⟨r4.a0.X,r4.a0.Y⟩:Ab) (⟨r4.a1.X,r4.a1.Y⟩:Ab) p2) fun r1=>
 bnd (idx p0.T p1) fun x0=>
 jn (fun (s9:Int×Int)=>
 jn (fun (s0:Int×Int)=>
 jn (fun (s1:Int×Int)=>
 bnd (Oc (⟨r8,r0,r1⟩:Ag) (⟨s9.1,s0.1,s1.1⟩:Ag)) fun r2=>
 bnd (Oc (⟨r8,r0,r1⟩:Ag) (⟨s9.2,s0.2,s1.2⟩:Ag)) fun r3=>
 some (⟨r2.1,r3.2⟩:Av))
 (fun j0=>bnd (idx p0.V x0.a2) fun x1=>
 bnd (idx p0.V x0.a2) fun x2=>
 j0 (x1.Z.Lo,x2.Z.Hi)))
 (fun j1=>bnd (idx p0.V x0.a1) fun x3=>
 bnd (idx p0.V x0.a1) fun x4=>
 j1 (x3.Z.Lo,x4.Z.Hi)))
 (fun j9=>bnd (idx p0.V x0.a0) fun x5=>
 bnd (idx p0.V x0.a0) fun x6=>
 j9 (x5.Z.Lo,x6.Z.Hi))
def Vp(p0:Av)(p1:Av):Option Int :=
 some (max (max 0 (w64 (p0.Lo-p1.Hi))) (w64 (p1.Lo-p0.Hi)))
def Sj(p0:Int)(p1:Int)(p2:Int):Option Bool :=
 bnd (Hb (wu64 ((wu64 p0)*(wu64 p0))) 1000000) fun r1=>
 bnd (Hb (wu64 ((wu64 p2)*(wu64 p2))) (wu64 p1)) fun r4=>
 jn (fun (s4:Bool)=>
 some s4)
 (fun j4=>if r1.1<r4.1 then (j4 true)
 else (if r1.1=r4.1 then (j4 (decide (r1.2<=r4.2)))
 else (j4 false)))
def Qu(x0:Ag)(p0:Ak)(p1:Aa)(p2:Af)(r7:Int):Int->Option (Sum Int (Sum Unit (Int×Bool×Int))):=fun s0=>
 if s0<3 then (bnd (idx [x0.a0,x0.a1,x0.a2] s0) fun x1=>
 bnd (idx p0.V x1) fun x2=>
 bnd (Vp p1.Z x2.Z) fun r0=>
 bnd (Bt p1) fun r1=>
 bnd (Kk x2) fun r2=>
 bnd (Mf r1 r2) fun r3=>
 bnd (Sj r0 r3 p2.Slope) fun r4=>
 if r4=true then (some (.inl (w64 (s0+1))))
 else (some (.inr (.inr (r7,false,0)))))
 else (some (.inr (.inl ())))
def Yc(p0:Ak)(p1:Aa)(p2:Af):Option (Int×Bool×Int):=
 bnd (Bt p1) fun r4=>
 bnd (Pj p0 r4) fun r7=>
 if r7<0 then (some (r7,false,0))
 else (bnd (Bt p1) fun r0=>
 bnd (Pk p0 r7 r0) fun r1=>
 bnd (Vp p1.Z r1) fun r2=>
 if p2.Reach<r2 then (some (r7,false,0))
 else (jn (fun (s0:Unit)=>
 some (r7,true,r2))
 (fun j0=>bnd (idx p0.T r7) fun x0=>
 bnd (lfix (Qu x0 p0 p1 p2 r7) 0) fun t0=>
 (match t0 with
 |(.inl z0)=>j0 z0
 |(.inr z0)=>some z0
 ))))
instance(p0:Ab)(p1:Ab)(p2:Ab):Con (Fy p0 p1 p2) prog 133 (fun _ vs=>vs=[.agg #[.int .i64 p0.X,.int .i64 p0.Y],.agg #[.int .i64 p1.X,.int .i64 p1.Y],.agg #[.int .i64 p2.X,.int .i64 p2.Y]]) (fun _ r=>fun v Ln=>v=.int .i64 r/\Ln=[]/\True):=⟨by
 rintro _ _ r rfl hx w hK;unfold Fy at hx;refine CtS ntmps133 results133 ?_;exact au⟩
instance(p0:Ae):Con (Kk p0) prog 79 (fun _ vs=>vs=[.agg #[.int .i64 p0.X,.int .i64 p0.Y,.int .i64 p0.Z.Lo,.int .i64 p0.Z.Hi]]) (fun _ r=>fun v Ln=>v=.agg #[.int .i64 r.X,.int .i64 r.Y]/\Ln=[]/\True):=⟨by
 rintro _ _ r rfl hx w hK;unfold Kk at hx;refine CtS ntmps79 results79 ?_;exact au⟩
instance(p0:Ak)(p1:Int):Con (Mw p0 p1) prog 132 (fun K vs=>∃U0 E0 U1 E1 U2 E2,vs=[.agg #[.slice U0 p0.V.length E0,.slice U1 p0.T.length E1,.slice U2 p0.Lines.length E2],.int .i64 p1]/\Has K U0 p0.V.length E0 4 Al p0.V/\Has K U1 p0.T.length E1 3 Az p0.T/\Has K U2 p0.Lines.length E2 2 Ar p0.Lines/\True) (fun _ r=>fun v Ln=>v=.agg #[.int .i64 r.a0.X,.int .i64 r.a0.Y,.int .i64 r.a1.X,.int .i64 r.a1.Y,.int .i64 r.a2.X,.int .i64 r.a2.Y]/\Ln=[]/\True):=⟨by
 rintro K _ r ⟨U0,E0,U1,E1,U2,E2,rfl,ha0,ha1,ha2,-⟩ hx w hK;replace ha0:=ha0.lo hK;replace ha1:=ha1.lo hK;replace ha2:=ha2.lo hK;unfold Mw at hx;refine CtS ntmps132 results132 ?_;exact au⟩
instance(p0:Ak)(p1:Ab):Con (Pj p0 p1) prog 74 (fun K vs=>∃U0 E0 U1 E1 U2 E2,vs=[.agg #[.slice U0 p0.V.length E0,.slice U1 p0.T.length E1,.slice U2 p0.Lines.length E2],.agg #[.int .i64 p1.X,.int .i64 p1.Y]]/\Has K U0 p0.V.length E0 4 Al p0.V/\Has K U1 p0.T.length E1 3 Az p0.T/\Has K U2 p0.Lines.length E2 2 Ar p0.Lines/\True) (fun _ r=>fun v Ln=>v=.int .i64 r/\Ln=[]/\True):=⟨by
 rintro K _ r ⟨U0,E0,U1,E1,U2,E2,rfl,ha0,ha1,ha2,-⟩ hx w hK;replace ha0:=ha0.lo hK;replace ha1:=ha1.lo hK;replace ha2:=ha2.lo hK;unfold Pj at hx;refine CtS ntmps74 results74 ?_;refine pq ?_;intros;rename_i hx
 refine pA ?_;intros;rename_i hx
 apply Jr (γ:=Unit) hx [] (fun s2 y2 f=>f) [999] (fun s2 y2 l=>l);exact kk
 .exact aI
 .refine pI ?_;intros;rename_i hx
  apply Lr (γ:=Unit) hx [2,3,9] (fun s0 y0 f=>(10,.int .i64 s0)::f) [0,1,999] (fun s0 y0 l=>l) ();exact kk;exact sk;intro s0 y0 x0 hx _;unfold Nq at hx;refine pq ?_;intros;rename_i hx
  refine Cq1 (s:=11) hx rfl ?_ ?_
  .refine pI ?_;intros;rename_i hx
   apply Jr (γ:=Unit) hx [2,3,5,9,10] (fun s1 y1 f=>(40,.bool s1)::f) [1,2,999] (fun s1 y1 l=>l);exact kk
   .exact aI
   .exact aI
  .exact aI⟩
instance Aet(p0:Int)(p1:Int):Con (Hb p0 p1) prog 135 (fun _ vs=>vs=[.int .u64 p0,.int .u64 p1]) (fun _ r=>fun v Ln=>v=.tuple #[.int .u64 r.1,.int .u64 r.2]/\Ln=[]/\True):=⟨by
 rintro _ _ r rfl hx w hK;unfold Hb at hx;refine CtS ntmps135 results135 ?_;exact au⟩
theorem Adw(p0:Int)(p1:Int){r:Int×Int}(hx:Hb p0 p1=some r)(w:World):CtL prog 135 [.int .u64 p0,.int .u64 p1] w fun v Ln=>v=.tuple #[.int .u64 r.1,.int .u64 r.2]/\Ln=[]/\True:=(Aet p0 p1).h [] _ _ rfl hx w (fun _ h=>absurd h not_mem_nil)
theorem Adx(p0:Int){r:Int}(hx:Mx p0=some r)(w:World):CtL prog 167 [.int .u64 p0] w fun v Ln=>v=.int .i64 r/\Ln=[]/\True:=by
 refine CtL.mk 25 func167 rfl ntmps167 kr rfl ?_;show T 25 _ [(0,.int .u64 p0)] _;unfold Mx at hx;refine Y5 ?_;refine Tj (γ:=Unit) hx (fun s2 y2=>[(0,.int .u64 s2.1),(2,.int .i64 s2.2)]) (fun s2 y2=>[]++[.old w]) (fun s2 y2=>True) (fun s2 y2 hx4 hG5=>?_) (fun j2 hx=>?_)
 .refine Tj (γ:=Unit) hx4 (fun s5 y5=>[(0,.int .u64 s5.1),(2,.int .i64 s5.2)]) (fun s5 y5=>[]++[.old w]) (fun s5 y5=>True) (fun s5 y5 hx9 hG0=>?_) (fun j5 hx4=>?_)
  .refine Tj (γ:=Unit) hx9 (fun s8 y8=>[(0,.int .u64 s8.1),(2,.int .i64 s8.2)]) (fun s8 y8=>[]++[.old w]) (fun s8 y8=>True) (fun s8 y8 hx0 hG1=>?_) (fun j8 hx9=>?_)
   .refine Y4 ?_;refine Df (Am8 rfl kr underlying5) rfl ?_;obtain⟨x0,h0,hx1⟩:=Bh hx0;refine Df (Anm (ys:=Ob) rfl rfl underlying9 kr h0) rfl ?_;refine Df (Af4 rfl kr underlying3) rfl ?_;refine Y5 ?_;obtain rfl:=Option.some.inj hx1;exact Oz (rs:=[.tmp 2]) results167 (.tmp rfl (.nil)) (Ln:=[]) ⟨rfl,rfl,trivial⟩ Fw (by exact .refl)
   .refine Y6 ?_;refine Ti hx9 (s:=14) rfl (fun h2 hx5=>?_) (fun h2 hx6=>?_)
    .refine Y4 ?_;refine Df (Ag5 rfl rfl dD) rfl ?_;refine Y8 ?_;exact Mt (shr_ .u64 s5.1 8,w64 (s5.2+8)) () hx5 trivial (by exact .refl)
    .refine Y2 ?_;exact Mt (s5.1,s5.2) () hx6 trivial (by exact .refl)
  .refine Y6 ?_;refine Ti hx4 (s:=8) rfl (fun h6 hx7=>?_) (fun h6 hx8=>?_)
   .refine Y4 ?_;refine Df (Ag5 rfl rfl dD) rfl ?_;refine Y8 ?_;exact Mt (shr_ .u64 s2.1 16,w64 (s2.2+16)) () hx7 trivial (by exact .refl)
   .refine Y2 ?_;exact Mt (s2.1,s2.2) () hx8 trivial (by exact .refl)
 .refine Y6 ?_;refine Ti hx (s:=4) rfl (fun h1 hx2=>?_) (fun h1 hx3=>?_)
  .refine Y4 ?_;refine Df (Ag5 rfl rfl dD) rfl ?_;refine Y6 ?_;exact Mt (shr_ .u64 p0 32,32) () hx2 trivial (by exact .refl)
  .refine Y2 ?_;exact Mt (p0,0) () hx3 trivial (by exact .refl)
instance(p0:Int):Con (Mx p0) prog 167 (fun _ vs=>vs=[.int .u64 p0]) (fun _ r=>fun v Ln=>v=.int .i64 r/\Ln=[]/\True):=⟨by
 rintro _ _ r rfl hx w hK;exact Adx p0 hx w⟩
instance(p0:Int):Con (Ey p0) prog 240 (fun _ vs=>vs=[.int .u64 p0]) (fun _ r=>fun v Ln=>v=.int .i64 r/\Ln=[]/\True):=⟨by
 rintro _ _ r rfl hx w hK;unfold Ey at hx;refine CtS ntmps240 results240 ?_;exact au⟩
instance(p0:Int)(p1:Int)(p2:Int):Con (Qj p0 p1 p2) prog 192 (fun _ vs=>vs=[.int .u64 p0,.int .u64 p1,.int .u64 p2]) (fun _ r=>fun v Ln=>v=.tuple #[.int .u64 r.1,.int .u64 r.2]/\Ln=[]/\True):=⟨by
 rintro _ _ r rfl hx w hK;unfold Qj at hx;have:=dl 6 [0,0,0,0,0,0,2,2] [0,1,2,3,4,5,6,7];refine CtS ntmps192 results192 ?_;refine pq ?_;intros;rename_i hx
 refine Cq1 (s:=20) hx rfl ?_ ?_
 .exact aI
 .refine pI ?_;intros;rename_i hx
  refine Cq1 (s:=24) hx rfl ?_ ?_
  .exact aI
  .refine pI ?_;intros;rename_i hx
   refine Cq1 (s:=27) hx rfl ?_ ?_
   .exact aI
   .refine pI ?_;intros;rename_i hx
    refine pA ?_;intros;rename_i hx
    apply Jr (γ:=Unit) hx [2,8,9,10,11,13,14] (fun s0 y0 f=>(15,.int .u64 s0)::f) [999] (fun s0 y0 l=>l);exact kk
    .intro s0 y0 hx;refine pq ?_;intros;rename_i hx
     refine pA ?_;intros;rename_i hx
     refine pA ?_;intros;rename_i hx
     refine pA ?_;intros;rename_i hx
     apply Jr (γ:=Unit) hx [2,8,14,15,17] (fun s1 y1 f=>(18,.int .u64 s1)::f) [999] (fun s1 y1 l=>l);exact kk
     .exact aI
     .refine pI ?_;intros;rename_i hx
      apply Lr (γ:=Unit) hx [2,8,9,10,14,15,17] (fun s2 y2 f=>(16,.int .u64 s2.1)::(18,.int .u64 s2.2)::f) [999] (fun s2 y2 l=>l) ();exact kk;exact sk;intro s2 y2 x0 hx _;unfold Ol at hx;exact au
    .refine pI ?_;intros;rename_i hx
     apply Lr (γ:=Unit) hx [2,8,9,10,11,13,14] (fun s3 y3 f=>(15,.int .u64 s3.1)::(16,.int .u64 s3.2)::f) [999] (fun s3 y3 l=>l) ();exact kk;exact sk;intro s3 y3 x1 hx _;unfold Ok at hx;exact au⟩
theorem Ab1(p0:Gj)(p1:Int)(p2:Int){r:Gj}(hx:El p0 p1 p2=some r)(w:World):CtL prog 191 [.agg #[.int .u64 p0.hi,.int .u64 p0.lo],.int .i64 p1,.int .i64 p2] w fun v Ln=>v=.agg #[.int .u64 r.hi,.int .u64 r.lo]/\Ln=[]/\True:=by
 refine CtL.mk 39 func191 rfl ntmps191 kr rfl ?_;show T 39 _ [(0,.agg #[.int .u64 p0.hi,.int .u64 p0.lo]),(1,.int .i64 p1),(2,.int .i64 p2)] _;unfold El at hx;refine Y2 ?_;refine T_x (Aa5 rfl rfl rfl (fun g1=>?_));refine T_x (Tn Axx rfl (fun g2=>?_));refine Y5 ?_;refine Df (Aao rfl kr underlying167) rfl ?_;refine Y ?_;refine Df (Aao rfl kr underlying167) rfl ?_;obtain⟨r3,h4,hx5⟩:=Bh hx;refine Tc (fun w1 hw1=>Adw (wu64 p1) (wu64 p2)  h4 w1) ?_;refine Y9 ?_;refine Df (Tk rfl An2 rfl) rfl ?_;refine Df (Qp rfl (i:=1) rfl rfl Aqa) rfl ?_;refine Y ?_;obtain⟨h6,hx7⟩:=Ek hx5;refine Df (Awx rfl (fun w=>Afr h6 w)) rfl ?_;refine Y9 ?_;refine Df (Tk rfl An3 rfl) rfl ?_;refine Df (Qp rfl (i:=1) rfl rfl Aqa) rfl ?_;refine Y2 ?_;obtain⟨h8,hx9⟩:=Ek hx7;refine Df (Awx rfl (fun w=>Afr h8 w)) rfl ?_;refine Y11 ?_;refine Df (Aja rfl (Agw _ _)) rfl ?_;refine T_h (Rz rfl rfl rfl (.here) (.put (.put (.done))) rfl (cons_ne_nil _ _) Aqb.2 ?_);refine Y3 ?_;obtain rfl:=Option.some.inj hx9;exact Oz (rs:=[.cell 6 219]) results191 (.cell rfl (i:=0) rfl rfl Aqb (.nil)) (Ln:=[]) ⟨rfl,rfl,trivial⟩ Fw (by exact .drop 0 rfl (.drop 0 rfl (.refl)))
instance(p0:Gj)(p1:Int)(p2:Int):Con (El p0 p1 p2) prog 191 (fun _ vs=>vs=[.agg #[.int .u64 p0.hi,.int .u64 p0.lo],.int .i64 p1,.int .i64 p2]) (fun _ r=>fun v Ln=>v=.agg #[.int .u64 r.hi,.int .u64 r.lo]/\Ln=[]/\True):=⟨by
 rintro _ _ r rfl hx w hK;exact Ab1 p0 p1 p2 hx w⟩
instance(p0:Ag)(p1:Ag):Con (Oc p0 p1) prog 134 (fun _ vs=>vs=[.agg #[.int .i64 p0.a0,.int .i64 p0.a1,.int .i64 p0.a2],.agg #[.int .i64 p1.a0,.int .i64 p1.a1,.int .i64 p1.a2]]) (fun _ r=>fun v Ln=>v=.tuple #[.int .i64 r.1,.int .i64 r.2]/\Ln=[]/\True):=⟨by
 rintro _ _ r rfl hx w hK;unfold Oc at hx;have:=dl 6 [1,0,0,1,0,0,1,0,0,2,3] [0,1,2,3,4,5,6,7,8,9,10];refine CtS ntmps134 results134 ?_;refine pq ?_;intros;rename_i hx
 refine Cq1 (s:=57) hx rfl ?_ ?_
 .exact aI
 .exact aI⟩
instance(p0:Ak)(p1:Int)(p2:Ab):Con (Pk p0 p1 p2) prog 76 (fun K vs=>∃U0 E0 U1 E1 U2 E2,vs=[.agg #[.slice U0 p0.V.length E0,.slice U1 p0.T.length E1,.slice U2 p0.Lines.length E2],.int .i64 p1,.agg #[.int .i64 p2.X,.int .i64 p2.Y]]/\Has K U0 p0.V.length E0 4 Al p0.V/\Has K U1 p0.T.length E1 3 Az p0.T/\Has K U2 p0.Lines.length E2 2 Ar p0.Lines/\True) (fun _ r=>fun v Ln=>v=.agg #[.int .i64 r.Lo,.int .i64 r.Hi]/\Ln=[]/\True):=⟨by
 rintro K _ r ⟨U0,E0,U1,E1,U2,E2,rfl,ha0,ha1,ha2,-⟩ hx w hK;replace ha0:=ha0.lo hK;replace ha1:=ha1.lo hK;replace ha2:=ha2.lo hK;unfold Pk at hx;have:=dl 2 [0,1,0,1,1,2,0,1,0,1,1,2,0,1,0,1,1,2,0,4,3] [0,1,2,3,4,6,7,8,9,10,12,13,14,15,16,5,11,17,18,19,20] [19];have:=dp 7 [0,0,0,1,0,0,0,0,1,0,2,0,0,0,0,2,0,3,0,3] (.q 0 (.q 1 (.q 2 (.q 3 (.q 4 (.q 5 (.q 6 (.q 7 (.q 8 (.q 9 (.q 11 (.q 16 (.e 10 (.q 12 (.q 13 (.q 14 (.e 15 (.e 17 (.q 18 (.e 19 (.done) (.stop))) (.stop)) (.e 17 (.e 15 (.q 18 (.e 19 (.done) (.stop))) (.stop)) (.stop)))))) (.e 17 (.e 10 (.q 12 (.q 13 (.q 14 (.e 15 (.q 18 (.e 19 (.done) (.stop))) (.stop))))) (.stop)) (.stop)))))))))))))));refine CtS ntmps76 results76 ?_;refine pq ?_;intros;rename_i hx
 refine pA ?_;intros;rename_i hx
 refine pA ?_;intros;rename_i hx
 apply Jr (γ:=Nat×Nat) hx [3,6,8,43,44] (fun s9 y9 f=>(9,.pointer (some ⟨y9.2,0,none⟩))::(10,.pointer (some ⟨y9.1,0,none⟩))::f) [2,4,6,999] (fun s9 y9 l=>.m y9.1 101 [.int .i64 s9.2,.int .i64 0,.int .i64 0] :: .m y9.2 101 [.int .i64 s9.1,.int .i64 0,.int .i64 0]::l);exact kk
 .intro s9 y9 hx;refine pq ?_;intros;rename_i hx
  refine pA ?_;intros;rename_i hx
  refine pA ?_;intros;rename_i hx
  apply Jr (γ:=Nat×Nat) hx [3,6,8,43,44] (fun s0 y0 f=>(9,.pointer (some ⟨y0.2,0,none⟩))::(10,.pointer (some ⟨y0.1,0,none⟩))::f) [2,3,4,999] (fun s0 y0 l=>.m y0.1 101 [.int .i64 s9.2,.int .i64 s0.2,.int .i64 0] :: .m y0.2 101 [.int .i64 s9.1,.int .i64 s0.1,.int .i64 0]::l);exact kk
  .intro s0 y0 hx;refine pq ?_;intros;rename_i hx
   refine pA ?_;intros;rename_i hx
   refine pA ?_;intros;rename_i hx
   apply Jr (γ:=Nat×Nat) hx [3,6,8,43,44] (fun s1 y1 f=>(9,.pointer (some ⟨y1.2,0,none⟩))::(10,.pointer (some ⟨y1.1,0,none⟩))::f) [2,3,4,999] (fun s1 y1 l=>.m y1.1 101 [.int .i64 s9.2,.int .i64 s0.2,.int .i64 s1.2] :: .m y1.2 101 [.int .i64 s9.1,.int .i64 s0.1,.int .i64 s1.1]::l);exact kk
   .exact aI
   .exact aI
  .exact aI
 .exact aI⟩
instance(p0:Av)(p1:Av):Con (Vp p0 p1) prog 75 (fun _ vs=>vs=[.agg #[.int .i64 p0.Lo,.int .i64 p0.Hi],.agg #[.int .i64 p1.Lo,.int .i64 p1.Hi]]) (fun _ r=>fun v Ln=>v=.int .i64 r/\Ln=[]/\True):=⟨by
 rintro _ _ r rfl hx w hK;unfold Vp at hx;refine CtS ntmps75 results75 ?_;exact au⟩
instance(p0:Int)(p1:Int)(p2:Int):Con (Sj p0 p1 p2) prog 77 (fun _ vs=>vs=[.int .i64 p0,.int .i64 p1,.int .i64 p2]) (fun _ r=>fun v Ln=>v=.bool r/\Ln=[]/\True):=⟨by
 rintro _ _ r rfl hx w hK;unfold Sj at hx;refine CtS ntmps77 results77 ?_;exact au⟩
instance(p0:Ak)(p1:Aa)(p2:Af):Con (Yc p0 p1 p2) prog 34 (fun K vs=>∃U0 E0 U1 E1 U2 E2,vs=[.agg #[.slice U0 p0.V.length E0,.slice U1 p0.T.length E1,.slice U2 p0.Lines.length E2],.agg #[.int .i64 p1.Id,.int .i64 p1.X,.int .i64 p1.Y,.int .i64 p1.Z.Lo,.int .i64 p1.Z.Hi,.int .i64 p1.Wide,.int .i64 p1.Num,.int .i64 p1.Of,.int .i64 p1.Class],.agg #[.int .i64 p2.Cell,.int .i64 p2.Reach,.int .i64 p2.Slope,.int .i64 p2.Link,.int .i64 p2.Flat,.int .i64 p2.Tall,.int .i64 p2.High,.int .i64 p2.Low,.int .i64 p2.Brush,.int .i64 p2.Few]]/\Has K U0 p0.V.length E0 4 Al p0.V/\Has K U1 p0.T.length E1 3 Az p0.T/\Has K U2 p0.Lines.length E2 2 Ar p0.Lines/\True) (fun _ r=>fun v Ln=>v=.tuple #[.int .i64 r.1,.bool r.2.1,.int .i64 r.2.2]/\Ln=[]/\True):=⟨by
 rintro K _ r ⟨U0,E0,U1,E1,U2,E2,rfl,ha0,ha1,ha2,-⟩ hx w hK;replace ha0:=ha0.lo hK;replace ha1:=ha1.lo hK;replace ha2:=ha2.lo hK;unfold Yc at hx;have:=dl 1 [1,1,2,2,2] [0,1,2,3,4];have:=dl 4 [0,1,1,0,1,2,2,2,2] [0,1,2,3,4,5,6,7,8];have:=dl 11 [0,1,0,1,2,1,2,1,2,2,0,1,2,0] [0,1,2,3,5,7,10,11,4,6,8,9,12,13];refine CtS ntmps34 results34 ?_;refine pq ?_;intros;rename_i hx
 refine Cq1 (s:=19) hx rfl ?_ ?_
 .exact aI
 .refine pI ?_;intros;rename_i hx
  refine Cq1 (s:=32) hx rfl ?_ ?_
  .exact aI
  .refine pI ?_;intros;rename_i hx
   apply Jr (γ:=Unit) hx [9,10] (fun s10 y10 f=>f) [999] (fun s10 y10 l=>l);exact kk
   .exact aI
   .refine pI ?_;intros;rename_i hx
    apply Lr (γ:=Unit) hx [3,4,5,9,10,38] (fun s73 y73 f=>(39,.int .i64 s73)::f) [0,1,2,999] (fun s73 y73 l=>l) ();exact kk;exact sk;intro s73 y73 x73 hx _;unfold Qu at hx;exact au⟩
instance:Um prog 123 [.int .i64 0,.int .i64 0,.int .i64 0,.int .i64 0,.int .i64 0,.int .i64 0,.int .i64 0,.int .i64 0,.int .i64 0,.int .i64 0]:=⟨⟨_,zeroValue123,rfl⟩⟩
instance:AggI prog 123 10:=⟨.mk underlying123 rfl (show prog.info? 123=some t123 from by kernel_rfl) kr⟩
instance:Br prog 123 1 9:=⟨.mk underlying123 rfl rfl (show prog.info? 3=some Tryz.t3 from by kernel_rfl) (show Tryz.t3.size=1 from by kernel_rfl) rfl⟩
instance:Br prog 123 0 0:=⟨.mk underlying123 rfl rfl (show prog.info? 30=some t30 from by kernel_rfl) (show t30.size=9 from by kernel_rfl) rfl⟩
instance(x0:Int)(x1:Int)(x2:Int)(x3:Int)(x4:Int)(x5:Int)(x6:Int)(x7:Int)(x8:Int)(x9:Int):Iy prog 123 [(0,.agg #[.int .i64 x0,.int .i64 x1,.int .i64 x2,.int .i64 x3,.int .i64 x4,.int .i64 x5,.int .i64 x6,.int .i64 x7,.int .i64 x8]),(1,.int .i64 x9)] [.int .i64 x0,.int .i64 x1,.int .i64 x2,.int .i64 x3,.int .i64 x4,.int .i64 x5,.int .i64 x6,.int .i64 x7,.int .i64 x8,.int .i64 x9]:=⟨fun w=>kr⟩
def Dn(p0:LI)(p1:Int):Int->Option (Sum Int (Sum Unit Int)):=fun s0=>
 if s0<(p0.length:Int) then (bnd (idx p0 s0) fun x0=>
 if p1=x0 then (some (.inr (.inr s0)))
 else (some (.inl (w64 (s0+1)))))
 else (some (.inr (.inl ())))
def Ja(p0:LI)(p1:Int):Option Int :=
 jn (fun (s2:Unit)=>
 some (-1))
 (fun j2=>bnd (lfix (Dn p0 p1) 0) fun t0=>
 (match t0 with
 |(.inl z0)=>j2 z0
 |(.inr z0)=>some z0
 ))
def Ck(p0:LI)(p1:Int):Option Bool :=
 bnd (Ja p0 p1) fun r1=>
 some (decide (0<=r1))
instance:UndI prog 121 (.map 3 123):=⟨underlying121⟩
structure Ba where
 p:Aa
 far:Int
def Fz(x:Ba):Value:=.agg #[.int .i64 x.p.Id,.int .i64 x.p.X,.int .i64 x.p.Y,.int .i64 x.p.Z.Lo,.int .i64 x.p.Z.Hi,.int .i64 x.p.Wide,.int .i64 x.p.Num,.int .i64 x.p.Of,.int .i64 x.p.Class,.int .i64 x.far]
theorem Yu(x y:Ba)(h:Fz x=Fz y):x=y:=by
 rcases x with⟨⟨_,_,_,⟨_,_⟩,_,_,_,_⟩,_⟩;rcases y with⟨⟨_,_,_,⟨_,_⟩,_,_,_,_⟩,_⟩;simp[Fz] at h;simp[h]
instance(x:Ba):UnfI Fz x (.agg #[.int .i64 x.p.Id,.int .i64 x.p.X,.int .i64 x.p.Y,.int .i64 x.p.Z.Lo,.int .i64 x.p.Z.Hi,.int .i64 x.p.Wide,.int .i64 x.p.Num,.int .i64 x.p.Of,.int .i64 x.p.Class,.int .i64 x.far]):=⟨rfl⟩
instance(x0:Int)(x1:Int)(x2:Int)(x3:Int)(x4:Int)(x5:Int)(x6:Int)(x7:Int)(x8:Int)(x9:Int):Aaf Fz (.agg #[.int .i64 x0,.int .i64 x1,.int .i64 x2,.int .i64 x3,.int .i64 x4,.int .i64 x5,.int .i64 x6,.int .i64 x7,.int .i64 x8,.int .i64 x9]) (⟨⟨x0,x1,x2,⟨x3,x4⟩,x5,x6,x7,x8⟩,x9⟩):=⟨rfl⟩
instance:ValI prog 123 Fz ((⟨(⟨0,0,0,(⟨0,0⟩:Av),0,0,0,0⟩:Aa),0⟩:Ba)):=⟨Yu,fun w=>kr⟩
def Te(p2:List Aa)(p1:LI)(r2:Ak×Int)(p3:Af):((List (Int×Ba))×Int)->Option (Sum ((List (Int×Ba))×Int) (List (Int×Ba))):=fun s0=>
 if s0.2<(p2.length:Int) then (jn (fun (s1:List (Int×Ba))=>
 some (.inl (s1,w64 (s0.2+1))))
 (fun j0=>bnd (idx p2 s0.2) fun x0=>
 bnd (Ck p1 x0.Id) fun r0=>
 if r0=true then (j0 s0.1)
 else (bnd (Yc r2.1 x0 p3) fun r1=>
 if r1.2.1=true then (gd ((-9223372036854775808<=r1.1/\r1.1<=9223372036854775807))<|
 bnd (some ((mget s0.1 r1.1).getD ((⟨(⟨0,0,0,(⟨0,0⟩:Av),0,0,0,0⟩:Aa),0⟩:Ba)))) fun x1=>
 jn (fun (s2:Bool)=>
 if s2=true then (gd ((-9223372036854775808<=r1.1/\r1.1<=9223372036854775807))<|
 gd (s0.1.length<9223372036854775807)<|
 j0 (mput s0.1 r1.1 ((⟨x0,r1.2.2⟩:Ba))))
 else (j0 s0.1))
 (fun j1=>if ((mget s0.1 r1.1).isSome)=true then (if r1.2.2<x1.far then (j1 true)
 else (if r1.2.2=x1.far then (bnd (Sa x0 x1.p) fun r3=>
 j1 r3)
 else (j1 false)))
 else (j1 true)))
 else (j0 s0.1))))
 else (some (.inr s0.1))
def Abc  : LI->Option (Sum LI LI):=fun s0=>
 some (.inr s0)
def Wp  : LI->Int×Ba->Option (Sum LI LI):=fun s0 p158_=>
 gd ((s0.length+1)*8<=140737488355328)<|
 some (.inl (s0++[p158_.2.p.Id]))
def Vq(p0:List Aa)(p1:LI)(p2:List Aa)(p3:Af):Option (LI×Int):=
 bnd (Bv p0 p1) fun r2=>
 if r2.2=0 then (jn (fun (s7:List (Int×Ba))=>
 bnd (Acj p1) fun r0=>
 jn (fun (s0:LI)=>
 gd (s0.length<=1000000)<|
 some (Co s0,0))
 (fun j0=>Akb Abc Wp s7 r0 fun t0=>
 j0 t0))
 (fun j7=>bnd (lfix (Te p2 p1 r2 p3) (([]:List (Int×Ba)),0)) fun t1=>
 j7 t1))
 else (some (([]:LI),r2.2))
def Jb(p0:List Aa)(r2:List Aa)(p1:Af):LI->Option (Sum LI LI):=fun s0=>
 bnd (Vq p0 s0 r2 p1) fun r0=>
 jn (fun (s1:Bool)=>
 if s1=true then (some (.inr s0))
 else (some (.inl r0.1)))
 (fun j0=>if r0.2=0 then (j0 (decide ((r0.1.length:Int)=(s0.length:Int))))
 else (j0 true))
def Iv(p0:List Aa)(p1:Af):Option LI:=
 bnd (Cx p0 p1) fun r2=>
 bnd (Rk r2 p1) fun r9=>
 bnd (lfix (Jb p0 r2 p1) r9) fun t0=>
 some t0
instance(p0:LI)(p1:Int):Con (Ja p0 p1) prog 148 (fun K vs=>∃U0 E0,vs=[.slice U0 p0.length E0,.int .i64 p1]/\Has K U0 p0.length E0 1 Aj p0/\True) (fun _ r=>fun v Ln=>v=.int .i64 r/\Ln=[]/\True):=⟨by
 rintro K _ r ⟨U0,E0,rfl,ha0,-⟩ hx w hK;replace ha0:=ha0.lo hK;unfold Ja at hx;refine CtS ntmps148 results148 ?_;refine pq ?_;intros;rename_i hx
 refine pA ?_;intros;rename_i hx
 apply Jr (γ:=Unit) hx [] (fun s2 y2 f=>f) [999] (fun s2 y2 l=>l);exact kk
 .exact aI
 .refine pI ?_;intros;rename_i hx
  apply Lr (γ:=Unit) hx [0,1,7] (fun s0 y0 f=>(8,.int .i64 s0)::f) [999] (fun s0 y0 l=>l) ();exact kk;exact sk;intro s0 y0 x0 hx _;unfold Dn at hx;exact au⟩
instance(p0:LI)(p1:Int):Con (Ck p0 p1) prog 92 (fun K vs=>∃U0 E0,vs=[.slice U0 p0.length E0,.int .i64 p1]/\Has K U0 p0.length E0 1 Aj p0/\True) (fun _ r=>fun v Ln=>v=.bool r/\Ln=[]/\True):=⟨by
 rintro K _ r ⟨U0,E0,rfl,ha0,-⟩ hx w hK;replace ha0:=ha0.lo hK;unfold Ck at hx;refine CtS ntmps92 results92 ?_;exact au⟩
instance(p0:List Aa)(p1:LI)(p2:List Aa)(p3:Af):Con (Vq p0 p1 p2 p3) prog 43 (fun K vs=>∃U0 E0 U1 E1 U2 E2,vs=[.slice U0 p0.length E0,.slice U1 p1.length E1,.slice U2 p2.length E2,.agg #[.int .i64 p3.Cell,.int .i64 p3.Reach,.int .i64 p3.Slope,.int .i64 p3.Link,.int .i64 p3.Flat,.int .i64 p3.Tall,.int .i64 p3.High,.int .i64 p3.Low,.int .i64 p3.Brush,.int .i64 p3.Few]]/\Has K U0 p0.length E0 9 Ah p0/\Has K U1 p1.length E1 1 Aj p1/\Has K U2 p2.length E2 9 Ah p2/\True) (fun _ r=>fun v Ln=>∃A0 c0,v=.tuple #[.slice A0 r.1.length c0,.int .i64 r.2]/\Ln=[.r A0 r.1.length c0 3 1 (r.1.flatMap Aj)]/\True):=⟨by
 rintro K _ r ⟨U0,E0,U1,E1,U2,E2,rfl,ha0,ha1,ha2,-⟩ hx w hK;replace ha0:=ha0.lo hK;replace ha1:=ha1.lo hK;replace ha2:=ha2.lo hK;unfold Vq at hx;refine CtS ntmps43 results43 ?_;refine pq ?_;intros;rename_i hx
 refine Cq2 (s:=30) hx rfl ?_ ?_
 .exact aI
 .refine pI ?_;intros;rename_i hx
  refine pA ?_;intros;rename_i hx
  apply Jr (γ:=Nat) hx [1] (fun s7 y7 f=>(12,.map (some y7))::f) [999] (fun s7 y7 l=>Be prog 3 Cw Fz y7 s7::l);exact kk
  .intro s7 y7 hx;refine pq ?_;intros;rename_i hx
   apply Jr (γ:=OA×Nat) hx [] (fun s0 y0 f=>(20,.slice y0.1 s0.length y0.2)::f) [999] (fun s0 y0 l=>.r y0.1 s0.length y0.2 3 1 (s0.flatMap Aj)::l);exact kk
   .exact aI
   .refine pI ?_;intros;rename_i hx
    refine T_x (Acs key3 Uo underlying121 rfl (fun _=>by exact sE) rfl (fun g0=>?_));refine pq ?_;intros;rename_i hx
    refine Aha (σ:=LI) (γ:=Nat×OA×Nat×(List (Int×Ba))×(Option (Int×Ba))) hx (fun y1=>y1.2.2.2.1) (fun s1 y1=>[(20,.slice y1.2.1 s1.length y1.2.2.1),(88,.pointer (some ⟨g0,0,none⟩))]) (fun s1 y1=>.r y1.2.1 s1.length y1.2.2.1 3 1 (s1.flatMap Aj)::rngE prog 3 Cw Fz y1.1 g0 s7 y1.2.2.2.1 y1.2.2.2.2::[.old w]) (fun s1 y1=>True) (_,_,_,_,_) rfl trivial (by exact sF2) (by exact pK2) ?_;intro s1 y1 _ hm0;replace hm0:MR _ _ y1.2.2.2.1 s1 r:=hm0;refine pq ?_;intros;rename_i hx
    refine T_h (Ae0 key3 Uo Yu rfl (fun _ _=>by exact sE) rfl (fun hn0=>?_) (fun p158_ hp0=>?_))
    .obtain⟨x0,hx,ht0⟩:=MR.noneK hm0 hn0;unfold Abc at hx;refine Aa1 (by exact sE) ?_;exact au
    .obtain⟨x0,hx,ht0,hn1⟩:=MR.someK hm0 hp0;unfold Wp at hx;exact au
  .refine pI ?_;intros;rename_i hx
   apply Lr (γ:=Nat) hx [1,7,10,33,34] (fun s2 y2 f=>(12,.map (some y2))::(35,.int .i64 s2.2)::f) [1,2,3,4,5,999] (fun s2 y2 l=>Be prog 3 Cw Fz y2 s2.1::l) _;exact kk;exact sk;intro s2 y2 x1 hx _;unfold Te at hx;refine pq ?_;intros;rename_i hx
   refine Cq1 (s:=36) hx rfl ?_ ?_
   .refine pI ?_;intros;rename_i hx
    apply Jr (γ:=Nat) hx [1,7,10,33,34,35] (fun s3 y3 f=>(12,.map (some y3))::f) [1,2,3,4,5,999] (fun s3 y3 l=>Be prog 3 Cw Fz y3 s3::l);exact kk
    .exact aI
    .refine pI ?_;intros;rename_i hx
     refine Cq3 (s:=42) hx rfl ?_ ?_
     .exact aI
     .refine pI ?_;intros;rename_i hx
      refine Cq4 (s:=52) hx rfl ?_ ?_
      .exact aI
      .refine pI ?_;intros;rename_i hx
       apply Jr (γ:=Unit) hx [1,7,10,12,14,15,17,33,34,35] (fun s4 y4 f=>(78,.bool s4)::f) [1,2,3,4,5,6,7,999] (fun s4 y4 l=>l);exact kk
       .exact aI
       .exact aI
   .exact aI⟩
instance(p0:List Aa)(p1:Af):Con (Iv p0 p1) prog 49 (fun K vs=>∃U0 E0,vs=[.slice U0 p0.length E0,.agg #[.int .i64 p1.Cell,.int .i64 p1.Reach,.int .i64 p1.Slope,.int .i64 p1.Link,.int .i64 p1.Flat,.int .i64 p1.Tall,.int .i64 p1.High,.int .i64 p1.Low,.int .i64 p1.Brush,.int .i64 p1.Few]]/\Has K U0 p0.length E0 9 Ah p0/\True) (fun _ r=>fun v Ln=>∃A0 c0,v=.slice A0 r.length c0/\Ln=[.r A0 r.length c0 3 1 (r.flatMap Aj)]/\True):=⟨by
 rintro K _ r ⟨U0,E0,rfl,ha0,-⟩ hx w hK;replace ha0:=ha0.lo hK;unfold Iv at hx;refine CtS ntmps49 results49 ?_;refine pq ?_;intros;rename_i hx
 apply Lr (γ:=OA×Nat) hx [0,3,5] (fun s32 y32 f=>(6,.slice y32.1 s32.length y32.2)::f) [1,2,999] (fun s32 y32 l=>.r y32.1 s32.length y32.2 3 1 (s32.flatMap Aj)::l) (_,_);exact kk;exact sk;intro s32 y32 x32 hx _;unfold Jb at hx;exact au⟩
section
open Go.Shelf Go.Sort
theorem Aqc{κ υ β ρ:Type}{BN:List β->Option (Sum (List β) (List β))}{BS:List β->κ×υ->Option (Sum (List β) (List β))}{m:List (κ×υ)}(hm:Cv m)(s0:List β)(f:κ×υ->List β)(hf:∀q,(f q).length<=1)(hN:∀s,BN s=some (.inr s))(hS:∀s,∀q∈m,s.length<s0.length+m.length->BS s q=some (.inl (s++f q))){k:List β->Option ρ}{r:ρ}(hk:∀l,l.Perm (m.flatMap f)->k (s0++l)=some r):Akb BN BS m s0 k=some r:=by
 have key:∀(n:Nat) (l:List (κ×υ)) (s:List β),l.length=n->Cv l->(∀q∈l,q∈m)->s.length+l.length<=s0.length+m.length->(∀q:List (κ×υ),q.Perm l->k (s++q.flatMap f)=some r)->MR (mkN BN k) (mkS BS k) l s r:=by
  intro n
  induction n with
  |zero=>
   intro l s hn _ _ _ hk;have:l=[]:=eq_nil_of_length_eq_zero hn;subst this;refine .nil ?_;have:=hk [] (List.Perm.refl _);rw[flatMap_nil,append_nil] at this;unfold mkN;rw[hN];simp only[this]
  |succ n ih=>
   intro l s hn hl hs hlen hk;have hb:∀q∈l,mkS BS k s q=some (.inl (s++f q)):=fun q hq=>by
    unfold mkS mkN;simp only[hS s q (hs q hq) oo]
   refine .cons (fun e=>by subst e;simp at hn) (fun q hq=>by rw[hb q hq];rfl) (fun q hq t' e=>by rw[hb q hq] at e;cases e) (fun q hq s' e=>?_);rw[hb q hq] at e;cases e
   have hp:=Ae9 hl hq;have hlen2:=hp.length_eq;rw[length_cons] at hlen2;refine ih (mdel l q.1) (s++f q) oo (hl.del _) (fun x hx=>hs x (Lw.1 hx).1) (by rw[length_append];have:=hf q;omega) (fun w hw=>?_);rw[append_assoc,<-flatMap_cons];exact hk _ ((hw.cons q).trans hp.symm)
 refine Arr (key m.length m s0 rfl hm (fun _ h=>h) oo fun q hq=>?_);exact hk _ (List.Perm.flatMap_right f hq)
abbrev FitF:=Aa->Int×Bool×Int
def Tf(g:LI)(F:FitF)(b:List (Int×Ba))(p:Aa):List (Int×Ba):=
 if p.Id∈g\/(F p).2.1=false then b else
 match mget b (F p).1 with
 |none=>mput b (F p).1 ⟨p,(F p).2.2⟩
 |some o=>if (F p).2.2<o.far\/(F p).2.2=o.far/\X.lowB p o.p=true then mput b (F p).1 ⟨p,(F p).2.2⟩ else b
def Ww(g:LI)(F:FitF)(C:List Aa):List (Int×Ba):=C.foldl (Tf g F) []
def btr(f:Int)(p:Aa)(o:Ba):Prop:=f<o.far\/f=o.far/\X.lowB p o.p=true
theorem Bat(f:Int)(p:Aa):¬btr f p ⟨p,f⟩:=by
 rintro (h|⟨_,h⟩)
 .exact Int.lt_irrefl _ h
 .rw[X.lowB_irrefl] at h;cases h
theorem Auf{f f':Int}{p q:Aa}{o:Ba}(h:btr f p ⟨q,f'⟩)(h':btr f' q o):btr f p o:=by
 unfold btr at *;dsimp only at h;rcases h with h|⟨h,g⟩ <;> rcases h' with h'|⟨h',g'⟩
 .exact .inl oo
 .exact .inl oo
 .exact .inl oo
 .exact .inr ⟨oo,X.lowB_trans g g'⟩
structure Zf(g:LI)(F:FitF)(C:List Aa)(b:List (Int×Ba)):Prop where
 map:Cv b
 src:∀q∈b,q.2.p∈C/\q.2.p.Id∉g/\F q.2.p=(q.1,true,q.2.far)
 all:∀p∈C,p.Id∉g->(F p).2.1=true->∃o,mget b (F p).1=some o/\¬btr (F p).2.2 p o
theorem Zf.nil(g:LI)(F:FitF):Zf g F [] []:=⟨List.Pairwise.nil,fun q hq=>(by cases hq),fun p hp=>(by cases hp)⟩
theorem Zf.step{g:LI}{F:FitF}{C:List Aa}{b:List (Int×Ba)}(h:Zf g F C b)(p:Aa):Zf g F (C++[p]) (Tf g F b p):=by
 unfold Tf
 by_cases c:p.Id∈g\/(F p).2.1=false
 .rw[if_pos c];refine⟨h.map,fun q hq=>⟨mem_append_left _ (h.src q hq).1,(h.src q hq).2⟩,fun x hx hg hf=>?_⟩;rcases mem_append.1 hx with hx|hx
  .exact h.all x hx hg hf
  .rw[mem_singleton.1 hx] at hg hf;rcases c with c|c
   .exact absurd c hg
   .rw[c] at hf;cases hf
 .rw[if_neg c];have hg:p.Id∉g:=fun e=>c (.inl e)
  have hf:(F p).2.1=true:=by
   cases e:(F p).2.1 with
   |true=>rfl
   |false=>exact absurd (.inr e) c
  have put:(∀o,mget b (F p).1=some o->btr (F p).2.2 p o)->Zf g F (C++[p]) (mput b (F p).1 ⟨p,(F p).2.2⟩):=fun hn=>by
   refine⟨h.map.put _ _,fun q hq=>?_,fun x hx hxg hxf=>?_⟩
   .rcases mem_cons.1 hq with rfl|hq
    .exact⟨mem_append_right _ (mem_singleton.2 rfl),hg,by dsimp only;rw[<-hf]⟩
    .have:=h.src q (Lw.1 hq).1;exact⟨mem_append_left _ this.1,this.2⟩
   .rw[Lx h.map]
    by_cases e:(F x).1=(F p).1
    .rw[if_pos e];refine⟨_,rfl,?_⟩;rcases mem_append.1 hx with hx|hx
     .obtain⟨o,ho,hb⟩:=h.all x hx hxg hxf;rw[e] at ho;exact fun g'=>hb (Auf g' (hn o ho))
     .rw[mem_singleton.1 hx];exact Bat _ _
    .rw[if_neg e];rcases mem_append.1 hx with hx|hx
     .exact h.all x hx hxg hxf
     .exact absurd (by rw[mem_singleton.1 hx]) e
  cases hm:mget b (F p).1 with
  |none=>exact put fun o ho=>by rw[hm] at ho;cases ho
  |some o=>
   dsimp only
   by_cases cb:(F p).2.2<o.far\/(F p).2.2=o.far/\X.lowB p o.p=true
   .rw[if_pos cb];exact put fun o' ho=>by rw[hm] at ho;cases ho;exact cb
   .rw[if_neg cb];refine⟨h.map,fun q hq=>⟨mem_append_left _ (h.src q hq).1,(h.src q hq).2⟩,fun x hx hxg hxf=>?_⟩;rcases mem_append.1 hx with hx|hx
    .exact h.all x hx hxg hxf
    .rw[mem_singleton.1 hx];exact⟨o,hm,cb⟩
theorem Ady{g:LI}{F:FitF}{C:List Aa}(k:Nat):Zf g F (C.take k) ((C.take k).foldl (Tf g F) []):=by
 induction k with
 |zero=>exact Zf.nil g F
 |succ k ih=>
  by_cases hk:k<C.length
  .rw[take_succ_eq_append_getElem hk,foldl_append];exact ih.step C[k]
  .rw[take_of_length_le oo];rw[take_of_length_le oo] at ih;exact ih
theorem Zz(g:LI)(F:FitF)(C:List Aa):Zf g F C (Ww g F C):=by
 have:=Ady (g:=g) (F:=F) (C:=C) C.length
 rwa [take_length] at this
def adds(g:LI)(F:FitF)(C:List Aa):LI:=(Ww g F C).map (·.2.p.Id)
def Jw(g:LI)(F:FitF)(C:List Aa):LI:=Co (g++adds g F C)
section
variable {g:LI}{F:FitF}{C:List Aa}
theorem An4{i:Int}(h:i∈adds g F C):i∉g/\∃p∈C,p.Id=i:=by
 obtain⟨q,hq,rfl⟩:=mem_map.1 h;obtain⟨h1,h2,_⟩:=(Zz g F C).src q hq;exact⟨h2,_,h1,rfl⟩
theorem Adz(hC:(C.map (·.Id)).Nodup):(adds g F C).Nodup:=by
 unfold adds List.Nodup;rw[pairwise_map];have hb:=Zz g F C;refine List.Pairwise.imp_of_mem ?_ hb.map;intro q q' hq hq' hne e;obtain⟨h1,_,h2⟩:=hb.src q hq;obtain⟨h3,_,h4⟩:=hb.src q' hq';rw[X.id_inj hC h1 h3 e,h4] at h2;exact hne (Prod.mk.inj h2).1.symm
theorem Aay:(Jw g F C).Perm (g++adds g F C):=X.perm_sortI _
theorem Acn:(Jw g F C).length=g.length+(Ww g F C).length:=by
 rw[Aay.length_eq,length_append,adds,length_map]
theorem Aeu:(Jw g F C).Pairwise (·<=·):=X.sorted_sortI _
theorem An5(hg:g.Nodup)(hC:(C.map (·.Id)).Nodup):(Jw g F C).Nodup:=by
 rw[Aay.nodup_iff,nodup_append];exact⟨hg,Adz hC,fun a ha b hb e=>(An4 hb).1 (e▸ha)⟩
theorem Aug(hg:∀i∈g,∃p∈C,p.Id=i){i:Int}(h:i∈Jw g F C):∃p∈C,p.Id=i:=by
 rcases mem_append.1 (Aay.mem_iff.1 h) with h|h
 .exact hg i h
 .exact (An4 h).2
theorem Auh{i:Int}(h:i∈g):i∈Jw g F C:=Aay.mem_iff.2 (mem_append_left _ h)
theorem Aqd(hg:g.Pairwise (·<=·))(h:(Jw g F C).length=g.length):Jw g F C=g/\Ww g F C=[]:=by
 rw[Acn] at h;have hb:Ww g F C=[]:=eq_nil_of_length_eq_zero oo;refine⟨?_,hb⟩;unfold Jw adds;rw[hb,map_nil,append_nil];exact (X.sort_unique hg (List.Perm.refl _)).symm
end
end
theorem Vx(x:Int):wu64 x=x%18446744073709551616:=by unfold wu64;rw[IntKind.wrap_u64]
theorem Qk{j:Nat}(h:j<=18446744073709551615):wu64 (j:Int)=(j:Int):=by rw[Vx];omega
end
end Go.Proofs.YthlkpgdfifnagaaGreat
