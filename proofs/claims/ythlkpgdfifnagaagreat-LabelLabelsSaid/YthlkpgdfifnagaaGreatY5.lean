import Derived.Test.YthlkpgdfifnagaaGreatJ4b
set_option maxRecDepth 100000
set_option maxHeartbeats 1000000
namespace Go.Proofs.YthlkpgdfifnagaaGreat
open Go Go.RowKit Tryz
noncomputable section
instance:Ur prog 162 [iq 0,iq 0,iq 0,iq 0,iq 0,iq 0]:=⟨⟨_,zeroValue162,rfl⟩⟩
instance:ArrI prog 162 3 2:=⟨.mk underlying162 (kr:prog.info? 57=some t57) kr⟩
instance:AggI prog 162 6:=⟨.arr underlying162 (kr:prog.info? 162=some t162) kr⟩
instance:OneI prog 9:=⟨.mk underlying9 rfl (kr:prog.info? 9=some Tryz.t9) kr⟩
theorem Ayi:Xw prog 219 [.int .u64 0,.int .u64 0]:=⟨_,zeroValue219,rfl⟩
instance:Ur prog 219 [.int .u64 0,.int .u64 0]:=⟨Ayi⟩
theorem Aoq:Xg prog 219 1 1:=.mk underlying219 rfl rfl (kr:prog.info? 167=some t167) (kr:t167.size=1) rfl
instance:Bt prog 219 1 1:=⟨Aoq⟩
theorem Aq4:Zp prog 167:=.mk underlying167 rfl (kr:prog.info? 167=some t167) kr
instance:OneI prog 167:=⟨Aq4⟩
theorem Aor:Xg prog 219 0 0:=.mk underlying219 rfl rfl (kr:prog.info? 167=some t167) (kr:t167.size=1) rfl
instance:Bt prog 219 0 0:=⟨Aor⟩
theorem Ahx(x0:Int)(x1:Int):Aik prog 219 [(0,.int .u64 x0),(1,.int .u64 x1)] [.int .u64 x0,.int .u64 x1]:=fun w=>kr
theorem Aq5:Zo prog 219 2:=.mk underlying219 rfl (kr:prog.info? 219=some t219) kr
instance:AggI prog 219 2:=⟨Aq5⟩
instance:Ur prog 28 [iq 0,iq 0]:=⟨⟨_,zeroValue28,rfl⟩⟩
def Gh(p0:Ab)(p1:Ab)(p2:Ab):Option Int :=
 some (w64 ((w64 ((w64 (p1.X-p0.X))*(w64 (p2.Y-p0.Y))))-(w64 ((w64 (p1.Y-p0.Y))*(w64 (p2.X-p0.X))))))
def Kx(p0:Ae):Option Ab :=
 some (⟨p0.X,p0.Y⟩:Ab)
structure Ad0 where
 a0:Ab
 a1:Ab
 a2:Ab
theorem Ayj(x0:Int)(x1:Int)(x2:Int):Amq prog 101 [iq x0,iq x1,iq x2]:=by
 intro j h k w;have h':j<3:=h
 match j,h,h' with
 |0,_,_=>exact (kr:(Instr.index 101 (.agg ([.int .i64 x0,.int .i64 x1,.int .i64 x2]:LV).toArray) (.int k ((0:Nat):Int))).run prog w=.ok (.int .i64 x0) w)
 |1,_,_=>exact (kr:(Instr.index 101 (.agg ([.int .i64 x0,.int .i64 x1,.int .i64 x2]:LV).toArray) (.int k ((1:Nat):Int))).run prog w=.ok (.int .i64 x1) w)
 |2,_,_=>exact (kr:(Instr.index 101 (.agg ([.int .i64 x0,.int .i64 x1,.int .i64 x2]:LV).toArray) (.int k ((2:Nat):Int))).run prog w=.ok (.int .i64 x2) w)
instance(x0:Int)(x1:Int)(x2:Int):Az7 prog 101 [iq x0,iq x1,iq x2]:=⟨Ayj _ _ _⟩
instance(x0:Int)(x1:Int)(x2:Int):At3 prog 101 [iq x0,iq x1,iq x2] (Value.int .i64) [x0,x1,x2]:=⟨Ayj _ _ _⟩
def Nf(p0:Al)(p1:Int):Option Ad0 :=
 bnd (idx p0.T p1) fun x4=>
 bnd (idx p0.V x4.a0) fun x0=>
 bnd (Kx x0) fun r0=>
 bnd (idx p0.V x4.a1) fun x1=>
 bnd (Kx x1) fun r1=>
 bnd (idx p0.V x4.a2) fun x2=>
 bnd (Kx x2) fun r2=>
 some (⟨r0,r1,r2⟩:Ad0)
def Ny(p0:Al)(p1:Ab):Int->Option (Sum Int (Sum Unit Int)):=fun s0=>
 if s0<(p0.T.length:Int) then (bnd (Nf p0 s0) fun r0=>
 jn (fun (s1:Bool)=>
 if s1=true then (some (.inr (.inr s0)))
 else (some (.inl (w64 (s0+1)))))
 (fun j0=>bnd (Gh (⟨r0.a0.X,r0.a0.Y⟩:Ab) (⟨r0.a1.X,r0.a1.Y⟩:Ab) p1) fun r1=>
 if 0<=r1 then (bnd (Gh (⟨r0.a1.X,r0.a1.Y⟩:Ab) (⟨r0.a2.X,r0.a2.Y⟩:Ab) p1) fun r2=>
 if 0<=r2 then (bnd (Gh (⟨r0.a2.X,r0.a2.Y⟩:Ab) (⟨r0.a0.X,r0.a0.Y⟩:Ab) p1) fun r3=>
 j0 (decide (0<=r3)))
 else (j0 false))
 else (j0 false)))
 else (some (.inr (.inl ())))
def Pu(p0:Al)(p1:Ab):Option Int :=
 jn (fun (s2:Unit)=>
 some (-1))
 (fun j2=>bnd (lfix (Ny p0 p1) 0) fun t0=>
 (match t0 with
 |(.inl z0)=>j2 z0
 |(.inr z0)=>some z0
 ))
def Hj(p0:Int)(p1:Int):Option (Int×Int):=
 some (wu64 ((wu64 ((wu64 ((shr_ .u64 p0 32)*(shr_ .u64 p1 32)))+(shr_ .u64 (wu64 ((wu64 ((shr_ .u64 p0 32)*(Df .u64 p1 4294967295)))+(shr_ .u64 (wu64 ((Df .u64 p0 4294967295)*(Df .u64 p1 4294967295))) 32))) 32)))+(shr_ .u64 (wu64 ((Df .u64 (wu64 ((wu64 ((shr_ .u64 p0 32)*(Df .u64 p1 4294967295)))+(shr_ .u64 (wu64 ((Df .u64 p0 4294967295)*(Df .u64 p1 4294967295))) 32))) 4294967295)+(wu64 ((Df .u64 p0 4294967295)*(shr_ .u64 p1 32))))) 32)),wu64 (p0*p1))
instance:UndI prog 5 (.int .u8):=⟨underlying5⟩
def Ox:LI:=[0,1,2,2,3,3,3,3,4,4,4,4,4,4,4,4,5,5,5,5,5,5,5,5,5,5,5,5,5,5,5,5,6,6,6,6,6,6,6,6,6,6,6,6,6,6,6,6,6,6,6,6,6,6,6,6,6,6,6,6,6,6,6,6,7,7,7,7,7,7,7,7,7,7,7,7,7,7,7,7,7,7,7,7,7,7,7,7,7,7,7,7,7,7,7,7,7,7,7,7,7,7,7,7,7,7,7,7,7,7,7,7,7,7,7,7,7,7,7,7,7,7,7,7,7,7,7,7,8,8,8,8,8,8,8,8,8,8,8,8,8,8,8,8,8,8,8,8,8,8,8,8,8,8,8,8,8,8,8,8,8,8,8,8,8,8,8,8,8,8,8,8,8,8,8,8,8,8,8,8,8,8,8,8,8,8,8,8,8,8,8,8,8,8,8,8,8,8,8,8,8,8,8,8,8,8,8,8,8,8,8,8,8,8,8,8,8,8,8,8,8,8,8,8,8,8,8,8,8,8,8,8,8,8,8,8,8,8,8,8,8,8,8,8,8,8,8,8,8,8,8,8,8,8,8,8]
def Ng(p0:Int):Option Int :=
 jn (fun (s2:Int×Int)=>
 jn (fun (s5:Int×Int)=>
 jn (fun (s8:Int×Int)=>
 bnd (idx Ox (wu8 s8.1)) fun x0=>
 some (w64 (s8.2+(w64 x0))))
 (fun j8=>if 256<=s5.1 then (j8 (shr_ .u64 s5.1 8,w64 (s5.2+8)))
 else (j8 (s5.1,s5.2))))
 (fun j5=>if 65536<=s2.1 then (j5 (shr_ .u64 s2.1 16,w64 (s2.2+16)))
 else (j5 (s2.1,s2.2))))
 (fun j2=>if 4294967296<=p0 then (j2 (shr_ .u64 p0 32,32))
 else (j2 (p0,0)))
def Fb(p0:Int):Option Int :=
 bnd (Ng p0) fun r1=>
 some (w64 (64-r1))
instance:UndI prog 144 (.int .u64):=⟨underlying144⟩
def Pj(p2:Int)(r0:Int)(p1:Int):(Int×Int)->Option (Sum (Int×Int) Int):=fun s0=>
 jn (fun (s1:Bool)=>
 if s1=true then (if 4294967296<=(wu64 (s0.2+(shr_ .u64 (shl_ .u64 p2 (wu64 r0)) 32))) then (some (.inr (wu64 (s0.1-1))))
 else (some (.inl (wu64 (s0.1-1),wu64 (s0.2+(shr_ .u64 (shl_ .u64 p2 (wu64 r0)) 32))))))
 else (some (.inr s0.1)))
 (fun j0=>if 4294967296<=s0.1 then (j0 true)
 else (j0 (decide ((wu64 ((wu64 (4294967296*s0.2))+(shr_ .u64 (shl_ .u64 p1 (wu64 r0)) 32)))<(wu64 (s0.1*(Df .u64 (shl_ .u64 p2 (wu64 r0)) 4294967295)))))))
def Pk(p2:Int)(r0:Int)(p1:Int):(Int×Int)->Option (Sum (Int×Int) Int):=fun s0=>
 jn (fun (s1:Bool)=>
 if s1=true then (if 4294967296<=(wu64 (s0.1+(shr_ .u64 (shl_ .u64 p2 (wu64 r0)) 32))) then (some (.inr (wu64 (s0.2-1))))
 else (some (.inl (wu64 (s0.1+(shr_ .u64 (shl_ .u64 p2 (wu64 r0)) 32)),wu64 (s0.2-1)))))
 else (some (.inr s0.2)))
 (fun j0=>if 4294967296<=s0.2 then (j0 true)
 else (j0 (decide ((wu64 ((wu64 (4294967296*s0.1))+(Df .u64 (shl_ .u64 p1 (wu64 r0)) 4294967295)))<(wu64 (s0.2*(Df .u64 (shl_ .u64 p2 (wu64 r0)) 4294967295)))))))
def Rg(p0:Int)(p1:Int)(p2:Int):Option (Int×Int):=
 if p2=0 then none
 else (if p2<=p0 then none
 else (if p0=0 then (gd (p2≠0)<|
 gd (p2≠0)<|
 some (wu64 (Int.tdiv p1 p2),Int.tmod p1 p2))
 else (bnd (Fb p2) fun r0=>
 gd (0<=(wu64 r0))<|
 gd (0<=(wu64 r0))<|
 gd (0<=(wu64 (64-(wu64 r0))))<|
 gd (0<=(wu64 r0))<|
 gd ((shr_ .u64 (shl_ .u64 p2 (wu64 r0)) 32)≠0)<|
 jn (fun (s0:Int)=>
 gd ((shr_ .u64 (shl_ .u64 p2 (wu64 r0)) 32)≠0)<|
 jn (fun (s1:Int)=>
 gd (0<=(wu64 r0))<|
 some (wu64 ((wu64 (s0*4294967296))+s1),shr_ .u64 (wu64 ((wu64 ((wu64 ((wu64 ((wu64 ((wu64 ((Xs .u64 (shl_ .u64 p0 (wu64 r0)) (shr_ .u64 p1 (wu64 (64-(wu64 r0)))))*4294967296))+(shr_ .u64 (shl_ .u64 p1 (wu64 r0)) 32)))-(wu64 (s0*(shl_ .u64 p2 (wu64 r0))))))*4294967296))+(Df .u64 (shl_ .u64 p1 (wu64 r0)) 4294967295)))-(wu64 (s1*(shl_ .u64 p2 (wu64 r0)))))) (wu64 r0)))
 (fun j0=>bnd (lfix (Pk p2 r0 p1) (wu64 ((wu64 ((wu64 ((wu64 ((Xs .u64 (shl_ .u64 p0 (wu64 r0)) (shr_ .u64 p1 (wu64 (64-(wu64 r0)))))*4294967296))+(shr_ .u64 (shl_ .u64 p1 (wu64 r0)) 32)))-(wu64 (s0*(shl_ .u64 p2 (wu64 r0))))))-(wu64 ((wu64 (Int.tdiv (wu64 ((wu64 ((wu64 ((Xs .u64 (shl_ .u64 p0 (wu64 r0)) (shr_ .u64 p1 (wu64 (64-(wu64 r0)))))*4294967296))+(shr_ .u64 (shl_ .u64 p1 (wu64 r0)) 32)))-(wu64 (s0*(shl_ .u64 p2 (wu64 r0)))))) (shr_ .u64 (shl_ .u64 p2 (wu64 r0)) 32)))*(shr_ .u64 (shl_ .u64 p2 (wu64 r0)) 32)))),wu64 (Int.tdiv (wu64 ((wu64 ((wu64 ((Xs .u64 (shl_ .u64 p0 (wu64 r0)) (shr_ .u64 p1 (wu64 (64-(wu64 r0)))))*4294967296))+(shr_ .u64 (shl_ .u64 p1 (wu64 r0)) 32)))-(wu64 (s0*(shl_ .u64 p2 (wu64 r0)))))) (shr_ .u64 (shl_ .u64 p2 (wu64 r0)) 32)))) fun t0=>
 j0 t0))
 (fun j1=>bnd (lfix (Pj p2 r0 p1) (wu64 (Int.tdiv (Xs .u64 (shl_ .u64 p0 (wu64 r0)) (shr_ .u64 p1 (wu64 (64-(wu64 r0))))) (shr_ .u64 (shl_ .u64 p2 (wu64 r0)) 32)),wu64 ((Xs .u64 (shl_ .u64 p0 (wu64 r0)) (shr_ .u64 p1 (wu64 (64-(wu64 r0)))))-(wu64 ((wu64 (Int.tdiv (Xs .u64 (shl_ .u64 p0 (wu64 r0)) (shr_ .u64 p1 (wu64 (64-(wu64 r0))))) (shr_ .u64 (shl_ .u64 p2 (wu64 r0)) 32)))*(shr_ .u64 (shl_ .u64 p2 (wu64 r0)) 32)))))) fun t1=>
 j1 t1))))
structure Gn where
 hi:Int
 lo:Int
theorem Agf{x y c:Int}(h:(((0:Int)<=x/\(0:Int)<=y)/\(0:Int)<=c/\c<=(1:Int)))(w:World):(callFunc 239 #[.int .u64 x,.int .u64 y,.int .u64 c]).run prog w=.ok (.value (.tuple #[.int .u64 ((x+y+c)%18446744073709551616),.int .u64 ((x+y+c)/18446744073709551616)])) w:=by
 rw[run_callFunc_extern func239 kr kr kr (e:=add64Entry) kr,run_add64 x y c h.1.1 h.1.2 h.2.1 h.2.2];rfl
instance{x y c:Int}:ExtI prog 239 [.int .u64 x,.int .u64 y,.int .u64 c] (((0:Int)<=x/\(0:Int)<=y)/\(0:Int)<=c/\c<=(1:Int)) (.tuple [.int .u64 ((x+y+c)%18446744073709551616),.int .u64 ((x+y+c)/18446744073709551616)].toArray):=⟨fun h w=>Agf h w⟩
def En(p0:Gn)(p1:Int)(p2:Int):Option Gn :=
 bnd (Hj (wu64 p1) (wu64 p2)) fun r3=>
 gd ((((0:Int)<=p0.lo/\(0:Int)<=r3.2)/\(0:Int)<=0/\0<=(1:Int)))<|
 gd ((((0:Int)<=p0.hi/\(0:Int)<=r3.1)/\(0:Int)<=((p0.lo+r3.2+0)/18446744073709551616)/\((p0.lo+r3.2+0)/18446744073709551616)<=(1:Int)))<|
 some (⟨(p0.hi+r3.1+((p0.lo+r3.2+0)/18446744073709551616))%18446744073709551616,(p0.lo+r3.2+0)%18446744073709551616⟩:Gn)
def Oy(p0:Ah)(p1:Ah):Option (Int×Int):=
 bnd (En (⟨0,0⟩:Gn) p0.a0 (w64 (p1.a0-(min (min p1.a0 p1.a1) p1.a2)))) fun r4=>
 bnd (En r4 p0.a1 (w64 (p1.a1-(min (min p1.a0 p1.a1) p1.a2)))) fun r7=>
 bnd (En r7 p0.a2 (w64 (p1.a2-(min (min p1.a0 p1.a1) p1.a2)))) fun r0=>
 bnd (Rg r0.hi r0.lo (wu64 (w64 ((w64 (p0.a0+p0.a1))+p0.a2)))) fun r1=>
 if 0<r1.2 then (some (w64 ((min (min p1.a0 p1.a1) p1.a2)+(w64 r1.1)),w64 ((w64 ((min (min p1.a0 p1.a1) p1.a2)+(w64 r1.1)))+1)))
 else (some (w64 ((min (min p1.a0 p1.a1) p1.a2)+(w64 r1.1)),w64 ((min (min p1.a0 p1.a1) p1.a2)+(w64 r1.1))))
def Pv(p0:Al)(p1:Int)(p2:Ab):Option Av :=
 bnd (Nf p0 p1) fun r4=>
 bnd (Gh (⟨r4.a1.X,r4.a1.Y⟩:Ab) (⟨r4.a2.X,r4.a2.Y⟩:Ab) p2) fun r8=>
 bnd (Gh (⟨r4.a2.X,r4.a2.Y⟩:Ab) (⟨r4.a0.X,r4.a0.Y⟩:Ab) p2) fun r0=>
 bnd (Gh (⟨r4.a0.X,r4.a0.Y⟩:Ab) (⟨r4.a1.X,r4.a1.Y⟩:Ab) p2) fun r1=>
 bnd (idx p0.T p1) fun x0=>
 jn (fun (s9:Int×Int)=>
 jn (fun (s0:Int×Int)=>
 jn (fun (s1:Int×Int)=>
 bnd (Oy (⟨r8,r0,r1⟩:Ah) (⟨s9.1,s0.1,s1.1⟩:Ah)) fun r2=>
 bnd (Oy (⟨r8,r0,r1⟩:Ah) (⟨s9.2,s0.2,s1.2⟩:Ah)) fun r3=>
 some (⟨r2.1,r3.2⟩:Av))
 (fun j0=>bnd (idx p0.V x0.a2) fun x1=>
 bnd (idx p0.V x0.a2) fun x2=>
 j0 (x1.Z.Lo,x2.Z.Hi)))
 (fun j1=>bnd (idx p0.V x0.a1) fun x3=>
 bnd (idx p0.V x0.a1) fun x4=>
 j1 (x3.Z.Lo,x4.Z.Hi)))
 (fun j9=>bnd (idx p0.V x0.a0) fun x5=>
 bnd (idx p0.V x0.a0) fun x6=>
 j9 (x5.Z.Lo,x6.Z.Hi))
def Wq(p0:Av)(p1:Av):Option Int :=
 some (max (max 0 (w64 (p0.Lo-p1.Hi))) (w64 (p1.Lo-p0.Hi)))
def Tm(p0:Int)(p1:Int)(p2:Int):Option Bool :=
 bnd (Hj (wu64 ((wu64 p0)*(wu64 p0))) 1000000) fun r1=>
 bnd (Hj (wu64 ((wu64 p2)*(wu64 p2))) (wu64 p1)) fun r4=>
 jn (fun (s4:Bool)=>
 some s4)
 (fun j4=>if r1.1<r4.1 then (j4 true)
 else (if r1.1=r4.1 then (j4 (decide (r1.2<=r4.2)))
 else (j4 false)))
def Rz(x0:Ah)(p0:Al)(p1:Aa)(p2:Af)(r7:Int):Int->Option (Sum Int (Sum Unit (Int×Bool×Int))):=fun s0=>
 if s0<3 then (bnd (idx [x0.a0,x0.a1,x0.a2] s0) fun x1=>
 bnd (idx p0.V x1) fun x2=>
 bnd (Wq p1.Z x2.Z) fun r0=>
 bnd (Bp p1) fun r1=>
 bnd (Kx x2) fun r2=>
 bnd (My r1 r2) fun r3=>
 bnd (Tm r0 r3 p2.Slope) fun r4=>
 if r4=true then (some (.inl (w64 (s0+1))))
 else (some (.inr (.inr (r7,false,0)))))
 else (some (.inr (.inl ())))
def Yz(p0:Al)(p1:Aa)(p2:Af):Option (Int×Bool×Int):=
 bnd (Bp p1) fun r4=>
 bnd (Pu p0 r4) fun r7=>
 if r7<0 then (some (r7,false,0))
 else (bnd (Bp p1) fun r0=>
 bnd (Pv p0 r7 r0) fun r1=>
 bnd (Wq p1.Z r1) fun r2=>
 if p2.Reach<r2 then (some (r7,false,0))
 else (jn (fun (s0:Unit)=>
 some (r7,true,r2))
 (fun j0=>bnd (idx p0.T r7) fun x0=>
 bnd (lfix (Rz x0 p0 p1 p2 r7) 0) fun t0=>
 (match t0 with
 |(.inl z0)=>j0 z0
 |(.inr z0)=>some z0
 ))))
instance(p0:Ab)(p1:Ab)(p2:Ab):Con (Gh p0 p1 p2) prog 133 (fun _ vs=>vs=[.agg #[iq p0.X,iq p0.Y],.agg #[iq p1.X,iq p1.Y],.agg #[iq p2.X,iq p2.Y]]) (fun _ r v Ln=>v=iq r/\Ln=[]/\True):=⟨by
 rintro _ _ r rfl hx w hK;unfold Gh at hx;refine CtS ntmps133 results133 ?_;exact au⟩
instance(p0:Ae):Con (Kx p0) prog 79 (fun _ vs=>vs=[.agg #[iq p0.X,iq p0.Y,iq p0.Z.Lo,iq p0.Z.Hi]]) (fun _ r v Ln=>v=.agg #[iq r.X,iq r.Y]/\Ln=[]/\True):=⟨by
 rintro _ _ r rfl hx w hK;unfold Kx at hx;refine CtS ntmps79 results79 ?_;exact au⟩
instance(p0:Al)(p1:Int):Con (Nf p0 p1) prog 132 (fun K vs=>∃U0 E0 U1 E1 U2 E2,vs=[.agg #[.slice U0 p0.V.length E0,.slice U1 p0.T.length E1,.slice U2 p0.Lines.length E2],iq p1]/\Has K U0 p0.V.length E0 4 Am p0.V/\Has K U1 p0.T.length E1 3 Az p0.T/\Has K U2 p0.Lines.length E2 2 Ar p0.Lines/\True) (fun _ r v Ln=>v=.agg #[iq r.a0.X,iq r.a0.Y,iq r.a1.X,iq r.a1.Y,iq r.a2.X,iq r.a2.Y]/\Ln=[]/\True):=⟨by
 rintro K _ r ⟨U0,E0,U1,E1,U2,E2,rfl,ha0,ha1,ha2,-⟩ hx w hK;replace ha0:=ha0.lo hK;replace ha1:=ha1.lo hK;replace ha2:=ha2.lo hK;unfold Nf at hx;refine CtS ntmps132 results132 ?_;exact au⟩
instance(p0:Al)(p1:Ab):Con (Pu p0 p1) prog 74 (fun K vs=>∃U0 E0 U1 E1 U2 E2,vs=[.agg #[.slice U0 p0.V.length E0,.slice U1 p0.T.length E1,.slice U2 p0.Lines.length E2],.agg #[iq p1.X,iq p1.Y]]/\Has K U0 p0.V.length E0 4 Am p0.V/\Has K U1 p0.T.length E1 3 Az p0.T/\Has K U2 p0.Lines.length E2 2 Ar p0.Lines/\True) (fun _ r v Ln=>v=iq r/\Ln=[]/\True):=⟨by
 rintro K _ r ⟨U0,E0,U1,E1,U2,E2,rfl,ha0,ha1,ha2,-⟩ hx w hK;replace ha0:=ha0.lo hK;replace ha1:=ha1.lo hK;replace ha2:=ha2.lo hK;unfold Pu at hx;refine CtS ntmps74 results74 ?_;refine pq ?_;intros;rename_i hx
 refine pA ?_;intros;rename_i hx
 apply Jr (γ:=Unit) hx [] (fun s2 y2 f=>f) [999] (fun s2 y2 l=>l);exact kk
 .exact aI
 .refine pI ?_;intros;rename_i hx
  apply Lr (γ:=Unit) hx [2,3,9] (fun s0 y0 f=>(10,iq s0)::f) [0,1,999] (fun s0 y0 l=>l) ();exact kk;exact sk;intro s0 y0 x0 hx _;unfold Ny at hx;refine pq ?_;intros;rename_i hx
  refine Cq1 (s:=11) hx rfl ?_ ?_
  .refine pI ?_;intros;rename_i hx
   apply Jr (γ:=Unit) hx [2,3,5,9,10] (fun s1 y1 f=>(40,.bool s1)::f) [1,2,999] (fun s1 y1 l=>l);exact kk
   .exact aI
   .exact aI
  .exact aI⟩
instance Afi(p0:Int)(p1:Int):Con (Hj p0 p1) prog 135 (fun _ vs=>vs=[.int .u64 p0,.int .u64 p1]) (fun _ r v Ln=>v=.tuple #[.int .u64 r.1,.int .u64 r.2]/\Ln=[]/\True):=⟨by
 rintro _ _ r rfl hx w hK;unfold Hj at hx;refine CtS ntmps135 results135 ?_;exact au⟩
theorem Aeh(p0:Int)(p1:Int){r:Int×Int}(hx:Hj p0 p1=some r)(w:World):CtL prog 135 [.int .u64 p0,.int .u64 p1] w fun v Ln=>v=.tuple #[.int .u64 r.1,.int .u64 r.2]/\Ln=[]/\True:=(Afi p0 p1).h [] _ _ rfl hx w (fun _ h=>absurd h List.not_mem_nil)
theorem Aei(p0:Int){r:Int}(hx:Ng p0=some r)(w:World):CtL prog 167 [.int .u64 p0] w fun v Ln=>v=iq r/\Ln=[]/\True:=by
 refine CtL.mk 25 func167 rfl ntmps167 kr rfl ?_;show T 25 _ [(0,.int .u64 p0)] _;unfold Ng at hx;refine Y5 ?_;refine Tj (γ:=Unit) hx (fun s2 y2=>[(0,.int .u64 s2.1),(2,iq s2.2)]) (fun s2 y2=>[]++[.old w]) (fun s2 y2=>True) (fun s2 y2 hx4 hG5=>?_) (fun j2 hx=>?_)
 .refine Tj (γ:=Unit) hx4 (fun s5 y5=>[(0,.int .u64 s5.1),(2,iq s5.2)]) (fun s5 y5=>[]++[.old w]) (fun s5 y5=>True) (fun s5 y5 hx9 hG0=>?_) (fun j5 hx4=>?_)
  .refine Tj (γ:=Unit) hx9 (fun s8 y8=>[(0,.int .u64 s8.1),(2,iq s8.2)]) (fun s8 y8=>[]++[.old w]) (fun s8 y8=>True) (fun s8 y8 hx0 hG1=>?_) (fun j8 hx9=>?_)
   .refine Y4 ?_;refine Dg (Aoh rfl kr underlying5) rfl ?_;obtain⟨x0,h0,hx1⟩:=Bk hx0;refine Dg (Aov (ys:=Ox) rfl rfl underlying9 kr h0) rfl ?_;refine Dg (Ag5 rfl kr underlying3) rfl ?_;refine Y5 ?_;obtain rfl:=oI hx1;exact Pr (rs:=[.tmp 2]) results167 (.tmp rfl (.nil)) (Ln:=[]) ⟨rfl,rfl,trivial⟩ Gg (by exact .refl)
   .refine Y6 ?_;refine Ti hx9 (s:=14) rfl (fun h2 hx5=>?_) (fun h2 hx6=>?_)
    .refine Y4 ?_;refine Dg (Ah9 rfl rfl dD) rfl ?_;refine Y8 ?_;exact Mt (shr_ .u64 s5.1 8,w64 (s5.2+8)) () hx5 trivial (by exact .refl)
    .refine Y2 ?_;exact Mt (s5.1,s5.2) () hx6 trivial (by exact .refl)
  .refine Y6 ?_;refine Ti hx4 (s:=8) rfl (fun h6 hx7=>?_) (fun h6 hx8=>?_)
   .refine Y4 ?_;refine Dg (Ah9 rfl rfl dD) rfl ?_;refine Y8 ?_;exact Mt (shr_ .u64 s2.1 16,w64 (s2.2+16)) () hx7 trivial (by exact .refl)
   .refine Y2 ?_;exact Mt (s2.1,s2.2) () hx8 trivial (by exact .refl)
 .refine Y6 ?_;refine Ti hx (s:=4) rfl (fun h1 hx2=>?_) (fun h1 hx3=>?_)
  .refine Y4 ?_;refine Dg (Ah9 rfl rfl dD) rfl ?_;refine Y6 ?_;exact Mt (shr_ .u64 p0 32,32) () hx2 trivial (by exact .refl)
  .refine Y2 ?_;exact Mt (p0,0) () hx3 trivial (by exact .refl)
instance(p0:Int):Con (Ng p0) prog 167 (fun _ vs=>vs=[.int .u64 p0]) (fun _ r v Ln=>v=iq r/\Ln=[]/\True):=⟨by
 rintro _ _ r rfl hx w hK;exact Aei p0 hx w⟩
instance(p0:Int):Con (Fb p0) prog 240 (fun _ vs=>vs=[.int .u64 p0]) (fun _ r v Ln=>v=iq r/\Ln=[]/\True):=⟨by
 rintro _ _ r rfl hx w hK;unfold Fb at hx;refine CtS ntmps240 results240 ?_;exact au⟩
instance(p0:Int)(p1:Int)(p2:Int):Con (Rg p0 p1 p2) prog 192 (fun _ vs=>vs=[.int .u64 p0,.int .u64 p1,.int .u64 p2]) (fun _ r v Ln=>v=.tuple #[.int .u64 r.1,.int .u64 r.2]/\Ln=[]/\True):=⟨by
 rintro _ _ r rfl hx w hK;unfold Rg at hx;have:=dl 6 [0,0,0,0,0,0,2,2] [0,1,2,3,4,5,6,7];refine CtS ntmps192 results192 ?_;refine pq ?_;intros;rename_i hx
 refine Cq1 (s:=20) hx rfl ?_ ?_
 .exact aI
 .refine pI ?_;intros;rename_i hx
  refine Cq1 (s:=24) hx rfl ?_ ?_
  .exact aI
  .refine pI ?_;intros;rename_i hx
   refine Cq1 (s:=27) hx rfl ?_ ?_
   .exact aI
   .refine pI ?_;intros;rename_i hx
    refine pA ?_;intros;rename_i hx
    apply Jr (γ:=Unit) hx [2,8,9,10,11,13,14] (fun s0 y0 f=>(15,.int .u64 s0)::f) [999] (fun s0 y0 l=>l);exact kk
    .intro s0 y0 hx;refine pq ?_;intros;rename_i hx
     refine pA ?_;intros;rename_i hx
     refine pA ?_;intros;rename_i hx
     refine pA ?_;intros;rename_i hx
     apply Jr (γ:=Unit) hx [2,8,14,15,17] (fun s1 y1 f=>(18,.int .u64 s1)::f) [999] (fun s1 y1 l=>l);exact kk
     .exact aI
     .refine pI ?_;intros;rename_i hx
      apply Lr (γ:=Unit) hx [2,8,9,10,14,15,17] (fun s2 y2 f=>(16,.int .u64 s2.1)::(18,.int .u64 s2.2)::f) [999] (fun s2 y2 l=>l) ();exact kk;exact sk;intro s2 y2 x0 hx _;unfold Pk at hx;exact au
    .refine pI ?_;intros;rename_i hx
     apply Lr (γ:=Unit) hx [2,8,9,10,11,13,14] (fun s3 y3 f=>(15,.int .u64 s3.1)::(16,.int .u64 s3.2)::f) [999] (fun s3 y3 l=>l) ();exact kk;exact sk;intro s3 y3 x1 hx _;unfold Pj at hx;exact au⟩
theorem Acm(p0:Gn)(p1:Int)(p2:Int){r:Gn}(hx:En p0 p1 p2=some r)(w:World):CtL prog 191 [.agg #[.int .u64 p0.hi,.int .u64 p0.lo],iq p1,iq p2] w fun v Ln=>v=.agg #[.int .u64 r.hi,.int .u64 r.lo]/\Ln=[]/\True:=by
 refine CtL.mk 39 func191 rfl ntmps191 kr rfl ?_;show T 39 _ [(0,.agg #[.int .u64 p0.hi,.int .u64 p0.lo]),(1,iq p1),(2,iq p2)] _;unfold En at hx;refine Y2 ?_;refine T_x (Ab3 rfl rfl rfl (fun g1=>?_));refine T_x (Uw Ayi rfl (fun g2=>?_));refine Y5 ?_;refine Dg (Abk rfl kr underlying167) rfl ?_;refine Y ?_;refine Dg (Abk rfl kr underlying167) rfl ?_;obtain⟨r3,h4,hx5⟩:=Bk hx;refine Tc (fun w1 hw1=>Aeh (wu64 p1) (wu64 p2)  h4 w1) ?_;refine Y9 ?_;refine Dg (Ut rfl Aoq rfl) rfl ?_;refine Dg (Rx rfl (i:=1) rfl rfl Aq4) rfl ?_;refine Y ?_;obtain⟨h6,hx7⟩:=Em hx5;refine Dg (Ayk rfl (fun w=>Agf h6 w)) rfl ?_;refine Y9 ?_;refine Dg (Ut rfl Aor rfl) rfl ?_;refine Dg (Rx rfl (i:=1) rfl rfl Aq4) rfl ?_;refine Y2 ?_;obtain⟨h8,hx9⟩:=Em hx7;refine Dg (Ayk rfl (fun w=>Agf h8 w)) rfl ?_;refine Y11 ?_;refine Dg (Akl rfl (Ahx _ _)) rfl ?_;refine T_h (Tg rfl rfl rfl (.here) (.put (.put (.done))) rfl (List.cons_ne_nil _ _) Aq5.2 ?_);refine Y3 ?_;obtain rfl:=oI hx9;exact Pr (rs:=[.cell 6 219]) results191 (.cell rfl (i:=0) rfl rfl Aq5 (.nil)) (Ln:=[]) ⟨rfl,rfl,trivial⟩ Gg (by exact .drop 0 rfl (.drop 0 rfl (.refl)))
instance(p0:Gn)(p1:Int)(p2:Int):Con (En p0 p1 p2) prog 191 (fun _ vs=>vs=[.agg #[.int .u64 p0.hi,.int .u64 p0.lo],iq p1,iq p2]) (fun _ r v Ln=>v=.agg #[.int .u64 r.hi,.int .u64 r.lo]/\Ln=[]/\True):=⟨by
 rintro _ _ r rfl hx w hK;exact Acm p0 p1 p2 hx w⟩
instance(p0:Ah)(p1:Ah):Con (Oy p0 p1) prog 134 (fun _ vs=>vs=[.agg #[iq p0.a0,iq p0.a1,iq p0.a2],.agg #[iq p1.a0,iq p1.a1,iq p1.a2]]) (fun _ r v Ln=>v=.tuple #[iq r.1,iq r.2]/\Ln=[]/\True):=⟨by
 rintro _ _ r rfl hx w hK;unfold Oy at hx;have:=dl 6 [1,0,0,1,0,0,1,0,0,2,3] [0,1,2,3,4,5,6,7,8,9,10];refine CtS ntmps134 results134 ?_;refine pq ?_;intros;rename_i hx
 refine Cq1 (s:=57) hx rfl ?_ ?_
 .exact aI
 .exact aI⟩
instance(p0:Al)(p1:Int)(p2:Ab):Con (Pv p0 p1 p2) prog 76 (fun K vs=>∃U0 E0 U1 E1 U2 E2,vs=[.agg #[.slice U0 p0.V.length E0,.slice U1 p0.T.length E1,.slice U2 p0.Lines.length E2],iq p1,.agg #[iq p2.X,iq p2.Y]]/\Has K U0 p0.V.length E0 4 Am p0.V/\Has K U1 p0.T.length E1 3 Az p0.T/\Has K U2 p0.Lines.length E2 2 Ar p0.Lines/\True) (fun _ r v Ln=>v=.agg #[iq r.Lo,iq r.Hi]/\Ln=[]/\True):=⟨by
 rintro K _ r ⟨U0,E0,U1,E1,U2,E2,rfl,ha0,ha1,ha2,-⟩ hx w hK;replace ha0:=ha0.lo hK;replace ha1:=ha1.lo hK;replace ha2:=ha2.lo hK;unfold Pv at hx;have:=dl 2 [0,1,0,1,1,2,0,1,0,1,1,2,0,1,0,1,1,2,0,4,3] [0,1,2,3,4,6,7,8,9,10,12,13,14,15,16,5,11,17,18,19,20] [19];have:=dp 7 [0,0,0,1,0,0,0,0,1,0,2,0,0,0,0,2,0,3,0,3] (.q 0 (.q 1 (.q 2 (.q 3 (.q 4 (.q 5 (.q 6 (.q 7 (.q 8 (.q 9 (.q 11 (.q 16 (.e 10 (.q 12 (.q 13 (.q 14 (.e 15 (.e 17 (.q 18 (.e 19 (.done) (.stop))) (.stop)) (.e 17 (.e 15 (.q 18 (.e 19 (.done) (.stop))) (.stop)) (.stop)))))) (.e 17 (.e 10 (.q 12 (.q 13 (.q 14 (.e 15 (.q 18 (.e 19 (.done) (.stop))) (.stop))))) (.stop)) (.stop)))))))))))))));refine CtS ntmps76 results76 ?_;refine pq ?_;intros;rename_i hx
 refine pA ?_;intros;rename_i hx
 refine pA ?_;intros;rename_i hx
 apply Jr (γ:=Nat×Nat) hx [3,6,8,43,44] (fun s9 y9 f=>(9,.pointer (some ⟨y9.2,0,none⟩))::(10,.pointer (some ⟨y9.1,0,none⟩))::f) [2,4,6,999] (fun s9 y9 l=>.m y9.1 101 [iq s9.2,iq 0,iq 0] :: .m y9.2 101 [iq s9.1,iq 0,iq 0]::l);exact kk
 .intro s9 y9 hx;refine pq ?_;intros;rename_i hx
  refine pA ?_;intros;rename_i hx
  refine pA ?_;intros;rename_i hx
  apply Jr (γ:=Nat×Nat) hx [3,6,8,43,44] (fun s0 y0 f=>(9,.pointer (some ⟨y0.2,0,none⟩))::(10,.pointer (some ⟨y0.1,0,none⟩))::f) [2,3,4,999] (fun s0 y0 l=>.m y0.1 101 [iq s9.2,iq s0.2,iq 0] :: .m y0.2 101 [iq s9.1,iq s0.1,iq 0]::l);exact kk
  .intro s0 y0 hx;refine pq ?_;intros;rename_i hx
   refine pA ?_;intros;rename_i hx
   refine pA ?_;intros;rename_i hx
   apply Jr (γ:=Nat×Nat) hx [3,6,8,43,44] (fun s1 y1 f=>(9,.pointer (some ⟨y1.2,0,none⟩))::(10,.pointer (some ⟨y1.1,0,none⟩))::f) [2,3,4,999] (fun s1 y1 l=>.m y1.1 101 [iq s9.2,iq s0.2,iq s1.2] :: .m y1.2 101 [iq s9.1,iq s0.1,iq s1.1]::l);exact kk
   .exact aI
   .exact aI
  .exact aI
 .exact aI⟩
instance(p0:Av)(p1:Av):Con (Wq p0 p1) prog 75 (fun _ vs=>vs=[.agg #[iq p0.Lo,iq p0.Hi],.agg #[iq p1.Lo,iq p1.Hi]]) (fun _ r v Ln=>v=iq r/\Ln=[]/\True):=⟨by
 rintro _ _ r rfl hx w hK;unfold Wq at hx;refine CtS ntmps75 results75 ?_;exact au⟩
instance(p0:Int)(p1:Int)(p2:Int):Con (Tm p0 p1 p2) prog 77 (fun _ vs=>vs=[iq p0,iq p1,iq p2]) (fun _ r v Ln=>v=.bool r/\Ln=[]/\True):=⟨by
 rintro _ _ r rfl hx w hK;unfold Tm at hx;refine CtS ntmps77 results77 ?_;exact au⟩
instance(p0:Al)(p1:Aa)(p2:Af):Con (Yz p0 p1 p2) prog 34 (fun K vs=>∃U0 E0 U1 E1 U2 E2,vs=[.agg #[.slice U0 p0.V.length E0,.slice U1 p0.T.length E1,.slice U2 p0.Lines.length E2],.agg #[iq p1.Id,iq p1.X,iq p1.Y,iq p1.Z.Lo,iq p1.Z.Hi,iq p1.Wide,iq p1.Num,iq p1.Of,iq p1.Class],.agg #[iq p2.Cell,iq p2.Reach,iq p2.Slope,iq p2.Link,iq p2.Flat,iq p2.Tall,iq p2.High,iq p2.Low,iq p2.Brush,iq p2.Few]]/\Has K U0 p0.V.length E0 4 Am p0.V/\Has K U1 p0.T.length E1 3 Az p0.T/\Has K U2 p0.Lines.length E2 2 Ar p0.Lines/\True) (fun _ r v Ln=>v=.tuple #[iq r.1,.bool r.2.1,iq r.2.2]/\Ln=[]/\True):=⟨by
 rintro K _ r ⟨U0,E0,U1,E1,U2,E2,rfl,ha0,ha1,ha2,-⟩ hx w hK;replace ha0:=ha0.lo hK;replace ha1:=ha1.lo hK;replace ha2:=ha2.lo hK;unfold Yz at hx;have:=dl 1 [1,1,2,2,2] [0,1,2,3,4];have:=dl 4 [0,1,1,0,1,2,2,2,2] [0,1,2,3,4,5,6,7,8];have:=dl 11 [0,1,0,1,2,1,2,1,2,2,0,1,2,0] [0,1,2,3,5,7,10,11,4,6,8,9,12,13];refine CtS ntmps34 results34 ?_;refine pq ?_;intros;rename_i hx
 refine Cq1 (s:=19) hx rfl ?_ ?_
 .exact aI
 .refine pI ?_;intros;rename_i hx
  refine Cq1 (s:=32) hx rfl ?_ ?_
  .exact aI
  .refine pI ?_;intros;rename_i hx
   apply Jr (γ:=Unit) hx [9,10] (fun s10 y10 f=>f) [999] (fun s10 y10 l=>l);exact kk
   .exact aI
   .refine pI ?_;intros;rename_i hx
    apply Lr (γ:=Unit) hx [3,4,5,9,10,38] (fun s73 y73 f=>(39,iq s73)::f) [0,1,2,999] (fun s73 y73 l=>l) ();exact kk;exact sk;intro s73 y73 x73 hx _;unfold Rz at hx;exact au⟩
instance:Ur prog 123 [iq 0,iq 0,iq 0,iq 0,iq 0,iq 0,iq 0,iq 0,iq 0,iq 0]:=⟨⟨_,zeroValue123,rfl⟩⟩
instance:AggI prog 123 10:=⟨.mk underlying123 rfl (kr:prog.info? 123=some t123) kr⟩
instance:Bt prog 123 1 9:=⟨.mk underlying123 rfl rfl (kr:prog.info? 3=some Tryz.t3) (kr:Tryz.t3.size=1) rfl⟩
instance:Bt prog 123 0 0:=⟨.mk underlying123 rfl rfl (kr:prog.info? 30=some t30) (kr:t30.size=9) rfl⟩
instance(x0:Int)(x1:Int)(x2:Int)(x3:Int)(x4:Int)(x5:Int)(x6:Int)(x7:Int)(x8:Int)(x9:Int):Ji prog 123 [(0,.agg #[iq x0,iq x1,iq x2,iq x3,iq x4,iq x5,iq x6,iq x7,iq x8]),(1,iq x9)] [iq x0,iq x1,iq x2,iq x3,iq x4,iq x5,iq x6,iq x7,iq x8,iq x9]:=⟨fun w=>kr⟩
def Dk(p0:LI)(p1:Int):Int->Option (Sum Int (Sum Unit Int)):=fun s0=>
 if s0<(p0.length:Int) then (bnd (idx p0 s0) fun x0=>
 if p1=x0 then (some (.inr (.inr s0)))
 else (some (.inl (w64 (s0+1)))))
 else (some (.inr (.inl ())))
def Jn(p0:LI)(p1:Int):Option Int :=
 jn (fun (s2:Unit)=>
 some (-1))
 (fun j2=>bnd (lfix (Dk p0 p1) 0) fun t0=>
 (match t0 with
 |(.inl z0)=>j2 z0
 |(.inr z0)=>some z0
 ))
def Cl(p0:LI)(p1:Int):Option Bool :=
 bnd (Jn p0 p1) fun r1=>
 some (decide (0<=r1))
instance:UndI prog 121 (.map 3 123):=⟨underlying121⟩
structure Bb where
 p:Aa
 far:Int
def Gi(x:Bb):Value:=.agg #[iq x.p.Id,iq x.p.X,iq x.p.Y,iq x.p.Z.Lo,iq x.p.Z.Hi,iq x.p.Wide,iq x.p.Num,iq x.p.Of,iq x.p.Class,iq x.far]
theorem Zx(x y:Bb)(h:Gi x=Gi y):x=y:=by
 rcases x with⟨⟨_,_,_,⟨_,_⟩,_,_,_,_⟩,_⟩;rcases y with⟨⟨_,_,_,⟨_,_⟩,_,_,_,_⟩,_⟩;simp[Gi] at h;simp[h]
instance(x:Bb):UnfI Gi x (.agg #[iq x.p.Id,iq x.p.X,iq x.p.Y,iq x.p.Z.Lo,iq x.p.Z.Hi,iq x.p.Wide,iq x.p.Num,iq x.p.Of,iq x.p.Class,iq x.far]):=⟨rfl⟩
instance(x0:Int)(x1:Int)(x2:Int)(x3:Int)(x4:Int)(x5:Int)(x6:Int)(x7:Int)(x8:Int)(x9:Int):Abe Gi (.agg #[iq x0,iq x1,iq x2,iq x3,iq x4,iq x5,iq x6,iq x7,iq x8,iq x9]) (⟨⟨x0,x1,x2,⟨x3,x4⟩,x5,x6,x7,x8⟩,x9⟩):=⟨rfl⟩
instance:ValI prog 123 Gi ((⟨(⟨0,0,0,(⟨0,0⟩:Av),0,0,0,0⟩:Aa),0⟩:Bb)):=⟨Zx,fun w=>kr⟩
def Ug(p2:List Aa)(p1:LI)(r2:Al×Int)(p3:Af):((List (Int×Bb))×Int)->Option (Sum ((List (Int×Bb))×Int) (List (Int×Bb))):=fun s0=>
 if s0.2<(p2.length:Int) then (jn (fun (s1:List (Int×Bb))=>
 some (.inl (s1,w64 (s0.2+1))))
 (fun j0=>bnd (idx p2 s0.2) fun x0=>
 bnd (Cl p1 x0.Id) fun r0=>
 if r0=true then (j0 s0.1)
 else (bnd (Yz r2.1 x0 p3) fun r1=>
 if r1.2.1=true then (gd ((-9223372036854775808<=r1.1/\r1.1<=9223372036854775807))<|
 bnd (some ((mget s0.1 r1.1).getD ((⟨(⟨0,0,0,(⟨0,0⟩:Av),0,0,0,0⟩:Aa),0⟩:Bb)))) fun x1=>
 jn (fun (s2:Bool)=>
 if s2=true then (gd ((-9223372036854775808<=r1.1/\r1.1<=9223372036854775807))<|
 gd (s0.1.length<9223372036854775807)<|
 j0 (mput s0.1 r1.1 ((⟨x0,r1.2.2⟩:Bb))))
 else (j0 s0.1))
 (fun j1=>if ((mget s0.1 r1.1).isSome)=true then (if r1.2.2<x1.far then (j1 true)
 else (if r1.2.2=x1.far then (bnd (Th x0 x1.p) fun r3=>
 j1 r3)
 else (j1 false)))
 else (j1 true)))
 else (j0 s0.1))))
 else (some (.inr s0.1))
def Ab7  : LI->Option (Sum LI LI):=fun s0=>
 some (.inr s0)
def Xt  : LI->Int×Bb->Option (Sum LI LI):=fun s0 p158_=>
 gd ((s0.length+1)*8<=140737488355328)<|
 some (.inl (s0++[p158_.2.p.Id]))
def Ws(p0:List Aa)(p1:LI)(p2:List Aa)(p3:Af):Option (LI×Int):=
 bnd (Bo p0 p1) fun r2=>
 if r2.2=0 then (jn (fun (s7:List (Int×Bb))=>
 bnd (Yp p1) fun r0=>
 jn (fun (s0:LI)=>
 gd (s0.length<=1000000)<|
 some (Cq s0,0))
 (fun j0=>Ali Ab7 Xt s7 r0 fun t0=>
 j0 t0))
 (fun j7=>bnd (lfix (Ug p2 p1 r2 p3) (([]:List (Int×Bb)),0)) fun t1=>
 j7 t1))
 else (some (([]:LI),r2.2))
def Jo(p0:List Aa)(r2:List Aa)(p1:Af):LI->Option (Sum LI LI):=fun s0=>
 bnd (Ws p0 s0 r2 p1) fun r0=>
 jn (fun (s1:Bool)=>
 if s1=true then (some (.inr s0))
 else (some (.inl r0.1)))
 (fun j0=>if r0.2=0 then (j0 (decide ((r0.1.length:Int)=(s0.length:Int))))
 else (j0 true))
def Fc(p0:List Aa)(p1:Af):Option LI:=
 bnd (Bx p0 p1) fun r2=>
 bnd (Su r2 p1) fun r9=>
 bnd (lfix (Jo p0 r2 p1) r9) fun t0=>
 some t0
instance(p0:LI)(p1:Int):Con (Jn p0 p1) prog 148 (fun K vs=>∃U0 E0,vs=[.slice U0 p0.length E0,iq p1]/\Has K U0 p0.length E0 1 Ak p0/\True) (fun _ r v Ln=>v=iq r/\Ln=[]/\True):=⟨by
 rintro K _ r ⟨U0,E0,rfl,ha0,-⟩ hx w hK;replace ha0:=ha0.lo hK;unfold Jn at hx;refine CtS ntmps148 results148 ?_;refine pq ?_;intros;rename_i hx
 refine pA ?_;intros;rename_i hx
 apply Jr (γ:=Unit) hx [] (fun s2 y2 f=>f) [999] (fun s2 y2 l=>l);exact kk
 .exact aI
 .refine pI ?_;intros;rename_i hx
  apply Lr (γ:=Unit) hx [0,1,7] (fun s0 y0 f=>(8,iq s0)::f) [999] (fun s0 y0 l=>l) ();exact kk;exact sk;intro s0 y0 x0 hx _;unfold Dk at hx;exact au⟩
instance(p0:LI)(p1:Int):Con (Cl p0 p1) prog 92 (fun K vs=>∃U0 E0,vs=[.slice U0 p0.length E0,iq p1]/\Has K U0 p0.length E0 1 Ak p0/\True) (fun _ r v Ln=>v=.bool r/\Ln=[]/\True):=⟨by
 rintro K _ r ⟨U0,E0,rfl,ha0,-⟩ hx w hK;replace ha0:=ha0.lo hK;unfold Cl at hx;refine CtS ntmps92 results92 ?_;exact au⟩
instance(p0:List Aa)(p1:LI)(p2:List Aa)(p3:Af):Con (Ws p0 p1 p2 p3) prog 43 (fun K vs=>∃U0 E0 U1 E1 U2 E2,vs=[.slice U0 p0.length E0,.slice U1 p1.length E1,.slice U2 p2.length E2,.agg #[iq p3.Cell,iq p3.Reach,iq p3.Slope,iq p3.Link,iq p3.Flat,iq p3.Tall,iq p3.High,iq p3.Low,iq p3.Brush,iq p3.Few]]/\Has K U0 p0.length E0 9 Ag p0/\Has K U1 p1.length E1 1 Ak p1/\Has K U2 p2.length E2 9 Ag p2/\True) (fun _ r v Ln=>∃A0 c0,v=.tuple #[.slice A0 r.1.length c0,iq r.2]/\Ln=[.r A0 r.1.length c0 3 1 (r.1.flatMap Ak)]/\True):=⟨by
 rintro K _ r ⟨U0,E0,U1,E1,U2,E2,rfl,ha0,ha1,ha2,-⟩ hx w hK;replace ha0:=ha0.lo hK;replace ha1:=ha1.lo hK;replace ha2:=ha2.lo hK;unfold Ws at hx;refine CtS ntmps43 results43 ?_;refine pq ?_;intros;rename_i hx
 refine Cq2 (s:=30) hx rfl ?_ ?_
 .exact aI
 .refine pI ?_;intros;rename_i hx
  refine pA ?_;intros;rename_i hx
  apply Jr (γ:=Nat) hx [1] (fun s7 y7 f=>(12,.map (some y7))::f) [999] (fun s7 y7 l=>Bg prog 3 Cy Gi y7 s7::l);exact kk
  .intro s7 y7 hx;refine pq ?_;intros;rename_i hx
   apply Jr (γ:=OA×Nat) hx [] (fun s0 y0 f=>(20,.slice y0.1 s0.length y0.2)::f) [999] (fun s0 y0 l=>.r y0.1 s0.length y0.2 3 1 (s0.flatMap Ak)::l);exact kk
   .exact aI
   .refine pI ?_;intros;rename_i hx
    refine T_x (Adk key3 Vq underlying121 rfl (fun _=>by exact sE) rfl (fun g0=>?_));refine pq ?_;intros;rename_i hx
    refine Aid (σ:=LI) (γ:=Nat×OA×Nat×(List (Int×Bb))×(Option (Int×Bb))) hx (fun y1=>y1.2.2.2.1) (fun s1 y1=>[(20,.slice y1.2.1 s1.length y1.2.2.1),(88,.pointer (some ⟨g0,0,none⟩))]) (fun s1 y1=>.r y1.2.1 s1.length y1.2.2.1 3 1 (s1.flatMap Ak)::rngE prog 3 Cy Gi y1.1 g0 s7 y1.2.2.2.1 y1.2.2.2.2::[.old w]) (fun s1 y1=>True) (_,_,_,_,_) rfl trivial (by exact sF2) (by exact pK2) ?_;intro s1 y1 _ hm0;replace hm0:MR _ _ y1.2.2.2.1 s1 r:=hm0;refine pq ?_;intros;rename_i hx
    refine T_h (Afv key3 Vq Zx rfl (fun _ _=>by exact sE) rfl (fun hn0=>?_) (fun p158_ hp0=>?_))
    .obtain⟨x0,hx,ht0⟩:=MR.noneK hm0 hn0;unfold Ab7 at hx;refine Abw (by exact sE) ?_;exact au
    .obtain⟨x0,hx,ht0,hn1⟩:=MR.someK hm0 hp0;unfold Xt at hx;exact au
  .refine pI ?_;intros;rename_i hx
   apply Lr (γ:=Nat) hx [1,7,10,33,34] (fun s2 y2 f=>(12,.map (some y2))::(35,iq s2.2)::f) [1,2,3,4,5,999] (fun s2 y2 l=>Bg prog 3 Cy Gi y2 s2.1::l) _;exact kk;exact sk;intro s2 y2 x1 hx _;unfold Ug at hx;refine pq ?_;intros;rename_i hx
   refine Cq1 (s:=36) hx rfl ?_ ?_
   .refine pI ?_;intros;rename_i hx
    apply Jr (γ:=Nat) hx [1,7,10,33,34,35] (fun s3 y3 f=>(12,.map (some y3))::f) [1,2,3,4,5,999] (fun s3 y3 l=>Bg prog 3 Cy Gi y3 s3::l);exact kk
    .exact aI
    .refine pI ?_;intros;rename_i hx
     refine Cq3 (s:=42) hx rfl ?_ ?_
     .exact aI
     .refine pI ?_;intros;rename_i hx
      refine Cq4 (s:=52) hx rfl ?_ ?_
      .exact aI
      .refine pI ?_;intros;rename_i hx
       apply Jr (γ:=Unit) hx [1,7,10,12,14,15,17,33,34,35] (fun s4 y4 f=>(78,.bool s4)::f) [1,2,3,4,5,6,7,999] (fun s4 y4 l=>l);exact kk
       .exact aI
       .exact aI
   .exact aI⟩
instance(p0:List Aa)(p1:Af):Con (Fc p0 p1) prog 49 (fun K vs=>∃U0 E0,vs=[.slice U0 p0.length E0,.agg #[iq p1.Cell,iq p1.Reach,iq p1.Slope,iq p1.Link,iq p1.Flat,iq p1.Tall,iq p1.High,iq p1.Low,iq p1.Brush,iq p1.Few]]/\Has K U0 p0.length E0 9 Ag p0/\True) (fun _ r v Ln=>∃A0 c0,v=.slice A0 r.length c0/\Ln=[.r A0 r.length c0 3 1 (r.flatMap Ak)]/\True):=⟨by
 rintro K _ r ⟨U0,E0,rfl,ha0,-⟩ hx w hK;replace ha0:=ha0.lo hK;unfold Fc at hx;refine CtS ntmps49 results49 ?_;refine pq ?_;intros;rename_i hx
 apply Lr (γ:=OA×Nat) hx [0,3,5] (fun s32 y32 f=>(6,.slice y32.1 s32.length y32.2)::f) [1,2,999] (fun s32 y32 l=>.r y32.1 s32.length y32.2 3 1 (s32.flatMap Ak)::l) (_,_);exact kk;exact sk;intro s32 y32 x32 hx _;unfold Jo at hx;exact au⟩
instance:Ji prog 28 [] [iq 0,iq 0]:=⟨fun w=>kr⟩
def Wt(p0:Al)(p1:Aa):Option (Av×Bool):=
 bnd (Bp p1) fun r4=>
 bnd (Pu p0 r4) fun r7=>
 if r7<0 then (some ((⟨0,0⟩:Av),false))
 else (bnd (Bp p1) fun r0=>
 bnd (Pv p0 r7 r0) fun r1=>
 some ((⟨w64 (p1.Z.Lo-r1.Hi),w64 (p1.Z.Hi-r1.Lo)⟩:Av),true))
instance:SrtI prog 60 154 Ag 9 (fun l=>(ptIn l)) Hn (fun x=>.agg #[iq x.Id,iq x.X,iq x.Y,iq x.Z.Lo,iq x.Z.Hi,iq x.Wide,iq x.Num,iq x.Of,iq x.Class]):=⟨⟨_,func60,rfl,rfl⟩,fun l hb hp A m c t w hok hcm=>Ae3 l hb hp w hok hcm ⟨_,func154,rfl,rfl⟩,fun _ W x y px py=>⟨[.agg #[iq x.Id,iq x.X,iq x.Y,iq x.Z.Lo,iq x.Z.Hi,iq x.Wide,iq x.Num,iq x.Of,iq x.Class],.agg #[iq y.Id,iq y.X,iq y.Y,iq y.Z.Lo,iq y.Z.Hi,iq y.Wide,iq y.Num,iq y.Of,iq y.Class]],rfl,Ahz x y (Ayo px py) W⟩⟩
def Uh(r3:List Aa×List Aa)(p1:Al)(p3:Af)(p2:LI):(List Aa×Int)->Option (Sum (List Aa×Int) (List Aa)):=fun s0=>
 if s0.2<(r3.1.length:Int) then (jn (fun (s1:List Aa)=>
 some (.inl (s1,w64 (s0.2+1))))
 (fun j0=>bnd (idx r3.1 s0.2) fun x0=>
 jn (fun (s2:Bool)=>
 if s2=true then (j0 s0.1)
 else (bnd (Wt p1 x0) fun r0=>
 jn (fun (s3:Bool)=>
 if s3=true then (gd ((s0.1.length+1)*72<=140737488355328)<|
 j0 (s0.1++[x0]))
 else (j0 s0.1))
 (fun j1=>if r0.2=true then (bnd (Bz p3.Tall r0.1.Lo p3.High) fun r1=>
 j1 r1)
 else (j1 false))))
 (fun j2=>if x0.Of=1 then (bnd (Cl p2 x0.Id) fun r2=>
 j2 r2)
 else (j2 true))))
 else (some (.inr s0.1))
def Za(p0:List Aa)(p1:Al)(p2:LI)(p3:Af):Option (List Aa):=
 bnd (Qz p0 p3) fun r3=>
 jn (fun (s4:List Aa)=>
 bnd (Um Bp s4) fun r0=>
 gd (r0.length<=1000000000/\(∀x∈r0,(ptIn r0) x))<|
 some (Bf Hn r0))
 (fun j4=>bnd (lfix (Uh r3 p1 p3 p2) (([]:List Aa),0)) fun t0=>
 j4 t0)
def Oz(p0:LI):Int->Option (Sum Int Int):=fun s0=>
 bnd (idx p0 s0) fun x0=>
 if x0=s0 then (some (.inr s0))
 else (bnd (idx p0 s0) fun x1=>
 some (.inl x1))
def Qp(p0:LI)(p1:Int):Option Int :=
 jn (fun (s2:Int)=>
 some s2)
 (fun j2=>bnd (lfix (Oz p0) p1) fun t0=>
 j2 t0)
def Hk(p0:List Aa):(LI×Int)->Option (Sum (LI×Int) LI):=fun s0=>
 if s0.2<((((List.replicate (Int.toNat (p0.length:Int)) (0:Int)).length:Nat):Int)) then (bnd (idx s0.1 s0.2) fun x0=>
 some (.inl (setI s0.1 s0.2 s0.2,w64 (s0.2+1))))
 else (some (.inr s0.1))
def Fq(x0:Ah)(p0:List Aa)(p1:Af):(LI×Int)->Option (Sum (LI×Int) LI):=fun s0=>
 if s0.2<3 then (jn (fun (s1:LI)=>
 some (.inl (s1,w64 (s0.2+1))))
 (fun j0=>bnd (idx [x0.a0,x0.a1,x0.a2] s0.2) fun x1=>
 bnd (idx [x0.a0,x0.a1,x0.a2] (Int.tmod (w64 (s0.2+1)) 3)) fun x2=>
 jn (fun (s2:Bool)=>
 if s2=true then (j0 s0.1)
 else (bnd (Qp s0.1 x1) fun r0=>
 bnd (Qp s0.1 x2) fun r1=>
 bnd (idx s0.1 (max r0 r1)) fun x3=>
 j0 (setI s0.1 (max r0 r1) (min r0 r1))))
 (fun j1=>bnd (idx p0 x1) fun x4=>
 bnd (idx p0 x2) fun x5=>
 bnd (Xd x4 x5 p1.Link) fun r2=>
 if r2=true then (bnd (idx p0 x1) fun x6=>
 bnd (idx p0 x2) fun x7=>
 bnd (Wq x6.Z x7.Z) fun r3=>
 j1 (decide (p1.Flat<r3)))
 else (j1 true))))
 else (some (.inr s0.1))
def Fs(r0:Al×Int)(p0:List Aa)(p1:Af):(LI×Int)->Option (Sum (LI×Int) LI):=fun s0=>
 if s0.2<(r0.1.T.length:Int) then (jn (fun (s1:LI)=>
 some (.inl (s1,w64 (s0.2+1))))
 (fun j0=>bnd (idx r0.1.T s0.2) fun x0=>
 bnd (lfix (Fq x0 p0 p1) (s0.1,0)) fun t0=>
 j0 t0))
 else (some (.inr s0.1))
def Ft(s0:LI):(LI×Int)->Option (Sum (LI×Int) LI):=fun s1=>
 if s1.2<(s0.length:Int) then (bnd (Qp s1.1 s1.2) fun r0=>
 bnd (idx s1.1 s1.2) fun x0=>
 some (.inl (setI s1.1 s1.2 r0,w64 (s1.2+1))))
 else (some (.inr s1.1))
def Iw(p0:List Aa)(p1:Af):Option LI:=
 gd ((0:Int)<=(p0.length:Int)/\8*Int.toNat (p0.length:Int)<=140737488355328)<|
 jn (fun (s3:LI)=>
 bnd (Oc p0) fun r0=>
 if r0.2=0 then (jn (fun (s0:LI)=>
 jn (fun (s1:LI)=>
 some s1)
 (fun j0=>bnd (lfix (Ft s0) (s0,0)) fun t0=>
 j0 t0))
 (fun j1=>bnd (lfix (Fs r0 p0 p1) (s3,0)) fun t1=>
 j1 t1))
 else (some s3))
 (fun j3=>bnd (lfix (Hk p0) (List.replicate (Int.toNat (p0.length:Int)) (0:Int),0)) fun t2=>
 j3 t2)
def Dl(r0:LI):(LI×Int)->Option (Sum (LI×Int) LI):=fun s0=>
 if s0.2<(r0.length:Int) then (bnd (idx r0 s0.2) fun x0=>
 bnd (idx s0.1 x0) fun x1=>
 bnd (idx s0.1 x0) fun x2=>
 some (.inl (setI s0.1 x0 (w64 (x1+1)),w64 (s0.2+1))))
 else (some (.inr s0.1))
def Hl(r3:List Aa)(r0:LI)(s5:LI)(p3:Af):(List Aa×Int)->Option (Sum (List Aa×Int) (List Aa)):=fun s0=>
 if s0.2<(r3.length:Int) then (jn (fun (s1:List Aa)=>
 some (.inl (s1,w64 (s0.2+1))))
 (fun j0=>bnd (idx r3 s0.2) fun x0=>
 bnd (idx r0 s0.2) fun x1=>
 bnd (idx s5 x1) fun x2=>
 if p3.Few<=x2 then (gd ((s0.1.length+1)*72<=140737488355328)<|
 j0 (s0.1++[x0]))
 else (j0 s0.1)))
 else (some (.inr s0.1))
def Nz(p0:List Aa)(p1:Al)(p2:LI)(p3:Af):Option LI:=
 bnd (Za p0 p1 p2 p3) fun r3=>
 bnd (Iw r3 p3) fun r0=>
 gd ((0:Int)<=(r3.length:Int)/\8*Int.toNat (r3.length:Int)<=140737488355328)<|
 jn (fun (s5:LI)=>
 jn (fun (s0:List Aa)=>
 bnd (Yq s0) fun r1=>
 some r1)
 (fun j0=>bnd (lfix (Hl r3 r0 s5 p3) (([]:List Aa),0)) fun t0=>
 j0 t0))
 (fun j5=>bnd (lfix (Dl r0) (List.replicate (Int.toNat (r3.length:Int)) (0:Int),0)) fun t1=>
 j5 t1)
def Yf(p0:LI):((List (Int×Bool))×Int)->Option (Sum ((List (Int×Bool))×Int) (List (Int×Bool))):=fun s0=>
 if s0.2<(p0.length:Int) then (bnd (idx p0 s0.2) fun x0=>
 gd ((-9223372036854775808<=x0/\x0<=9223372036854775807))<|
 gd (s0.1.length<9223372036854775807)<|
 some (.inl (mput s0.1 x0 true,w64 (s0.2+1))))
 else (some (.inr s0.1))
def Vk(p0:LI):Option (List (Int×Bool)):=
 jn (fun (s3:List (Int×Bool))=>
 some s3)
 (fun j3=>bnd (lfix (Yf p0) (([]:List (Int×Bool)),0)) fun t0=>
 j3 t0)
instance(p0:Al)(p1:Aa):Con (Wt p0 p1) prog 39 (fun K vs=>∃U0 E0 U1 E1 U2 E2,vs=[.agg #[.slice U0 p0.V.length E0,.slice U1 p0.T.length E1,.slice U2 p0.Lines.length E2],.agg #[iq p1.Id,iq p1.X,iq p1.Y,iq p1.Z.Lo,iq p1.Z.Hi,iq p1.Wide,iq p1.Num,iq p1.Of,iq p1.Class]]/\Has K U0 p0.V.length E0 4 Am p0.V/\Has K U1 p0.T.length E1 3 Az p0.T/\Has K U2 p0.Lines.length E2 2 Ar p0.Lines/\True) (fun _ r v Ln=>v=.tuple #[.agg #[iq r.1.Lo,iq r.1.Hi],.bool r.2]/\Ln=[]/\True):=⟨by
 rintro K _ r ⟨U0,E0,U1,E1,U2,E2,rfl,ha0,ha1,ha2,-⟩ hx w hK;replace ha0:=ha0.lo hK;replace ha1:=ha1.lo hK;replace ha2:=ha2.lo hK;unfold Wt at hx;have:=dl 1 [1,1,2,2,2] [0,1,2,3,4];have:=dl 4 [1,0,1,2,2,4,3] [0,1,2,3,4,5,6] [5];refine CtS ntmps39 results39 ?_;exact au⟩
instance(p0:List Aa)(p1:Al)(p2:LI)(p3:Af):Con (Za p0 p1 p2 p3) prog 104 (fun K vs=>∃U0 E0 U1 E1 U2 E2 U3 E3 U4 E4,vs=[.slice U0 p0.length E0,.agg #[.slice U1 p1.V.length E1,.slice U2 p1.T.length E2,.slice U3 p1.Lines.length E3],.slice U4 p2.length E4,.agg #[iq p3.Cell,iq p3.Reach,iq p3.Slope,iq p3.Link,iq p3.Flat,iq p3.Tall,iq p3.High,iq p3.Low,iq p3.Brush,iq p3.Few]]/\Has K U0 p0.length E0 9 Ag p0/\Has K U1 p1.V.length E1 4 Am p1.V/\Has K U2 p1.T.length E2 3 Az p1.T/\Has K U3 p1.Lines.length E3 2 Ar p1.Lines/\Has K U4 p2.length E4 1 Ak p2/\True) (fun _ r v Ln=>∃A0 c0,v=.slice A0 r.length c0/\Ln=[.r A0 r.length c0 30 9 (r.flatMap Ag)]/\True):=⟨by
 rintro K _ r ⟨U0,E0,U1,E1,U2,E2,U3,E3,U4,E4,rfl,ha0,ha1,ha2,ha3,ha4,-⟩ hx w hK;replace ha0:=ha0.lo hK;replace ha1:=ha1.lo hK;replace ha2:=ha2.lo hK;replace ha3:=ha3.lo hK;replace ha4:=ha4.lo hK;unfold Za at hx;refine CtS ntmps104 results104 ?_;refine pq ?_;intros;rename_i hx
 refine pA ?_;intros;rename_i hx
 apply Jr (γ:=OA×Nat) hx [] (fun s4 y4 f=>(11,.slice y4.1 s4.length y4.2)::f) [999] (fun s4 y4 l=>.r y4.1 s4.length y4.2 30 9 (s4.flatMap Ag)::l);exact kk
 .exact aI
 .refine pI ?_;intros;rename_i hx
  refine Ba 30 9 ?_;apply Lr (γ:=OA×Nat) hx [2,5,7,23,24] (fun s0 y0 f=>(11,.slice y0.1 s0.1.length y0.2)::(25,iq s0.2)::f) [1,3,4,999] (fun s0 y0 l=>.r y0.1 s0.1.length y0.2 30 9 (s0.1.flatMap Ag)::l) (_,_);exact kk;exact sk;intro s0 y0 x0 hx _;unfold Uh at hx;refine pq ?_;intros;rename_i hx
  refine Cq1 (s:=26) hx rfl ?_ ?_
  .refine pI ?_;intros;rename_i hx
   apply Jr (γ:=OA×Nat) hx [2,5,7,23,24,25] (fun s1 y1 f=>(11,.slice y1.1 s1.length y1.2)::f) [1,2,3,999] (fun s1 y1 l=>.r y1.1 s1.length y1.2 30 9 (s1.flatMap Ag)::l);exact kk
   .exact aI
   .refine pI ?_;intros;rename_i hx
    refine pA ?_;intros;rename_i hx
    apply Jr (γ:=Unit) hx [2,5,7,11,13,23,24,25] (fun s2 y2 f=>(37,.bool s2)::f) [0,1,2,3,4,999] (fun s2 y2 l=>l);exact kk
    .exact aI
    .exact aI
  .exact aI⟩
instance(p0:LI)(p1:Int):Con (Qp p0 p1) prog 156 (fun K vs=>∃U0 E0,vs=[.slice U0 p0.length E0,iq p1]/\Has K U0 p0.length E0 1 Ak p0/\True) (fun _ r v Ln=>v=iq r/\Ln=[]/\True):=⟨by
 rintro K _ r ⟨U0,E0,rfl,ha0,-⟩ hx w hK;replace ha0:=ha0.lo hK;unfold Qp at hx;refine CtS ntmps156 results156 ?_;refine pq ?_;intros;rename_i hx
 refine pA ?_;intros;rename_i hx
 apply Jr (γ:=Unit) hx [] (fun s2 y2 f=>(1,iq s2)::f) [999] (fun s2 y2 l=>l);exact kk
 .exact aI
 .refine pI ?_;intros;rename_i hx
  apply Lr (γ:=Unit) hx [0] (fun s0 y0 f=>(1,iq s0)::f) [999] (fun s0 y0 l=>l) ();exact kk;exact sk;intro s0 y0 x0 hx _;unfold Oz at hx;exact au⟩
instance(p0:List Aa)(p1:Af):Con (Iw p0 p1) prog 105 (fun K vs=>∃U0 E0,vs=[.slice U0 p0.length E0,.agg #[iq p1.Cell,iq p1.Reach,iq p1.Slope,iq p1.Link,iq p1.Flat,iq p1.Tall,iq p1.High,iq p1.Low,iq p1.Brush,iq p1.Few]]/\Has K U0 p0.length E0 9 Ag p0/\True) (fun _ r v Ln=>∃A0 c0,v=.slice A0 r.length c0/\Ln=[.r A0 r.length c0 3 1 (r.flatMap Ak)]/\True):=⟨by
 rintro K _ r ⟨U0,E0,rfl,ha0,-⟩ hx w hK;replace ha0:=ha0.lo hK;unfold Iw at hx;have:=dl 16 [0,0,1,0,0,0,0,1,2,2] [0,1,2,3,4,5,6,7,8,9];have:=dl 17 [0,0,0,1,0,0,0,1,0,1,2,0,0,0,0,0,0,1,0,0,0,0,1,2,0,1,0,0] [0,1,2,3,4,5,6,7,8,9,10,11,12,13,14,15,16,17,18,19,20,21,22,24,25,23,26,27];refine CtS ntmps105 results105 ?_;refine pq ?_;intros;rename_i hx
 apply Jr (γ:=OA×Nat) hx [0,3] (fun s3 y3 f=>(5,.slice y3.1 s3.length y3.2)::f) [1,999] (fun s3 y3 l=>.r y3.1 s3.length y3.2 3 1 (s3.flatMap Ak)::l);exact kk
 .intro s3 y3 hx;refine pq ?_;intros;rename_i hx
  refine Cq2 (s:=36) hx rfl ?_ ?_
  .exact aI
  .refine pI ?_;intros;rename_i hx
   apply Jr (γ:=OA×Nat) hx [] (fun s0 y0 f=>(5,.slice y0.1 s0.length y0.2)::f) [999] (fun s0 y0 l=>.r y0.1 s0.length y0.2 3 1 (s0.flatMap Ak)::l);exact kk
   .intro s0 y0 hx;apply Jr (γ:=OA×Nat) hx [] (fun s1 y1 f=>(5,.slice y1.1 s1.length y1.2)::f) [999] (fun s1 y1 l=>.r y1.1 s1.length y1.2 3 1 (s1.flatMap Ak)::l);exact kk
    .exact aI
    .refine pI ?_;intros;rename_i hx
     apply Lr (γ:=OA×Nat) hx [101] (fun s2 y2 f=>(5,.slice y2.1 s2.1.length y2.2)::(102,iq s2.2)::f) [999] (fun s2 y2 l=>.r y2.1 s2.1.length y2.2 3 1 (s2.1.flatMap Ak)::l) (_,_);exact kk;exact sk;intro s2 y2 x0 hx _;unfold Ft at hx;exact au
   .refine pI ?_;intros;rename_i hx
    apply Lr (γ:=OA×Nat) hx [0,3,39,40] (fun s4 y4 f=>(5,.slice y4.1 s4.1.length y4.2)::(41,iq s4.2)::f) [2,5,999] (fun s4 y4 l=>.r y4.1 s4.1.length y4.2 3 1 (s4.1.flatMap Ak)::l) (_,_);exact kk;exact sk;intro s4 y4 x1 hx _;unfold Fs at hx;refine pq ?_;intros;rename_i hx
    refine Cq1 (s:=42) hx rfl ?_ ?_
    .refine pI ?_;intros;rename_i hx
     apply Jr (γ:=OA×Nat) hx [0,3,39,40,41] (fun s5 y5 f=>(5,.slice y5.1 s5.length y5.2)::f) [1,2,999] (fun s5 y5 l=>.r y5.1 s5.length y5.2 3 1 (s5.flatMap Ak)::l);exact kk
     .exact aI
     .refine pI ?_;intros;rename_i hx
      apply Lr (γ:=OA×Nat) hx [0,3,10,39,40,41] (fun s6 y6 f=>(5,.slice y6.1 s6.1.length y6.2)::(45,iq s6.2)::f) [0,2,3,999] (fun s6 y6 l=>.r y6.1 s6.1.length y6.2 3 1 (s6.1.flatMap Ak)::l) (_,_);exact kk;exact sk;intro s6 y6 x2 hx _;unfold Fq at hx;refine pq ?_;intros;rename_i hx
      refine Cq1 (s:=46) hx rfl ?_ ?_
      .refine pI ?_;intros;rename_i hx
       apply Jr (γ:=OA×Nat) hx [0,3,10,39,40,41,45] (fun s7 y7 f=>(5,.slice y7.1 s7.length y7.2)::f) [1,2,3,999] (fun s7 y7 l=>.r y7.1 s7.length y7.2 3 1 (s7.flatMap Ak)::l);exact kk
       .exact aI
       .refine pI ?_;intros;rename_i hx
        refine pA ?_;intros;rename_i hx
        apply Jr (γ:=Unit) hx [0,3,5,10,12,13,39,40,41,45] (fun s8 y8 f=>(83,.bool s8)::f) [1,2,0,3,999] (fun s8 y8 l=>l);exact kk
        .exact aI
        .exact aI
      .exact aI
    .exact aI
 .refine pI ?_;intros;rename_i hx
  apply Lr (γ:=OA×Nat) hx [0,3,21] (fun s9 y9 f=>(5,.slice y9.1 s9.1.length y9.2)::(22,iq s9.2)::f) [1,999] (fun s9 y9 l=>.r y9.1 s9.1.length y9.2 3 1 (s9.1.flatMap Ak)::l) (_,_);exact kk;exact sk;intro s9 y9 x3 hx _;unfold Hk at hx;exact au⟩
instance(p0:List Aa)(p1:Al)(p2:LI)(p3:Af):Con (Nz p0 p1 p2 p3) prog 52 (fun K vs=>∃U0 E0 U1 E1 U2 E2 U3 E3 U4 E4,vs=[.slice U0 p0.length E0,.agg #[.slice U1 p1.V.length E1,.slice U2 p1.T.length E2,.slice U3 p1.Lines.length E3],.slice U4 p2.length E4,.agg #[iq p3.Cell,iq p3.Reach,iq p3.Slope,iq p3.Link,iq p3.Flat,iq p3.Tall,iq p3.High,iq p3.Low,iq p3.Brush,iq p3.Few]]/\Has K U0 p0.length E0 9 Ag p0/\Has K U1 p1.V.length E1 4 Am p1.V/\Has K U2 p1.T.length E2 3 Az p1.T/\Has K U3 p1.Lines.length E3 2 Ar p1.Lines/\Has K U4 p2.length E4 1 Ak p2/\True) (fun _ r v Ln=>∃A0 c0,v=.slice A0 r.length c0/\Ln=[.r A0 r.length c0 3 1 (r.flatMap Ak)]/\True):=⟨by
 rintro K _ r ⟨U0,E0,U1,E1,U2,E2,U3,E3,U4,E4,rfl,ha0,ha1,ha2,ha3,ha4,-⟩ hx w hK;replace ha0:=ha0.lo hK;replace ha1:=ha1.lo hK;replace ha2:=ha2.lo hK;replace ha3:=ha3.lo hK;replace ha4:=ha4.lo hK;unfold Nz at hx;have:=dl 13 [0,0,0,0,1,0,1,0,1,0] [0,1,2,3,4,5,6,7,8,9];refine CtS ntmps52 results52 ?_;refine pq ?_;intros;rename_i hx
 apply Jr (γ:=OA×Nat) hx [7,9,10] (fun s5 y5 f=>(11,.slice y5.1 s5.length y5.2)::f) [1,2,3,999] (fun s5 y5 l=>.r y5.1 s5.length y5.2 3 1 (s5.flatMap Ak)::l);exact kk
 .intro s5 y5 hx;refine pq ?_;intros;rename_i hx
  refine pA ?_;intros;rename_i hx
  apply Jr (γ:=OA×Nat) hx [] (fun s0 y0 f=>(14,.slice y0.1 s0.length y0.2)::f) [999] (fun s0 y0 l=>.r y0.1 s0.length y0.2 30 9 (s0.flatMap Ag)::l);exact kk
  .exact aI
  .refine pI ?_;intros;rename_i hx
   refine Ba 30 9 ?_;apply Lr (γ:=OA×Nat) hx [7,10,11,41,42] (fun s1 y1 f=>(14,.slice y1.1 s1.1.length y1.2)::(43,iq s1.2)::f) [1,2,3,4,999] (fun s1 y1 l=>.r y1.1 s1.1.length y1.2 30 9 (s1.1.flatMap Ag)::l) (_,_);exact kk;exact sk;intro s1 y1 x0 hx _;unfold Hl at hx;exact au
 .refine pI ?_;intros;rename_i hx
  apply Lr (γ:=OA×Nat) hx [7,9,10,28,29] (fun s2 y2 f=>(11,.slice y2.1 s2.1.length y2.2)::(30,iq s2.2)::f) [1,2,3,999] (fun s2 y2 l=>.r y2.1 s2.1.length y2.2 3 1 (s2.1.flatMap Ak)::l) (_,_);exact kk;exact sk;intro s2 y2 x1 hx _;unfold Dl at hx;exact au⟩
theorem Amx(p0:LI){K:LE}{U0:OA}{E0:Nat}(ha0:Has K U0 p0.length E0 1 Ak p0){r:List (Int×Bool)}(hx:Vk p0=some r)(w:World)(hK:∀e∈K,Ent.ok w e):CtL prog 109 [.slice U0 p0.length E0] w fun v Ln=>∃(g0_:Nat),v=.map (some g0_)/\Ln=[Bg prog 3 Cy Ca g0_ r]/\True:=by
 have ha0':=Has.up0 ha0;refine CtL.mk 19 func109 rfl ntmps109 kr rfl ?_;show T 19 _ [(0,.slice U0 p0.length E0)] _;unfold Vk at hx;refine Y8 ?_;refine Dg (Aap rfl 3 underlying42) rfl ?_;refine T_x (Aft prog 3 Cy Ca underlying136 rfl rfl (fun g1=>?_));refine Y3 ?_;refine Tj (γ:=Unit) hx (fun s3 y3=>[(3,.map (some g1))]) (fun s3 y3=>[Bg prog 3 Cy Ca g1 s3]++[.old w]) (fun s3 y3=>True) (fun s3 y3 hx0 hG0=>?_) (fun j3 hx=>?_)
 .refine Y7 ?_;obtain rfl:=oI hx0;exact Pr (rs:=[.tmp 2]) results109 (.tmp rfl (.nil)) (Ln:=[Bg prog 3 Cy Ca g1 s3]) ⟨g1,rfl,rfl,trivial⟩ (Bq rfl Gg) (by exact .pick 0 rfl (.refl))
 .refine Y3 ?_;refine Dg (Aap rfl 3 underlying42) rfl ?_;refine Y4 ?_;obtain⟨t0,hl0,ho0⟩:=Bk hx;refine Lp (σ:=(List (Int×Bool))×Int) (γ:=Unit) hl0 (fun s0 y0=>[(3,.map (some g1)),(9,.slice U0 p0.length E0),(10,iq (p0.length:Int)),(11,iq s0.2)]) (fun s0 y0=>[Bg prog 3 Cy Ca g1 s0.1]++[.old w]) (fun s0 y0=>True) () trivial (by exact .pick 0 rfl (.refl)) ?_;intro s0 y0 hG1 x0 hx1 ht0;unfold Yf at hx1;refine Y6 ?_;refine Ti hx1 (s:=12) rfl (fun h0 hx2=>?_) (fun h0 hx3=>?_)
  .refine Y7 ?_;obtain⟨x1,h1,hx4⟩:=Bk hx2;have hw0:=Has.low (E:=[]) ha0' hK;obtain⟨b0,o0,j0,hA0,hj0,hl1,hp0⟩:=Has.at_idx hw0 h1;refine Dg (Uv rfl rfl hA0 (j:=j0) hj0 hl1 Aj1) rfl ?_;refine Dg (Sc rfl hp0 (sb 1) rfl one3) rfl ?_;refine Y6 ?_;obtain⟨h2,hx5⟩:=Em hx4;obtain⟨h3,hx6⟩:=Em hx5;refine T_h (Aex (x:=x1) (y:=true) key3 Vq underlying136 rfl rfl rfl rfl rfl (.here) (isk3 x1 h2) h3 ?_);refine Y7 ?_;exact Rp (mput s0.1 x1 true,w64 (s0.2+1)) () hx6 trivial (by exact .pick 0 rfl (.refl))
  .refine Y3 ?_;obtain rfl:=Zw ht0 hx3;refine Y2 ?_;exact Mt s0.1 () ho0 trivial (by exact .pick 0 rfl (.refl))
instance(p0:LI):Con (Vk p0) prog 109 (fun K vs=>∃U0 E0,vs=[.slice U0 p0.length E0]/\Has K U0 p0.length E0 1 Ak p0/\True) (fun _ r v Ln=>∃g0_,v=.map (some g0_)/\Ln=[Bg prog 3 Cy Ca g0_ r]/\True):=⟨by
 rintro K _ r ⟨U0,E0,rfl,ha0,-⟩ hx w hK;exact Amx p0 ha0 hx w hK⟩
end
end Go.Proofs.YthlkpgdfifnagaaGreat
