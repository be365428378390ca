import Derived.Test.YthlkpgdfifnagaaGreatX3
set_option maxRecDepth 100000
set_option maxHeartbeats 1000000
namespace Go.Proofs.YthlkpgdfifnagaaGreat
open Go Go.RowKit Tryz
theorem Axq:Qw prog 162 [iq 0,iq 0,iq 0,iq 0,iq 0,iq 0]:=⟨_,zeroValue162,rfl⟩
instance:Ud prog 162 [iq 0,iq 0,iq 0,iq 0,iq 0,iq 0]:=⟨Axq⟩
theorem Aeh:Ag0 prog 162 3 2:=.mk underlying162 (show prog.info? 57=some t57 from by kernel_rfl) kr
instance:ArrI prog 162 3 2:=⟨Aeh⟩
theorem Axr:Rj prog 162 6:=.arr underlying162 (show prog.info? 162=some t162 from by kernel_rfl) kr
instance:AggI prog 162 6:=⟨Axr⟩
instance:OneI prog 9:=⟨.mk underlying9 rfl (show prog.info? 9=some Tryz.t9 from by kernel_rfl) kr⟩
theorem Axs:Qw prog 219 [.int .u64 0,.int .u64 0]:=⟨_,zeroValue219,rfl⟩
instance:Ud prog 219 [.int .u64 0,.int .u64 0]:=⟨Axs⟩
theorem Ao0:Hb prog 219 1 1:=.mk underlying219 rfl rfl (show prog.info? 167=some t167 from by kernel_rfl) (show t167.size=1 from by kernel_rfl) rfl
instance:Bz prog 219 1 1:=⟨Ao0⟩
theorem Aqu:Vf prog 167:=.mk underlying167 rfl (show prog.info? 167=some t167 from by kernel_rfl) kr
instance:OneI prog 167:=⟨Aqu⟩
theorem Ao1:Hb prog 219 0 0:=.mk underlying219 rfl rfl (show prog.info? 167=some t167 from by kernel_rfl) (show t167.size=1 from by kernel_rfl) rfl
instance:Bz prog 219 0 0:=⟨Ao1⟩
theorem Ahs(x0:Int)(x1:Int):Vv prog 219 [(0,.int .u64 x0),(1,.int .u64 x1)] [.int .u64 x0,.int .u64 x1]:=fun w=>kr
theorem Aqv:Rj prog 219 2:=.mk underlying219 rfl (show prog.info? 219=some t219 from by kernel_rfl) kr
instance:AggI prog 219 2:=⟨Aqv⟩
theorem Ao2:Qw prog 28 [iq 0,iq 0]:=⟨_,zeroValue28,rfl⟩
instance:Ud prog 28 [iq 0,iq 0]:=⟨Ao2⟩
noncomputable def Fg(p0:Ac)(p1:Ac)(p2:Ac):Option Int :=
 some (w64 ((w64 ((w64 (p1.X-p0.X))*(w64 (p2.Y-p0.Y))))-(w64 ((w64 (p1.Y-p0.Y))*(w64 (p2.X-p0.X))))))
noncomputable def Qq(p0:Ad):Option Ac :=
 some (⟨p0.X,p0.Y⟩:Ac)
structure Ze where
 a0:Ac
 a1:Ac
 a2:Ac
theorem Ajq(x0:Int)(x1:Int)(x2:Int):Am5 prog 101 [iq x0,iq x1,iq x2]:=by
 intro j h k w;have h':j<3:=h
 match j,h,h' with
 | 0,_,_=>exact (show (Instr.index 101 (.agg ([.int .i64 x0,.int .i64 x1,.int .i64 x2]:List Value).toArray) (.int k ((0:Nat):Int))).run prog w = .ok (.int .i64 x0) w by kernel_rfl)
 | 1,_,_=>exact (show (Instr.index 101 (.agg ([.int .i64 x0,.int .i64 x1,.int .i64 x2]:List Value).toArray) (.int k ((1:Nat):Int))).run prog w = .ok (.int .i64 x1) w by kernel_rfl)
 | 2,_,_=>exact (show (Instr.index 101 (.agg ([.int .i64 x0,.int .i64 x1,.int .i64 x2]:List Value).toArray) (.int k ((2:Nat):Int))).run prog w = .ok (.int .i64 x2) w by kernel_rfl)
instance(x0:Int)(x1:Int)(x2:Int):Aww prog 101 [iq x0,iq x1,iq x2]:=⟨Ajq _ _ _⟩
instance(x0:Int)(x1:Int)(x2:Int):Asp prog 101 [iq x0,iq x1,iq x2] (Value.int .i64) [x0,x1,x2]:=⟨Ajq _ _ _⟩
noncomputable def Jg(p0:Aq)(p1:Int):Option Ze :=
 bnd (idx p0.T p1) fun x4=>
 bnd (idx p0.V x4.a0) fun x0=>
 bnd (Qq x0) fun r0=>
 bnd (idx p0.V x4.a1) fun x1=>
 bnd (Qq x1) fun r1=>
 bnd (idx p0.V x4.a2) fun x2=>
 bnd (Qq x2) fun r2=>
 some (⟨r0,r1,r2⟩:Ze)
noncomputable def Na(p0:Aq)(p1:Ac):Int->Option (Sum Int (Sum Unit Int)):=fun s0=>
 if s0<(p0.T.length:Int) then (bnd (Jg p0 s0) fun r0=>
 jn (fun (s1:Bool)=>
 if s1=true then (some (.inr (.inr s0)))
 else (some (.inl (w64 (s0+1)))))
 (fun j0=>bnd (Fg (⟨r0.a0.X,r0.a0.Y⟩:Ac) (⟨r0.a1.X,r0.a1.Y⟩:Ac) p1) fun r1=>
 if 0<=r1 then (bnd (Fg (⟨r0.a1.X,r0.a1.Y⟩:Ac) (⟨r0.a2.X,r0.a2.Y⟩:Ac) p1) fun r2=>
 if 0<=r2 then (bnd (Fg (⟨r0.a2.X,r0.a2.Y⟩:Ac) (⟨r0.a0.X,r0.a0.Y⟩:Ac) p1) fun r3=>
 j0 (decide (0<=r3)))
 else (j0 false))
 else (j0 false)))
 else (some (.inr (.inl ())))
noncomputable def Rs(p0:Aq)(p1:Ac):Option Int :=
 jn (fun (s2:Unit)=>
 some (-1))
 (fun j2=>bnd (lfix (Na p0 p1) 0) fun t0=>
 (match t0 with
 | (.inl z0)=>j2 z0
 | (.inr z0)=>some z0
 ))
noncomputable def Gy(p0:Int)(p1:Int):Option (Int × Int):=
 some (wu64 ((wu64 ((wu64 ((shr_ .u64 p0 32)*(shr_ .u64 p1 32)))+(shr_ .u64 (wu64 ((wu64 ((shr_ .u64 p0 32)*(Ds .u64 p1 4294967295)))+(shr_ .u64 (wu64 ((Ds .u64 p0 4294967295)*(Ds .u64 p1 4294967295))) 32))) 32)))+(shr_ .u64 (wu64 ((Ds .u64 (wu64 ((wu64 ((shr_ .u64 p0 32)*(Ds .u64 p1 4294967295)))+(shr_ .u64 (wu64 ((Ds .u64 p0 4294967295)*(Ds .u64 p1 4294967295))) 32))) 4294967295)+(wu64 ((Ds .u64 p0 4294967295)*(shr_ .u64 p1 32))))) 32)),wu64 (p0*p1))
instance:UndI prog 5 (.int .u8):=⟨underlying5⟩
def Np:List Int:=[0,1,2,2,3,3,3,3,4,4,4,4,4,4,4,4,5,5,5,5,5,5,5,5,5,5,5,5,5,5,5,5,6,6,6,6,6,6,6,6,6,6,6,6,6,6,6,6,6,6,6,6,6,6,6,6,6,6,6,6,6,6,6,6,7,7,7,7,7,7,7,7,7,7,7,7,7,7,7,7,7,7,7,7,7,7,7,7,7,7,7,7,7,7,7,7,7,7,7,7,7,7,7,7,7,7,7,7,7,7,7,7,7,7,7,7,7,7,7,7,7,7,7,7,7,7,7,7,8,8,8,8,8,8,8,8,8,8,8,8,8,8,8,8,8,8,8,8,8,8,8,8,8,8,8,8,8,8,8,8,8,8,8,8,8,8,8,8,8,8,8,8,8,8,8,8,8,8,8,8,8,8,8,8,8,8,8,8,8,8,8,8,8,8,8,8,8,8,8,8,8,8,8,8,8,8,8,8,8,8,8,8,8,8,8,8,8,8,8,8,8,8,8,8,8,8,8,8,8,8,8,8,8,8,8,8,8,8,8,8,8,8,8,8,8,8,8,8,8,8,8,8,8,8,8,8]
noncomputable def Mf(p0:Int):Option Int :=
 jn (fun (s2:Int × Int)=>
 jn (fun (s5:Int × Int)=>
 jn (fun (s8:Int × Int)=>
 bnd (idx Np (wu8 s8.1)) fun x0=>
 some (w64 (s8.2+(w64 x0))))
 (fun j8=>if 256<=s5.1 then (j8 (shr_ .u64 s5.1 8,w64 (s5.2+8)))
 else (j8 (s5.1,s5.2))))
 (fun j5=>if 65536<=s2.1 then (j5 (shr_ .u64 s2.1 16,w64 (s2.2+16)))
 else (j5 (s2.1,s2.2))))
 (fun j2=>if 4294967296<=p0 then (j2 (shr_ .u64 p0 32,32))
 else (j2 (p0,0)))
noncomputable def Fh(p0:Int):Option Int :=
 bnd (Mf p0) fun r1=>
 some (w64 (64-r1))
instance:UndI prog 144 (.int .u64):=⟨underlying144⟩
noncomputable def Nw(p2:Int)(r0:Int)(p1:Int):(Int × Int)->Option (Sum (Int × Int) Int):=fun s0=>
 jn (fun (s1:Bool)=>
 if s1=true then (if 4294967296<=(wu64 (s0.2+(shr_ .u64 (shl_ .u64 p2 (wu64 r0)) 32))) then (some (.inr (wu64 (s0.1-1))))
 else (some (.inl (wu64 (s0.1-1),wu64 (s0.2+(shr_ .u64 (shl_ .u64 p2 (wu64 r0)) 32))))))
 else (some (.inr s0.1)))
 (fun j0=>if 4294967296<=s0.1 then (j0 true)
 else (j0 (decide ((wu64 ((wu64 (4294967296*s0.2))+(shr_ .u64 (shl_ .u64 p1 (wu64 r0)) 32)))<(wu64 (s0.1*(Ds .u64 (shl_ .u64 p2 (wu64 r0)) 4294967295)))))))
noncomputable def Nx(p2:Int)(r0:Int)(p1:Int):(Int × Int)->Option (Sum (Int × Int) Int):=fun s0=>
 jn (fun (s1:Bool)=>
 if s1=true then (if 4294967296<=(wu64 (s0.1+(shr_ .u64 (shl_ .u64 p2 (wu64 r0)) 32))) then (some (.inr (wu64 (s0.2-1))))
 else (some (.inl (wu64 (s0.1+(shr_ .u64 (shl_ .u64 p2 (wu64 r0)) 32)),wu64 (s0.2-1)))))
 else (some (.inr s0.2)))
 (fun j0=>if 4294967296<=s0.2 then (j0 true)
 else (j0 (decide ((wu64 ((wu64 (4294967296*s0.1))+(Ds .u64 (shl_ .u64 p1 (wu64 r0)) 4294967295)))<(wu64 (s0.2*(Ds .u64 (shl_ .u64 p2 (wu64 r0)) 4294967295)))))))
noncomputable def Qa(p0:Int)(p1:Int)(p2:Int):Option (Int × Int):=
 if p2=0 then none
 else (if p2<=p0 then none
 else (if p0=0 then (gd (p2≠0)<|
 gd (p2≠0)<|
 some (wu64 (Int.tdiv p1 p2),Int.tmod p1 p2))
 else (bnd (Fh p2) fun r0=>
 gd (0<=(wu64 r0))<|
 gd (0<=(wu64 r0))<|
 gd (0<=(wu64 (64-(wu64 r0))))<|
 gd (0<=(wu64 r0))<|
 gd ((shr_ .u64 (shl_ .u64 p2 (wu64 r0)) 32)≠0)<|
 jn (fun (s0:Int)=>
 gd ((shr_ .u64 (shl_ .u64 p2 (wu64 r0)) 32)≠0)<|
 jn (fun (s1:Int)=>
 gd (0<=(wu64 r0))<|
 some (wu64 ((wu64 (s0*4294967296))+s1),shr_ .u64 (wu64 ((wu64 ((wu64 ((wu64 ((wu64 ((wu64 ((Wq .u64 (shl_ .u64 p0 (wu64 r0)) (shr_ .u64 p1 (wu64 (64-(wu64 r0)))))*4294967296))+(shr_ .u64 (shl_ .u64 p1 (wu64 r0)) 32)))-(wu64 (s0*(shl_ .u64 p2 (wu64 r0))))))*4294967296))+(Ds .u64 (shl_ .u64 p1 (wu64 r0)) 4294967295)))-(wu64 (s1*(shl_ .u64 p2 (wu64 r0)))))) (wu64 r0)))
 (fun j0=>bnd (lfix (Nx p2 r0 p1) (wu64 ((wu64 ((wu64 ((wu64 ((Wq .u64 (shl_ .u64 p0 (wu64 r0)) (shr_ .u64 p1 (wu64 (64-(wu64 r0)))))*4294967296))+(shr_ .u64 (shl_ .u64 p1 (wu64 r0)) 32)))-(wu64 (s0*(shl_ .u64 p2 (wu64 r0))))))-(wu64 ((wu64 (Int.tdiv (wu64 ((wu64 ((wu64 ((Wq .u64 (shl_ .u64 p0 (wu64 r0)) (shr_ .u64 p1 (wu64 (64-(wu64 r0)))))*4294967296))+(shr_ .u64 (shl_ .u64 p1 (wu64 r0)) 32)))-(wu64 (s0*(shl_ .u64 p2 (wu64 r0)))))) (shr_ .u64 (shl_ .u64 p2 (wu64 r0)) 32)))*(shr_ .u64 (shl_ .u64 p2 (wu64 r0)) 32)))),wu64 (Int.tdiv (wu64 ((wu64 ((wu64 ((Wq .u64 (shl_ .u64 p0 (wu64 r0)) (shr_ .u64 p1 (wu64 (64-(wu64 r0)))))*4294967296))+(shr_ .u64 (shl_ .u64 p1 (wu64 r0)) 32)))-(wu64 (s0*(shl_ .u64 p2 (wu64 r0)))))) (shr_ .u64 (shl_ .u64 p2 (wu64 r0)) 32)))) fun t0=>
 j0 t0))
 (fun j1=>bnd (lfix (Nw p2 r0 p1) (wu64 (Int.tdiv (Wq .u64 (shl_ .u64 p0 (wu64 r0)) (shr_ .u64 p1 (wu64 (64-(wu64 r0))))) (shr_ .u64 (shl_ .u64 p2 (wu64 r0)) 32)),wu64 ((Wq .u64 (shl_ .u64 p0 (wu64 r0)) (shr_ .u64 p1 (wu64 (64-(wu64 r0)))))-(wu64 ((wu64 (Int.tdiv (Wq .u64 (shl_ .u64 p0 (wu64 r0)) (shr_ .u64 p1 (wu64 (64-(wu64 r0))))) (shr_ .u64 (shl_ .u64 p2 (wu64 r0)) 32)))*(shr_ .u64 (shl_ .u64 p2 (wu64 r0)) 32)))))) fun t1=>
 j1 t1))))
structure Gh where
 hi:Int
 lo:Int
theorem Ago{x y c:Int}(h:(((0:Int)<=x/\(0:Int)<=y)/\(0:Int)<=c/\c<=(1:Int)))(w:World):(callFunc 239 #[.int .u64 x,.int .u64 y,.int .u64 c]).run prog w = .ok (.value (.tuple #[.int .u64 ((x+y+c) % 18446744073709551616),.int .u64 ((x+y+c) / 18446744073709551616)])) w:=by
 rw[run_callFunc_extern func239 kr kr kr (e:=add64Entry) kr,run_add64 x y c h.1.1 h.1.2 h.2.1 h.2.2];rfl
instance{x y c:Int}:ExtI prog 239 [.int .u64 x,.int .u64 y,.int .u64 c] (((0:Int)<=x/\(0:Int)<=y)/\(0:Int)<=c/\c<=(1:Int)) (.tuple [.int .u64 ((x+y+c) % 18446744073709551616),.int .u64 ((x+y+c) / 18446744073709551616)].toArray):=⟨fun h w=>Ago h w⟩
noncomputable def Ey(p0:Gh)(p1:Int)(p2:Int):Option Gh :=
 bnd (Gy (wu64 p1) (wu64 p2)) fun r3=>
 gd ((((0:Int)<=p0.lo/\(0:Int)<=r3.2)/\(0:Int)<=0/\0<=(1:Int)))<|
 gd ((((0:Int)<=p0.hi/\(0:Int)<=r3.1)/\(0:Int)<=((p0.lo+r3.2+0) / 18446744073709551616)/\((p0.lo+r3.2+0) / 18446744073709551616)<=(1:Int)))<|
 some (⟨(p0.hi+r3.1+((p0.lo+r3.2+0) / 18446744073709551616)) % 18446744073709551616,(p0.lo+r3.2+0) % 18446744073709551616⟩:Gh)
noncomputable def Kb(p0:Ah)(p1:Ah):Option (Int × Int):=
 bnd (Ey (⟨0,0⟩:Gh) p0.a0 (w64 (p1.a0-(min (min p1.a0 p1.a1) p1.a2)))) fun r4=>
 bnd (Ey r4 p0.a1 (w64 (p1.a1-(min (min p1.a0 p1.a1) p1.a2)))) fun r7=>
 bnd (Ey r7 p0.a2 (w64 (p1.a2-(min (min p1.a0 p1.a1) p1.a2)))) fun r0=>
 bnd (Qa r0.hi r0.lo (wu64 (w64 ((w64 (p0.a0+p0.a1))+p0.a2)))) fun r1=>
 if 0<r1.2 then (some (w64 ((min (min p1.a0 p1.a1) p1.a2)+(w64 r1.1)),w64 ((w64 ((min (min p1.a0 p1.a1) p1.a2)+(w64 r1.1)))+1)))
 else (some (w64 ((min (min p1.a0 p1.a1) p1.a2)+(w64 r1.1)),w64 ((min (min p1.a0 p1.a1) p1.a2)+(w64 r1.1))))
noncomputable def Oi(p0:Aq)(p1:Int)(p2:Ac):Option Aw :=
 bnd (Jg p0 p1) fun r4=>
 jn (fun (s3:Int × Int × Int)=>
 bnd (idx p0.T p1) fun x0=>
 jn (fun (s9:Int × Int)=>
 jn (fun (s0:Int × Int)=>
 jn (fun (s1:Int × Int)=>
 bnd (Kb (⟨s3.1,s3.2.1,s3.2.2⟩:Ah) (⟨s9.1,s0.1,s1.1⟩:Ah)) fun r0=>
 bnd (Kb (⟨s3.1,s3.2.1,s3.2.2⟩:Ah) (⟨s9.2,s0.2,s1.2⟩:Ah)) fun r1=>
 some (⟨r0.1,r1.2⟩:Aw))
 (fun j0=>bnd (idx p0.V x0.a2) fun x1=>
 bnd (idx p0.V x0.a2) fun x2=>
 j0 (x1.Z.Lo,x2.Z.Hi)))
 (fun j1=>bnd (idx p0.V x0.a1) fun x3=>
 bnd (idx p0.V x0.a1) fun x4=>
 j1 (x3.Z.Lo,x4.Z.Hi)))
 (fun j9=>bnd (idx p0.V x0.a0) fun x5=>
 bnd (idx p0.V x0.a0) fun x6=>
 j9 (x5.Z.Lo,x6.Z.Hi)))
 (fun j3=>bnd (Fg (⟨r4.a1.X,r4.a1.Y⟩:Ac) (⟨r4.a2.X,r4.a2.Y⟩:Ac) p2) fun r8=>
 bnd (Fg (⟨r4.a2.X,r4.a2.Y⟩:Ac) (⟨r4.a0.X,r4.a0.Y⟩:Ac) p2) fun r2=>
 bnd (Fg (⟨r4.a0.X,r4.a0.Y⟩:Ac) (⟨r4.a1.X,r4.a1.Y⟩:Ac) p2) fun r3=>
 j3 (r8,r2,r3))
noncomputable def Zx(p0:Aw)(p1:Aw):Option Int :=
 some (max (max 0 (w64 (p0.Lo-p1.Hi))) (w64 (p1.Lo-p0.Hi)))
noncomputable def Afg(p0:Int)(p1:Int)(p2:Int):Option Bool :=
 bnd (Gy (wu64 ((wu64 p0)*(wu64 p0))) 1000000) fun r1=>
 bnd (Gy (wu64 ((wu64 p2)*(wu64 p2))) (wu64 p1)) fun r4=>
 jn (fun (s4:Bool)=>
 some s4)
 (fun j4=>if r1.1<r4.1 then (j4 true)
 else (if r1.1=r4.1 then (j4 (decide (r1.2<=r4.2)))
 else (j4 false)))
instance Aht(p0:Ac)(p1:Ac)(p2:Ac):Con (Fg p0 p1 p2) prog 133 (fun _ vs=>vs=[.agg #[iq p0.X,iq p0.Y],.agg #[iq p1.X,iq p1.Y],.agg #[iq p2.X,iq p2.Y]]) (fun _ r=>fun v Ln=>v = iq r/\Ln=[]/\True):=⟨by
 rintro _ _ r rfl hx w hK;unfold Fg at hx;refine CtS ntmps133 results133 ?_;exact au⟩
theorem Eh(p0:Ac)(p1:Ac)(p2:Ac){r:Int}(hx:Fg p0 p1 p2=some r)(w:World):CtL prog 133 [.agg #[iq p0.X,iq p0.Y],.agg #[iq p1.X,iq p1.Y],.agg #[iq p2.X,iq p2.Y]] w fun v Ln=>v = iq r/\Ln=[]/\True:=(Aht p0 p1 p2).h [] _ _ rfl hx w (fun _ h=>absurd h List.not_mem_nil)
instance(p0:Ad):Con (Qq p0) prog 79 (fun _ vs=>vs=[.agg #[iq p0.X,iq p0.Y,iq p0.Z.Lo,iq p0.Z.Hi]]) (fun _ r=>fun v Ln=>v = .agg #[iq r.X,iq r.Y]/\Ln=[]/\True):=⟨by
 rintro _ _ r rfl hx w hK;unfold Qq at hx;refine CtS ntmps79 results79 ?_;exact au⟩
instance Afh(p0:Aq)(p1:Int):Con (Jg p0 p1) prog 132 (fun K vs=>∃ E0 G0 E1 G1 E2 G2,vs=[.agg #[.slice E0 p0.V.length G0,.slice E1 p0.T.length G1,.slice E2 p0.Lines.length G2],iq p1]/\Has K E0 p0.V.length G0 4 Ak p0.V/\Has K E1 p0.T.length G1 3 Ax p0.T/\Has K E2 p0.Lines.length G2 2 Ar p0.Lines/\True) (fun _ r=>fun v Ln=>v = .agg #[iq r.a0.X,iq r.a0.Y,iq r.a1.X,iq r.a1.Y,iq r.a2.X,iq r.a2.Y]/\Ln=[]/\True):=⟨by
 rintro K _ r ⟨E0,G0,E1,G1,E2,G2,rfl,ha0,ha1,ha2,-⟩ hx w hK;replace ha0:=Has.lo ha0 hK;replace ha1:=Has.lo ha1 hK;replace ha2:=Has.lo ha2 hK;unfold Jg at hx;refine CtS ntmps132 results132 ?_;exact au⟩
theorem Aei(p0:Aq)(p1:Int){K:List Ent}{E0:Option Addr}{G0:Nat}{E1:Option Addr}{G1:Nat}{E2:Option Addr}{G2:Nat}(ha0:Has K E0 p0.V.length G0 4 Ak p0.V)(ha1:Has K E1 p0.T.length G1 3 Ax p0.T)(ha2:Has K E2 p0.Lines.length G2 2 Ar p0.Lines){r:Ze}(hx:Jg p0 p1=some r)(w:World)(hK:∀ e∈K,Ent.ok w e):CtL prog 132 [.agg #[.slice E0 p0.V.length G0,.slice E1 p0.T.length G1,.slice E2 p0.Lines.length G2],iq p1] w fun v Ln=>v = .agg #[iq r.a0.X,iq r.a0.Y,iq r.a1.X,iq r.a1.Y,iq r.a2.X,iq r.a2.Y]/\Ln=[]/\True:=(Afh p0 p1).h K _ _ ⟨_,_,_,_,_,_,rfl,ha0,ha1,ha2,trivial⟩ hx w hK
instance(p0:Aq)(p1:Ac):Con (Rs p0 p1) prog 74 (fun K vs=>∃ E0 G0 E1 G1 E2 G2,vs=[.agg #[.slice E0 p0.V.length G0,.slice E1 p0.T.length G1,.slice E2 p0.Lines.length G2],.agg #[iq p1.X,iq p1.Y]]/\Has K E0 p0.V.length G0 4 Ak p0.V/\Has K E1 p0.T.length G1 3 Ax p0.T/\Has K E2 p0.Lines.length G2 2 Ar p0.Lines/\True) (fun _ r=>fun v Ln=>v = iq r/\Ln=[]/\True):=⟨by
 rintro K _ r ⟨E0,G0,E1,G1,E2,G2,rfl,ha0,ha1,ha2,-⟩ hx w hK;replace ha0:=Has.lo ha0 hK;replace ha1:=Has.lo ha1 hK;replace ha2:=Has.lo ha2 hK;unfold Rs at hx;refine CtS ntmps74 results74 ?_;try (refine pre ?_;intros;rename_i hx)
 refine Bh ?_;try (refine pre ?_;intros;rename_i hx)
 apply Jr (γ:=Unit) hx [] (fun s2 y2 f=>f) [999] (fun s2 y2 l=>l);exact kk
 ·intro s2 y2 hx;exact au
 ·intro _ hx;try (refine pre ?_;intros;rename_i hx)
  apply Lr (γ:=Unit) hx [2,3,9] (fun s0 y0 f=>(10,iq s0)::f) [0,1,999] (fun s0 y0 l=>l) ();exact kk;exact sk;intro s0 y0 x0 hx _;unfold Na at hx;try (refine pre ?_;intros;rename_i hx)
  refine Cq1 (s:=11) hx rfl (fun _ hx=>?_) (fun _ hx=>?_)
  ·try (refine pre ?_;intros;rename_i hx)
   apply Jr (γ:=Unit) hx [2,3,5,9,10] (fun s1 y1 f=>(40,.bool s1)::f) [1,2,999] (fun s1 y1 l=>l);exact kk
   ·intro s1 y1 hx;exact au
   ·intro _ hx;exact au
  ·exact au⟩
instance Afi(p0:Int)(p1:Int):Con (Gy p0 p1) prog 135 (fun _ vs=>vs=[.int .u64 p0,.int .u64 p1]) (fun _ r=>fun v Ln=>v = .tuple #[.int .u64 r.1,.int .u64 r.2]/\Ln=[]/\True):=⟨by
 rintro _ _ r rfl hx w hK;unfold Gy at hx;refine CtS ntmps135 results135 ?_;exact au⟩
theorem Aej(p0:Int)(p1:Int){r:Int × Int}(hx:Gy p0 p1=some r)(w:World):CtL prog 135 [.int .u64 p0,.int .u64 p1] w fun v Ln=>v = .tuple #[.int .u64 r.1,.int .u64 r.2]/\Ln=[]/\True:=(Afi p0 p1).h [] _ _ rfl hx w (fun _ h=>absurd h List.not_mem_nil)
theorem Aek(p0:Int){r:Int}(hx:Mf p0=some r)(w:World):CtL prog 167 [.int .u64 p0] w fun v Ln=>v = iq r/\Ln=[]/\True:=by
 refine CtL.mk 25 func167 rfl ntmps167 kr rfl ?_;show T 25 _ [(0,.int .u64 p0)] _;unfold Mf at hx;refine Y5 ?_;refine Tj (γ:=Unit) hx (fun s2 y2=>[(0,.int .u64 s2.1),(2,iq s2.2)]) (fun s2 y2=>[]++[.old w]) (fun s2 y2=>True) (fun s2 y2 hx4 hG5=>?_) (fun j2 hx=>?_)
 ·refine Tj (γ:=Unit) hx4 (fun s5 y5=>[(0,.int .u64 s5.1),(2,iq s5.2)]) (fun s5 y5=>[]++[.old w]) (fun s5 y5=>True) (fun s5 y5 hx9 hG0=>?_) (fun j5 hx4=>?_)
  ·refine Tj (γ:=Unit) hx9 (fun s8 y8=>[(0,.int .u64 s8.1),(2,iq s8.2)]) (fun s8 y8=>[]++[.old w]) (fun s8 y8=>True) (fun s8 y8 hx0 hG1=>?_) (fun j8 hx9=>?_)
   ·refine Y4 ?_;refine At (Aov rfl kr underlying5) rfl ?_;obtain⟨x0,h0,hx1⟩:=Ao hx0;refine At (Apv (ys:=Np) rfl rfl underlying9 kr h0) rfl ?_;refine At (Ag9 rfl kr underlying3) rfl ?_;refine Y5 ?_;obtain rfl:=Option.some.inj hx1;exact Df (rs:=[.tmp 2]) results167 (.tmp rfl (.nil)) (Ln:=[]) ⟨rfl,rfl,trivial⟩ Cr (by exact .refl)
   ·refine Y6 ?_;refine Ti hx9 (s:=14) rfl (fun h2 hx5=>?_) (fun h2 hx6=>?_)
    ·refine Y4 ?_;refine At (Aib rfl rfl dD) rfl ?_;refine Y8 ?_;exact Mt (shr_ .u64 s5.1 8,w64 (s5.2+8)) () hx5 trivial (by exact .refl)
    ·refine Y2 ?_;exact Mt (s5.1,s5.2) () hx6 trivial (by exact .refl)
  ·refine Y6 ?_;refine Ti hx4 (s:=8) rfl (fun h6 hx7=>?_) (fun h6 hx8=>?_)
   ·refine Y4 ?_;refine At (Aib rfl rfl dD) rfl ?_;refine Y8 ?_;exact Mt (shr_ .u64 s2.1 16,w64 (s2.2+16)) () hx7 trivial (by exact .refl)
   ·refine Y2 ?_;exact Mt (s2.1,s2.2) () hx8 trivial (by exact .refl)
 ·refine Y6 ?_;refine Ti hx (s:=4) rfl (fun h1 hx2=>?_) (fun h1 hx3=>?_)
  ·refine Y4 ?_;refine At (Aib rfl rfl dD) rfl ?_;refine Y6 ?_;exact Mt (shr_ .u64 p0 32,32) () hx2 trivial (by exact .refl)
  ·refine Y2 ?_;exact Mt (p0,0) () hx3 trivial (by exact .refl)
instance(p0:Int):Con (Mf p0) prog 167 (fun _ vs=>vs=[.int .u64 p0]) (fun _ r=>fun v Ln=>v = iq r/\Ln=[]/\True):=⟨by
 rintro _ _ r rfl hx w hK;exact Aek p0 hx w⟩
instance(p0:Int):Con (Fh p0) prog 240 (fun _ vs=>vs=[.int .u64 p0]) (fun _ r=>fun v Ln=>v = iq r/\Ln=[]/\True):=⟨by
 rintro _ _ r rfl hx w hK;unfold Fh at hx;refine CtS ntmps240 results240 ?_;exact au⟩
instance(p0:Int)(p1:Int)(p2:Int):Con (Qa p0 p1 p2) prog 192 (fun _ vs=>vs=[.int .u64 p0,.int .u64 p1,.int .u64 p2]) (fun _ r=>fun v Ln=>v = .tuple #[.int .u64 r.1,.int .u64 r.2]/\Ln=[]/\True):=⟨by
 rintro _ _ r rfl hx w hK;unfold Qa at hx;have:=dl 6 [0,0,0,0,0,0,2,2] [0,1,2,3,4,5,6,7];refine CtS ntmps192 results192 ?_;try (refine pre ?_;intros;rename_i hx)
 refine Cq1 (s:=20) hx rfl (fun _ hx=>?_) (fun _ hx=>?_)
 ·exact au
 ·try (refine pre ?_;intros;rename_i hx)
  refine Cq1 (s:=24) hx rfl (fun _ hx=>?_) (fun _ hx=>?_)
  ·exact au
  ·try (refine pre ?_;intros;rename_i hx)
   refine Cq1 (s:=27) hx rfl (fun _ hx=>?_) (fun _ hx=>?_)
   ·exact au
   ·try (refine pre ?_;intros;rename_i hx)
    refine Bh ?_;try (refine pre ?_;intros;rename_i hx)
    apply Jr (γ:=Unit) hx [2,8,9,10,11,13,14] (fun s0 y0 f=>(15,.int .u64 s0)::f) [999] (fun s0 y0 l=>l);exact kk
    ·intro s0 y0 hx;try (refine pre ?_;intros;rename_i hx)
     refine Bh ?_;try (refine pre ?_;intros;rename_i hx)
     refine Bh ?_;try (refine pre ?_;intros;rename_i hx)
     refine Bh ?_;try (refine pre ?_;intros;rename_i hx)
     apply Jr (γ:=Unit) hx [2,8,14,15,17] (fun s1 y1 f=>(18,.int .u64 s1)::f) [999] (fun s1 y1 l=>l);exact kk
     ·intro s1 y1 hx;exact au
     ·intro _ hx;try (refine pre ?_;intros;rename_i hx)
      apply Lr (γ:=Unit) hx [2,8,9,10,14,15,17] (fun s2 y2 f=>(16,.int .u64 s2.1)::(18,.int .u64 s2.2)::f) [999] (fun s2 y2 l=>l) ();exact kk;exact sk;intro s2 y2 x0 hx _;unfold Nx at hx;exact au
    ·intro _ hx;try (refine pre ?_;intros;rename_i hx)
     apply Lr (γ:=Unit) hx [2,8,9,10,11,13,14] (fun s3 y3 f=>(15,.int .u64 s3.1)::(16,.int .u64 s3.2)::f) [999] (fun s3 y3 l=>l) ();exact kk;exact sk;intro s3 y3 x1 hx _;unfold Nw at hx;exact au⟩
theorem Ace(p0:Gh)(p1:Int)(p2:Int){r:Gh}(hx:Ey p0 p1 p2=some r)(w:World):CtL prog 191 [.agg #[.int .u64 p0.hi,.int .u64 p0.lo],iq p1,iq p2] w fun v Ln=>v = .agg #[.int .u64 r.hi,.int .u64 r.lo]/\Ln=[]/\True:=by
 refine CtL.mk 39 func191 rfl ntmps191 kr rfl ?_;show T 39 _ [(0,.agg #[.int .u64 p0.hi,.int .u64 p0.lo]),(1,iq p1),(2,iq p2)] _;unfold Ey at hx;refine Y2 ?_;refine T_x (Pf rfl rfl rfl (fun g1=>?_));refine T_x (Bt Axs rfl (fun g2=>?_));refine Y5 ?_;refine At (Aa7 rfl kr underlying167) rfl ?_;refine Y ?_;refine At (Aa7 rfl kr underlying167) rfl ?_;obtain⟨r3,h4,hx5⟩:=Ao hx;refine Tc (fun w1 hw1=>Aej (wu64 p1) (wu64 p2)  h4 w1) ?_;refine Y9 ?_;refine At (Bf rfl Ao0 rfl) rfl ?_;refine At (Bd rfl (i:=1) rfl rfl Aqu) rfl ?_;refine Y ?_;obtain⟨h6,hx7⟩:=Bv hx5;refine At (Ay9 rfl (fun w=>Ago h6 w)) rfl ?_;refine Y9 ?_;refine At (Bf rfl Ao1 rfl) rfl ?_;refine At (Bd rfl (i:=1) rfl rfl Aqu) rfl ?_;refine Y2 ?_;obtain⟨h8,hx9⟩:=Bv hx7;refine At (Ay9 rfl (fun w=>Ago h8 w)) rfl ?_;refine Y11 ?_;refine At (En rfl (Ahs _ _)) rfl ?_;refine T_h (Ay rfl rfl rfl (.here) (.put (.put (.done))) rfl (List.cons_ne_nil _ _) Aqv.2 ?_);refine Y3 ?_;obtain rfl:=Option.some.inj hx9;exact Df (rs:=[.cell 6 219]) results191 (.cell rfl (i:=0) rfl rfl Aqv (.nil)) (Ln:=[]) ⟨rfl,rfl,trivial⟩ Cr (by exact .drop 0 rfl (.drop 0 rfl (.refl)))
instance(p0:Gh)(p1:Int)(p2:Int):Con (Ey p0 p1 p2) prog 191 (fun _ vs=>vs=[.agg #[.int .u64 p0.hi,.int .u64 p0.lo],iq p1,iq p2]) (fun _ r=>fun v Ln=>v = .agg #[.int .u64 r.hi,.int .u64 r.lo]/\Ln=[]/\True):=⟨by
 rintro _ _ r rfl hx w hK;exact Ace p0 p1 p2 hx w⟩
instance Ahu(p0:Ah)(p1:Ah):Con (Kb p0 p1) prog 134 (fun _ vs=>vs=[.agg #[iq p0.a0,iq p0.a1,iq p0.a2],.agg #[iq p1.a0,iq p1.a1,iq p1.a2]]) (fun _ r=>fun v Ln=>v = .tuple #[iq r.1,iq r.2]/\Ln=[]/\True):=⟨by
 rintro _ _ r rfl hx w hK;unfold Kb at hx;have:=dl 6 [1,0,0,1,0,0,1,0,0,2,3] [0,1,2,3,4,5,6,7,8,9,10];refine CtS ntmps134 results134 ?_;try (refine pre ?_;intros;rename_i hx)
 refine Cq1 (s:=57) hx rfl (fun _ hx=>?_) (fun _ hx=>?_)
 ·exact au
 ·exact au⟩
theorem Zy(p0:Ah)(p1:Ah){r:Int × Int}(hx:Kb p0 p1=some r)(w:World):CtL prog 134 [.agg #[iq p0.a0,iq p0.a1,iq p0.a2],.agg #[iq p1.a0,iq p1.a1,iq p1.a2]] w fun v Ln=>v = .tuple #[iq r.1,iq r.2]/\Ln=[]/\True:=(Ahu p0 p1).h [] _ _ rfl hx w (fun _ h=>absurd h List.not_mem_nil)
theorem Afj(p0:Aq)(p1:Int)(p2:Ac){K:List Ent}{E0:Option Addr}{G0:Nat}{E1:Option Addr}{G1:Nat}{E2:Option Addr}{G2:Nat}(ha0:Has K E0 p0.V.length G0 4 Ak p0.V)(ha1:Has K E1 p0.T.length G1 3 Ax p0.T)(ha2:Has K E2 p0.Lines.length G2 2 Ar p0.Lines){r:Aw}(hx:Oi p0 p1 p2=some r)(w:World)(hK:∀ e∈K,Ent.ok w e):CtL prog 76 [.agg #[.slice E0 p0.V.length G0,.slice E1 p0.T.length G1,.slice E2 p0.Lines.length G2],iq p1,.agg #[iq p2.X,iq p2.Y]] w fun v Ln=>v = .agg #[iq r.Lo,iq r.Hi]/\Ln=[]/\True:=by
 have ha0':=Has.up0 ha0;have ha1':=Has.up0 ha1;have ha2':=Has.up0 ha2;refine CtL.mk 82 func76 rfl ntmps76 kr rfl ?_;show T 82 _ [(0,.agg #[.slice E0 p0.V.length G0,.slice E1 p0.T.length G1,.slice E2 p0.Lines.length G2]),(1,iq p1),(2,.agg #[iq p2.X,iq p2.Y])] _;unfold Oi at hx;refine Y2 ?_;refine T_x (Pf rfl rfl rfl (fun g1=>?_));refine T_x (Pf rfl rfl rfl (fun g2=>?_));refine T_x (Bt Ao2 rfl (fun g3=>?_));refine Y4 ?_;refine At (Bo rfl (i:=2) rfl rfl Atc) rfl ?_;refine Y ?_;obtain⟨r4,h5,hx6⟩:=Ao hx;refine Tc (fun w1 hw1=>Aei p0 p1 (Has.len' ha0') (Has.len' ha1') (Has.len' ha2') h5 w1 (Ss (K:=K) (K2:=[]) hK (by exact (sb 3)) (by exact SubE.nil) hw1)) ?_;refine T_x (Bt Axq rfl (fun g7=>?_));refine T_h (Ay rfl rfl rfl (.here) (.put (.put (.put (.put (.put (.put (.done))))))) rfl (List.cons_ne_nil _ _) Axr.2 ?_);refine Y2 ?_;refine Tj (γ:=Nat) hx6 (fun s3 y3=>[(1,iq p1),(3,.pointer (some ⟨g1,0,none⟩)),(6,.pointer (some ⟨g3,0,none⟩)),(8,.pointer (some ⟨y3,0,none⟩))]) (fun s3 y3=>[.m y3 101 [iq s3.1,iq s3.2.1,iq s3.2.2],.m g3 28 [iq 0,iq 0],.m g1 26 [.slice E0 p0.V.length G0,.slice E1 p0.T.length G1,.slice E2 p0.Lines.length G2]]++[.old w]) (fun s3 y3=>True) (fun s3 y3 hx0 hG0=>?_) (fun j3 hx6=>?_)
 ·refine Y2 ?_;refine T_x (Bt Aer rfl (fun g0=>?_));refine T_x (Bt Aer rfl (fun g4=>?_));refine Y5 ?_;refine At (Bf rfl As5 rfl) rfl ?_;refine At (Bd rfl (i:=4) rfl rfl Bce) rfl ?_;refine Y ?_;obtain⟨x0,h0,hx1⟩:=Ao hx0;have hw0:=Has.low (E:=[]) ha1' hK;obtain⟨b0,o0,j0,hA0,hj0,hl0,hp0⟩:=Has.at_idx hw0 h0;refine At (Bl rfl rfl hA0 (j:=j0) hj0 hl0 As6) rfl ?_;refine At (Db rfl hp0 (sb 5) rfl Zh) rfl ?_;refine Y4 ?_;refine Bck 9 ?_;refine Akl ?_;refine Y9 ?_;refine Tj (γ:=Unit) hx1 (fun s9 y9=>[(3,.pointer (some ⟨g1,0,none⟩)),(6,.pointer (some ⟨g3,0,none⟩)),(8,.pointer (some ⟨y3,0,none⟩)),(9,.pointer (some ⟨g0,0,none⟩)),(10,.pointer (some ⟨g4,0,none⟩)),(43,.agg #[iq x0.a0,iq x0.a1,iq x0.a2]),(44,iq 0)]) (fun s9 y9=>[.m g4 101 [iq s9.2,iq 0,iq 0],.m g0 101 [iq s9.1,iq 0,iq 0],.m y3 101 [iq s3.1,iq s3.2.1,iq s3.2.2],.m g3 28 [iq 0,iq 0],.m g1 26 [.slice E0 p0.V.length G0,.slice E1 p0.T.length G1,.slice E2 p0.Lines.length G2]]++[.old w]) (fun s9 y9=>True) (fun s9 y9 hx2 hG1=>?_) (fun j9 hx1=>?_)
  ·refine Y ?_;refine At (Aih (c:=1) rfl rfl dD) rfl ?_;refine Y2 ?_;refine Ah8 ?_;refine Akl ?_;refine Y9 ?_;refine Tj (γ:=Unit) hx2 (fun s0 y0=>[(3,.pointer (some ⟨g1,0,none⟩)),(6,.pointer (some ⟨g3,0,none⟩)),(8,.pointer (some ⟨y3,0,none⟩)),(9,.pointer (some ⟨g0,0,none⟩)),(10,.pointer (some ⟨g4,0,none⟩)),(43,.agg #[iq x0.a0,iq x0.a1,iq x0.a2]),(44,iq 1)]) (fun s0 y0=>[.m g4 101 [iq s9.2,iq s0.2,iq 0],.m g0 101 [iq s9.1,iq s0.1,iq 0],.m y3 101 [iq s3.1,iq s3.2.1,iq s3.2.2],.m g3 28 [iq 0,iq 0],.m g1 26 [.slice E0 p0.V.length G0,.slice E1 p0.T.length G1,.slice E2 p0.Lines.length G2]]++[.old w]) (fun s0 y0=>True) (fun s0 y0 hx3 hG2=>?_) (fun j1 hx2=>?_)
   ·refine Y ?_;refine At (Aih (c:=2) rfl rfl dD) rfl ?_;refine Y2 ?_;refine Ah8 ?_;refine Akl ?_;refine Y9 ?_;refine Tj (γ:=Unit) hx3 (fun s1 y1=>[(3,.pointer (some ⟨g1,0,none⟩)),(6,.pointer (some ⟨g3,0,none⟩)),(8,.pointer (some ⟨y3,0,none⟩)),(9,.pointer (some ⟨g0,0,none⟩)),(10,.pointer (some ⟨g4,0,none⟩)),(43,.agg #[iq x0.a0,iq x0.a1,iq x0.a2]),(44,iq 2)]) (fun s1 y1=>[.m g4 101 [iq s9.2,iq s0.2,iq s1.2],.m g0 101 [iq s9.1,iq s0.1,iq s1.1],.m y3 101 [iq s3.1,iq s3.2.1,iq s3.2.2],.m g3 28 [iq 0,iq 0],.m g1 26 [.slice E0 p0.V.length G0,.slice E1 p0.T.length G1,.slice E2 p0.Lines.length G2]]++[.old w]) (fun s1 y1=>True) (fun s1 y1 hx4 hG3=>?_) (fun j2 hx3=>?_)
    ·refine Y ?_;refine At (Aih (c:=3) rfl rfl dD) rfl ?_;refine Y2 ?_;refine Ah8 ?_;refine Akl ?_;(iterate 14 refine Y ?_);refine At (Bo rfl (i:=2) rfl rfl Zh) rfl ?_;refine At (Bo rfl (i:=1) rfl rfl Zh) rfl ?_;obtain⟨r0,h1,hx5⟩:=Ao hx4;refine Tc (fun w1 hw1=>Zy (⟨s3.1,s3.2.1,s3.2.2⟩:Ah) (⟨s9.1,s0.1,s1.1⟩:Ah)  h1 w1) ?_;refine Y9 ?_;refine At (Bo rfl (i:=2) rfl rfl Zh) rfl ?_;refine At (Bo rfl (i:=0) rfl rfl Zh) rfl ?_;obtain⟨r1,h2,hx7⟩:=Ao hx5;refine Tc (fun w1 hw1=>Zy (⟨s3.1,s3.2.1,s3.2.2⟩:Ah) (⟨s9.2,s0.2,s1.2⟩:Ah)  h2 w1) ?_;refine Y11 ?_;refine At (En rfl (Yb _ _)) rfl ?_;refine T_h (Ay rfl rfl rfl (.there (.there (.there (.here)))) (.put (.put (.done))) rfl (List.cons_ne_nil _ _) Abk.2 ?_);refine Y3 ?_;obtain rfl:=Option.some.inj hx7;exact Df (rs:=[.cell 6 28]) results76 (.cell rfl (i:=3) rfl rfl Abk (.nil)) (Ln:=[]) ⟨rfl,rfl,trivial⟩ Cr (by exact .drop 0 rfl (.drop 0 rfl (.drop 0 rfl (.drop 0 rfl (.drop 0 rfl (.refl))))))
    ·refine Y4 ?_;refine At (Ac6 (kd:=.i64) rfl rfl rfl (Ajq _ _ _) (show idx [x0.a0,x0.a1,x0.a2] 2=some x0.a2 from rfl)) rfl ?_;refine Y4 ?_;obtain⟨x1,h3,hx8⟩:=Ao hx3;obtain⟨x2,h4,hx9⟩:=Ao hx8;refine T_dr [0,0,0,1,0,0,0,0,1,0,2,0,0,0,0,2,0,3,0,3] (.q 0 (.q 1 (.q 2 (.q 3 (.q 4 (.q 5 (.q 6 (.q 7 (.q 8 (.q 9 (.q 11 (.q 16 (.e 10 (.q 12 (.q 13 (.q 14 (.e 15 (.e 17 (.q 18 (.e 19 (.done) (.stop))) (.stop)) (.e 17 (.e 15 (.q 18 (.e 19 (.done) (.stop))) (.stop)) (.stop)))))) (.e 17 (.e 10 (.q 12 (.q 13 (.q 14 (.e 15 (.q 18 (.e 19 (.done) (.stop))) (.stop))))) (.stop)) (.stop))))))))))))))) mixed kr kr ?_;refine Y2 ?_;refine P_p rfl rfl (Bf rfl Aa9 rfl) rfl ?_;refine P_q rfl rfl (Bd rfl (i:=4) rfl rfl Yd) rfl ?_;refine Y ?_;have hw2:=Has.low (E:=[]) ha0' hK;obtain⟨b1,o1,j4,hA1,hj1,hl1,hp1⟩:=Has.at_idx hw2 h3;refine P_p rfl rfl (Bl rfl rfl hA1 (j:=j4) hj1 hl1 Wy) rfl ?_;refine P_p rfl rfl (Bf rfl Tk rfl) rfl ?_;refine P_p rfl rfl (Bf rfl Afy rfl) rfl ?_;refine P_q rfl rfl (Ef (d:=2) rfl hp1 (sb 5) rfl one3) rfl ?_;refine P_p rfl rfl (Bf rfl Aa9 rfl) rfl ?_;refine Y ?_;refine P_p rfl rfl (Bn rfl rfl Tx dD dD rfl) rfl ?_;refine P_x rfl (Dx (Bd rfl (i:=4) rfl rfl Yd) rfl ?_) ?_
     ·skip;have hw3:=Has.low (E:=[]) ha0' hK;obtain⟨b2,o2,j5,hA2,hj2,hl2,hp2⟩:=Has.at_idx hw3 h4;refine P_p rfl rfl (Bl rfl rfl hA2 (j:=j5) hj2 hl2 Wy) rfl ?_;refine P_p rfl rfl (Bf rfl Tk rfl) rfl ?_;refine P_p rfl rfl (Bf rfl Abc rfl) rfl ?_;refine P_x rfl (Dx (Ef (d:=3) rfl hp2 (sb 5) rfl one3) rfl ?_) ?_
      ·skip;refine P_h rfl rfl (Ay rfl rfl rfl (.there (.here)) (.skip (.skip (.put (.done)))) rfl (List.cons_ne_nil _ _) one3.2 ?_) ?_;rotate_left;exact Bg;refine P_p rfl rfl (Bn rfl rfl Tx dD dD rfl) rfl ?_;refine P_h rfl rfl (Ay rfl rfl rfl (.here) (.skip (.skip (.put (.done)))) rfl (List.cons_ne_nil _ _) one3.2 ?_) ?_;rotate_left;exact Bg;refine Y2 ?_;exact Mt (x1.Z.Lo,x2.Z.Hi) () hx9 trivial (by exact .pick 0 rfl (.pick 0 rfl (.pick 0 rfl (.pick 0 rfl (.pick 0 rfl (.refl))))))
      ·skip;refine P_h rfl rfl (Ay rfl rfl rfl (.there (.here)) (.skip (.skip (.put (.done)))) rfl (List.cons_ne_nil _ _) one3.2 ?_) ?_;rotate_left;exact Bg;refine P_x rfl (Dx (Ef (d:=3) rfl hp2 (sb 5) rfl one3) rfl ?_) ?_;rotate_left;exact Bg;refine P_p rfl rfl (Bn rfl rfl Tx dD dD rfl) rfl ?_;refine P_h rfl rfl (Ay rfl rfl rfl (.here) (.skip (.skip (.put (.done)))) rfl (List.cons_ne_nil _ _) one3.2 ?_) ?_;rotate_left;exact Bg;refine Y2 ?_;exact Mt (x1.Z.Lo,x2.Z.Hi) () hx9 trivial (by exact .pick 0 rfl (.pick 0 rfl (.pick 0 rfl (.pick 0 rfl (.pick 0 rfl (.refl))))))
     ·skip;refine P_h rfl rfl (Ay rfl rfl rfl (.there (.here)) (.skip (.skip (.put (.done)))) rfl (List.cons_ne_nil _ _) one3.2 ?_) ?_;rotate_left;exact Bg;refine P_x rfl (Dx (Bd rfl (i:=4) rfl rfl Yd) rfl ?_) ?_;rotate_left;exact Bg;have hw4:=Has.low (E:=[]) ha0' hK;obtain⟨b3,o3,j6,hA3,hj3,hl3,hp3⟩:=Has.at_idx hw4 h4;refine P_p rfl rfl (Bl rfl rfl hA3 (j:=j6) hj3 hl3 Wy) rfl ?_;refine P_p rfl rfl (Bf rfl Tk rfl) rfl ?_;refine P_p rfl rfl (Bf rfl Abc rfl) rfl ?_;refine P_x rfl (Dx (Ef (d:=3) rfl hp3 (sb 5) rfl one3) rfl ?_) ?_;rotate_left;exact Bg;refine P_p rfl rfl (Bn rfl rfl Tx dD dD rfl) rfl ?_;refine P_h rfl rfl (Ay rfl rfl rfl (.here) (.skip (.skip (.put (.done)))) rfl (List.cons_ne_nil _ _) one3.2 ?_) ?_;rotate_left;exact Bg;refine Y2 ?_;exact Mt (x1.Z.Lo,x2.Z.Hi) () hx9 trivial (by exact .pick 0 rfl (.pick 0 rfl (.pick 0 rfl (.pick 0 rfl (.pick 0 rfl (.refl))))))
   ·refine Y4 ?_;refine At (Ac6 (kd:=.i64) rfl rfl rfl (Ajq _ _ _) (show idx [x0.a0,x0.a1,x0.a2] 1=some x0.a1 from rfl)) rfl ?_;refine Y4 ?_;obtain⟨x3,h6,hx10⟩:=Ao hx2;obtain⟨x4,h7,hx11⟩:=Ao hx10;refine T_dr [0,0,0,1,0,0,0,0,1,0,2,0,0,0,0,2,0,3,0,3] (.q 0 (.q 1 (.q 2 (.q 3 (.q 4 (.q 5 (.q 6 (.q 7 (.q 8 (.q 9 (.q 11 (.q 16 (.e 10 (.q 12 (.q 13 (.q 14 (.e 15 (.e 17 (.q 18 (.e 19 (.done) (.stop))) (.stop)) (.e 17 (.e 15 (.q 18 (.e 19 (.done) (.stop))) (.stop)) (.stop)))))) (.e 17 (.e 10 (.q 12 (.q 13 (.q 14 (.e 15 (.q 18 (.e 19 (.done) (.stop))) (.stop))))) (.stop)) (.stop))))))))))))))) mixed kr kr ?_;refine Y2 ?_;refine P_p rfl rfl (Bf rfl Aa9 rfl) rfl ?_;refine P_q rfl rfl (Bd rfl (i:=4) rfl rfl Yd) rfl ?_;refine Y ?_;have hw5:=Has.low (E:=[]) ha0' hK;obtain⟨b4,o4,j7,hA4,hj4,hl4,hp4⟩:=Has.at_idx hw5 h6;refine P_p rfl rfl (Bl rfl rfl hA4 (j:=j7) hj4 hl4 Wy) rfl ?_;refine P_p rfl rfl (Bf rfl Tk rfl) rfl ?_;refine P_p rfl rfl (Bf rfl Afy rfl) rfl ?_;refine P_q rfl rfl (Ef (d:=2) rfl hp4 (sb 5) rfl one3) rfl ?_;refine P_p rfl rfl (Bf rfl Aa9 rfl) rfl ?_;refine Y ?_;refine P_p rfl rfl (Bn rfl rfl Tx dD dD rfl) rfl ?_;refine P_x rfl (Dx (Bd rfl (i:=4) rfl rfl Yd) rfl ?_) ?_
    ·skip;have hw6:=Has.low (E:=[]) ha0' hK;obtain⟨b5,o5,j8,hA5,hj5,hl5,hp5⟩:=Has.at_idx hw6 h7;refine P_p rfl rfl (Bl rfl rfl hA5 (j:=j8) hj5 hl5 Wy) rfl ?_;refine P_p rfl rfl (Bf rfl Tk rfl) rfl ?_;refine P_p rfl rfl (Bf rfl Abc rfl) rfl ?_;refine P_x rfl (Dx (Ef (d:=3) rfl hp5 (sb 5) rfl one3) rfl ?_) ?_
     ·skip;refine P_h rfl rfl (Ay rfl rfl rfl (.there (.here)) (.skip (.put (.done))) rfl (List.cons_ne_nil _ _) one3.2 ?_) ?_;rotate_left;exact Bg;refine P_p rfl rfl (Bn rfl rfl Tx dD dD rfl) rfl ?_;refine P_h rfl rfl (Ay rfl rfl rfl (.here) (.skip (.put (.done))) rfl (List.cons_ne_nil _ _) one3.2 ?_) ?_;rotate_left;exact Bg;refine Y2 ?_;exact Mt (x3.Z.Lo,x4.Z.Hi) () hx11 trivial (by exact .pick 0 rfl (.pick 0 rfl (.pick 0 rfl (.pick 0 rfl (.pick 0 rfl (.refl))))))
     ·skip;refine P_h rfl rfl (Ay rfl rfl rfl (.there (.here)) (.skip (.put (.done))) rfl (List.cons_ne_nil _ _) one3.2 ?_) ?_;rotate_left;exact Bg;refine P_x rfl (Dx (Ef (d:=3) rfl hp5 (sb 5) rfl one3) rfl ?_) ?_;rotate_left;exact Bg;refine P_p rfl rfl (Bn rfl rfl Tx dD dD rfl) rfl ?_;refine P_h rfl rfl (Ay rfl rfl rfl (.here) (.skip (.put (.done))) rfl (List.cons_ne_nil _ _) one3.2 ?_) ?_;rotate_left;exact Bg;refine Y2 ?_;exact Mt (x3.Z.Lo,x4.Z.Hi) () hx11 trivial (by exact .pick 0 rfl (.pick 0 rfl (.pick 0 rfl (.pick 0 rfl (.pick 0 rfl (.refl))))))
    ·skip;refine P_h rfl rfl (Ay rfl rfl rfl (.there (.here)) (.skip (.put (.done))) rfl (List.cons_ne_nil _ _) one3.2 ?_) ?_;rotate_left;exact Bg;refine P_x rfl (Dx (Bd rfl (i:=4) rfl rfl Yd) rfl ?_) ?_;rotate_left;exact Bg;have hw7:=Has.low (E:=[]) ha0' hK;obtain⟨b6,o6,j10,hA6,hj6,hl6,hp6⟩:=Has.at_idx hw7 h7;refine P_p rfl rfl (Bl rfl rfl hA6 (j:=j10) hj6 hl6 Wy) rfl ?_;refine P_p rfl rfl (Bf rfl Tk rfl) rfl ?_;refine P_p rfl rfl (Bf rfl Abc rfl) rfl ?_;refine P_x rfl (Dx (Ef (d:=3) rfl hp6 (sb 5) rfl one3) rfl ?_) ?_;rotate_left;exact Bg;refine P_p rfl rfl (Bn rfl rfl Tx dD dD rfl) rfl ?_;refine P_h rfl rfl (Ay rfl rfl rfl (.here) (.skip (.put (.done))) rfl (List.cons_ne_nil _ _) one3.2 ?_) ?_;rotate_left;exact Bg;refine Y2 ?_;exact Mt (x3.Z.Lo,x4.Z.Hi) () hx11 trivial (by exact .pick 0 rfl (.pick 0 rfl (.pick 0 rfl (.pick 0 rfl (.pick 0 rfl (.refl))))))
  ·refine Y4 ?_;refine At (Ac6 (kd:=.i64) rfl rfl rfl (Ajq _ _ _) (show idx [x0.a0,x0.a1,x0.a2] 0=some x0.a0 from rfl)) rfl ?_;refine Y4 ?_;obtain⟨x5,h8,hx62⟩:=Ao hx1;obtain⟨x6,h52,hx63⟩:=Ao hx62;refine T_dr [0,0,0,1,0,0,0,0,1,0,2,0,0,0,0,2,0,3,0,3] (.q 0 (.q 1 (.q 2 (.q 3 (.q 4 (.q 5 (.q 6 (.q 7 (.q 8 (.q 9 (.q 11 (.q 16 (.e 10 (.q 12 (.q 13 (.q 14 (.e 15 (.e 17 (.q 18 (.e 19 (.done) (.stop))) (.stop)) (.e 17 (.e 15 (.q 18 (.e 19 (.done) (.stop))) (.stop)) (.stop)))))) (.e 17 (.e 10 (.q 12 (.q 13 (.q 14 (.e 15 (.q 18 (.e 19 (.done) (.stop))) (.stop))))) (.stop)) (.stop))))))))))))))) mixed kr kr ?_;refine Y2 ?_;refine P_p rfl rfl (Bf rfl Aa9 rfl) rfl ?_;refine P_q rfl rfl (Bd rfl (i:=4) rfl rfl Yd) rfl ?_;refine Y ?_;have hw8:=Has.low (E:=[]) ha0' hK;obtain⟨b7,o7,j66,hA7,hj7,hl7,hp7⟩:=Has.at_idx hw8 h8;refine P_p rfl rfl (Bl rfl rfl hA7 (j:=j66) hj7 hl7 Wy) rfl ?_;refine P_p rfl rfl (Bf rfl Tk rfl) rfl ?_;refine P_p rfl rfl (Bf rfl Afy rfl) rfl ?_;refine P_q rfl rfl (Ef (d:=2) rfl hp7 (sb 5) rfl one3) rfl ?_;refine P_p rfl rfl (Bf rfl Aa9 rfl) rfl ?_;refine Y ?_;refine P_p rfl rfl (Bn rfl rfl Tx dD dD rfl) rfl ?_;refine P_x rfl (Dx (Bd rfl (i:=4) rfl rfl Yd) rfl ?_) ?_
   ·skip;have hw9:=Has.low (E:=[]) ha0' hK;obtain⟨b8,o8,j74,hA8,hj8,hl8,hp8⟩:=Has.at_idx hw9 h52;refine P_p rfl rfl (Bl rfl rfl hA8 (j:=j74) hj8 hl8 Wy) rfl ?_;refine P_p rfl rfl (Bf rfl Tk rfl) rfl ?_;refine P_p rfl rfl (Bf rfl Abc rfl) rfl ?_;refine P_x rfl (Dx (Ef (d:=3) rfl hp8 (sb 5) rfl one3) rfl ?_) ?_
    ·skip;refine P_h rfl rfl (Ay rfl rfl rfl (.there (.here)) (.put (.done)) rfl (List.cons_ne_nil _ _) one3.2 ?_) ?_;rotate_left;exact Bg;refine P_p rfl rfl (Bn rfl rfl Tx dD dD rfl) rfl ?_;refine P_h rfl rfl (Ay rfl rfl rfl (.here) (.put (.done)) rfl (List.cons_ne_nil _ _) one3.2 ?_) ?_;rotate_left;exact Bg;refine Y2 ?_;exact Mt (x5.Z.Lo,x6.Z.Hi) () hx63 trivial (by exact .pick 0 rfl (.pick 0 rfl (.pick 0 rfl (.pick 0 rfl (.pick 0 rfl (.refl))))))
    ·skip;refine P_h rfl rfl (Ay rfl rfl rfl (.there (.here)) (.put (.done)) rfl (List.cons_ne_nil _ _) one3.2 ?_) ?_;rotate_left;exact Bg;refine P_x rfl (Dx (Ef (d:=3) rfl hp8 (sb 5) rfl one3) rfl ?_) ?_;rotate_left;exact Bg;refine P_p rfl rfl (Bn rfl rfl Tx dD dD rfl) rfl ?_;refine P_h rfl rfl (Ay rfl rfl rfl (.here) (.put (.done)) rfl (List.cons_ne_nil _ _) one3.2 ?_) ?_;rotate_left;exact Bg;refine Y2 ?_;exact Mt (x5.Z.Lo,x6.Z.Hi) () hx63 trivial (by exact .pick 0 rfl (.pick 0 rfl (.pick 0 rfl (.pick 0 rfl (.pick 0 rfl (.refl))))))
   ·skip;refine P_h rfl rfl (Ay rfl rfl rfl (.there (.here)) (.put (.done)) rfl (List.cons_ne_nil _ _) one3.2 ?_) ?_;rotate_left;exact Bg;refine P_x rfl (Dx (Bd rfl (i:=4) rfl rfl Yd) rfl ?_) ?_;rotate_left;exact Bg;have hw87:=Has.low (E:=[]) ha0' hK;obtain⟨b9,o9,j82,hA9,hj9,hl9,hp9⟩:=Has.at_idx hw87 h52;refine P_p rfl rfl (Bl rfl rfl hA9 (j:=j82) hj9 hl9 Wy) rfl ?_;refine P_p rfl rfl (Bf rfl Tk rfl) rfl ?_;refine P_p rfl rfl (Bf rfl Abc rfl) rfl ?_;refine P_x rfl (Dx (Ef (d:=3) rfl hp9 (sb 5) rfl one3) rfl ?_) ?_;rotate_left;exact Bg;refine P_p rfl rfl (Bn rfl rfl Tx dD dD rfl) rfl ?_;refine P_h rfl rfl (Ay rfl rfl rfl (.here) (.put (.done)) rfl (List.cons_ne_nil _ _) one3.2 ?_) ?_;rotate_left;exact Bg;refine Y2 ?_;exact Mt (x5.Z.Lo,x6.Z.Hi) () hx63 trivial (by exact .pick 0 rfl (.pick 0 rfl (.pick 0 rfl (.pick 0 rfl (.pick 0 rfl (.refl))))))
 ·obtain⟨r8,h9,hx18⟩:=Ao hx6;obtain⟨r2,h12,hx19⟩:=Ao hx18;obtain⟨r3,h15,hx20⟩:=Ao hx19;refine T_dr [0,1,0,1,1,2,0,1,0,1,1,2,0,1,0,1,1,2,0,2,3] (.q 0 (.q 1 (.q 2 (.q 3 (.q 4 (.q 6 (.q 7 (.q 8 (.q 9 (.q 10 (.q 12 (.q 13 (.q 14 (.q 15 (.q 16 (.e 5 (.e 11 (.e 17 (.q 18 (.e 19 (.e 20 (.done) (.stop)) (.stop))) (.e 19 (.e 17 (.q 18 (.e 20 (.done) (.stop))) (.stop)) (.stop))) (.e 19 (.e 11 (.e 17 (.q 18 (.e 20 (.done) (.stop))) (.stop)) (.stop)) (.stop))) (.e 19 (.e 5 (.e 11 (.e 17 (.q 18 (.e 20 (.done) (.stop))) (.stop)) (.stop)) (.stop)) (.stop)))))))))))))))))) mixed kr kr ?_;refine P_p rfl rfl (Bn rfl rfl Aeh dD dD rfl) rfl ?_;refine P_q rfl rfl (Bo rfl (i:=0) rfl rfl Uh) rfl ?_;refine P_p rfl rfl (Bn rfl rfl Aeh dD dD rfl) rfl ?_;refine P_q rfl rfl (Bo rfl (i:=0) rfl rfl Uh) rfl ?_;refine P_q rfl rfl (Bo rfl (i:=2) rfl rfl Uh) rfl ?_;refine P_p rfl rfl (Bn rfl rfl Aeh dD dD rfl) rfl ?_;refine P_q rfl rfl (Bo rfl (i:=0) rfl rfl Uh) rfl ?_;refine P_p rfl rfl (Bn rfl rfl Aeh dD dD rfl) rfl ?_;refine P_q rfl rfl (Bo rfl (i:=0) rfl rfl Uh) rfl ?_;refine P_q rfl rfl (Bo rfl (i:=2) rfl rfl Uh) rfl ?_;refine P_p rfl rfl (Bn rfl rfl Aeh dD dD rfl) rfl ?_;refine P_q rfl rfl (Bo rfl (i:=0) rfl rfl Uh) rfl ?_;refine P_p rfl rfl (Bn rfl rfl Aeh dD dD rfl) rfl ?_;refine P_q rfl rfl (Bo rfl (i:=0) rfl rfl Uh) rfl ?_;refine P_q rfl rfl (Bo rfl (i:=2) rfl rfl Uh) rfl ?_;refine P_x rfl (Br rfl (fun w1 hw1=>Eh (⟨r4.a1.X,r4.a1.Y⟩:Ac) (⟨r4.a2.X,r4.a2.Y⟩:Ac) p2  h9 w1) rfl ?_) ?_
  ·skip;rintro _ _ hlo ⟨rfl,rfl,-⟩;refine Ya ?_;refine P_x rfl (Br rfl (fun w1 hw1=>Eh (⟨r4.a2.X,r4.a2.Y⟩:Ac) (⟨r4.a0.X,r4.a0.Y⟩:Ac) p2  h12 w1) rfl ?_) ?_
   ·skip;rintro _ _ hlo ⟨rfl,rfl,-⟩;refine Ya ?_;refine P_x rfl (Br rfl (fun w1 hw1=>Eh (⟨r4.a0.X,r4.a0.Y⟩:Ac) (⟨r4.a1.X,r4.a1.Y⟩:Ac) p2  h15 w1) rfl ?_) ?_
    ·skip;rintro _ _ hlo ⟨rfl,rfl,-⟩;refine Ya ?_;refine P_p rfl rfl (En rfl (Gt _ _ _)) rfl ?_;refine P_x rfl (Bt Aer rfl (fun g5=>?_)) ?_;rotate_left;exact Bg;refine P_h rfl rfl (Ay rfl rfl rfl (.here) (.put (.put (.put (.done)))) rfl (List.cons_ne_nil _ _) Zh.2 ?_) ?_;rotate_left;exact Bg;refine Y ?_;exact Mt (r8,r2,r3) g5 hx20 trivial (by exact .pick 0 rfl (.pick 1 rfl (.pick 2 rfl (.drop 0 rfl (.drop 0 rfl (.refl))))))
    ·skip;refine P_x rfl (Bt Aer rfl (fun g6=>?_)) ?_;rotate_left;exact Bg;refine Pc (fun w1 hw1=>Eh (⟨r4.a0.X,r4.a0.Y⟩:Ac) (⟨r4.a1.X,r4.a1.Y⟩:Ac) p2  h15 w1) ?_;refine P_p rfl rfl (En rfl (Gt _ _ _)) rfl ?_;refine P_h rfl rfl (Ay rfl rfl rfl (.here) (.put (.put (.put (.done)))) rfl (List.cons_ne_nil _ _) Zh.2 ?_) ?_;rotate_left;exact Bg;refine Y ?_;exact Mt (r8,r2,r3) g6 hx20 trivial (by exact .pick 0 rfl (.pick 1 rfl (.pick 2 rfl (.drop 0 rfl (.drop 0 rfl (.refl))))))
   ·skip;refine P_x rfl (Bt Aer rfl (fun g8=>?_)) ?_;rotate_left;exact Bg;refine Pc (fun w1 hw1=>Eh (⟨r4.a2.X,r4.a2.Y⟩:Ac) (⟨r4.a0.X,r4.a0.Y⟩:Ac) p2  h12 w1) ?_;refine Pc (fun w1 hw1=>Eh (⟨r4.a0.X,r4.a0.Y⟩:Ac) (⟨r4.a1.X,r4.a1.Y⟩:Ac) p2  h15 w1) ?_;refine P_p rfl rfl (En rfl (Gt _ _ _)) rfl ?_;refine P_h rfl rfl (Ay rfl rfl rfl (.here) (.put (.put (.put (.done)))) rfl (List.cons_ne_nil _ _) Zh.2 ?_) ?_;rotate_left;exact Bg;refine Y ?_;exact Mt (r8,r2,r3) g8 hx20 trivial (by exact .pick 0 rfl (.pick 1 rfl (.pick 2 rfl (.drop 0 rfl (.drop 0 rfl (.refl))))))
  ·skip;refine P_x rfl (Bt Aer rfl (fun g9=>?_)) ?_;rotate_left;exact Bg;refine Pc (fun w1 hw1=>Eh (⟨r4.a1.X,r4.a1.Y⟩:Ac) (⟨r4.a2.X,r4.a2.Y⟩:Ac) p2  h9 w1) ?_;refine Pc (fun w1 hw1=>Eh (⟨r4.a2.X,r4.a2.Y⟩:Ac) (⟨r4.a0.X,r4.a0.Y⟩:Ac) p2  h12 w1) ?_;refine Pc (fun w1 hw1=>Eh (⟨r4.a0.X,r4.a0.Y⟩:Ac) (⟨r4.a1.X,r4.a1.Y⟩:Ac) p2  h15 w1) ?_;refine P_p rfl rfl (En rfl (Gt _ _ _)) rfl ?_;refine P_h rfl rfl (Ay rfl rfl rfl (.here) (.put (.put (.put (.done)))) rfl (List.cons_ne_nil _ _) Zh.2 ?_) ?_;rotate_left;exact Bg;refine Y ?_;exact Mt (r8,r2,r3) g9 hx20 trivial (by exact .pick 0 rfl (.pick 1 rfl (.pick 2 rfl (.drop 0 rfl (.drop 0 rfl (.refl))))))
instance(p0:Aq)(p1:Int)(p2:Ac):Con (Oi p0 p1 p2) prog 76 (fun K vs=>∃ E0 G0 E1 G1 E2 G2,vs=[.agg #[.slice E0 p0.V.length G0,.slice E1 p0.T.length G1,.slice E2 p0.Lines.length G2],iq p1,.agg #[iq p2.X,iq p2.Y]]/\Has K E0 p0.V.length G0 4 Ak p0.V/\Has K E1 p0.T.length G1 3 Ax p0.T/\Has K E2 p0.Lines.length G2 2 Ar p0.Lines/\True) (fun _ r=>fun v Ln=>v = .agg #[iq r.Lo,iq r.Hi]/\Ln=[]/\True):=⟨by
 rintro K _ r ⟨E0,G0,E1,G1,E2,G2,rfl,ha0,ha1,ha2,-⟩ hx w hK;exact Afj p0 p1 p2 ha0 ha1 ha2 hx w hK⟩
instance(p0:Aw)(p1:Aw):Con (Zx p0 p1) prog 75 (fun _ vs=>vs=[.agg #[iq p0.Lo,iq p0.Hi],.agg #[iq p1.Lo,iq p1.Hi]]) (fun _ r=>fun v Ln=>v = iq r/\Ln=[]/\True):=⟨by
 rintro _ _ r rfl hx w hK;unfold Zx at hx;refine CtS ntmps75 results75 ?_;exact au⟩
instance:Ud prog 123 [iq 0,iq 0,iq 0,iq 0,iq 0,iq 0,iq 0,iq 0,iq 0,iq 0]:=⟨⟨_,zeroValue123,rfl⟩⟩
instance:AggI prog 123 10:=⟨.mk underlying123 rfl (show prog.info? 123=some t123 from by kernel_rfl) kr⟩
instance:Bz prog 123 1 9:=⟨.mk underlying123 rfl rfl (show prog.info? 3=some Tryz.t3 from by kernel_rfl) (show Tryz.t3.size=1 from by kernel_rfl) rfl⟩
instance:Bz prog 123 0 0:=⟨.mk underlying123 rfl rfl (show prog.info? 30=some t30 from by kernel_rfl) (show t30.size=9 from by kernel_rfl) rfl⟩
instance(x0:Int)(x1:Int)(x2:Int)(x3:Int)(x4:Int)(x5:Int)(x6:Int)(x7:Int)(x8:Int)(x9:Int):Je prog 123 [(0,.agg #[iq x0,iq x1,iq x2,iq x3,iq x4,iq x5,iq x6,iq x7,iq x8]),(1,iq x9)] [iq x0,iq x1,iq x2,iq x3,iq x4,iq x5,iq x6,iq x7,iq x8,iq x9]:=⟨fun w=>kr⟩
noncomputable def Dy(p0:List Int)(p1:Int):Int->Option (Sum Int (Sum Unit Int)):=fun s0=>
 if s0<(p0.length:Int) then (bnd (idx p0 s0) fun x0=>
 if p1=x0 then (some (.inr (.inr s0)))
 else (some (.inl (w64 (s0+1)))))
 else (some (.inr (.inl ())))
noncomputable def Iz(p0:List Int)(p1:Int):Option Int :=
 jn (fun (s2:Unit)=>
 some (-1))
 (fun j2=>bnd (lfix (Dy p0 p1) 0) fun t0=>
 (match t0 with
 | (.inl z0)=>j2 z0
 | (.inr z0)=>some z0
 ))
noncomputable def Cx(p0:List Int)(p1:Int):Option Bool :=
 bnd (Iz p0 p1) fun r1=>
 some (decide (0<=r1))
instance:UndI prog 121 (.map 3 123):=⟨underlying121⟩
structure Fi where
 p:Aa
 far:Int
def Qr(x:Fi):Value:=.agg #[iq x.p.Id,iq x.p.X,iq x.p.Y,iq x.p.Z.Lo,iq x.p.Z.Hi,iq x.p.Wide,iq x.p.Num,iq x.p.Of,iq x.p.Class,iq x.far]
theorem Afk(x y:Fi)(h:Qr x=Qr y):x=y:=by
 rcases x with⟨⟨_,_,_,⟨_,_⟩,_,_,_,_⟩,_⟩;rcases y with⟨⟨_,_,_,⟨_,_⟩,_,_,_,_⟩,_⟩;simp[Qr] at h;simp[h]
instance(x:Fi):UnfI Qr x (.agg #[iq x.p.Id,iq x.p.X,iq x.p.Y,iq x.p.Z.Lo,iq x.p.Z.Hi,iq x.p.Wide,iq x.p.Num,iq x.p.Of,iq x.p.Class,iq x.far]):=⟨rfl⟩
instance(x0:Int)(x1:Int)(x2:Int)(x3:Int)(x4:Int)(x5:Int)(x6:Int)(x7:Int)(x8:Int)(x9:Int):Ab4 Qr (.agg #[iq x0,iq x1,iq x2,iq x3,iq x4,iq x5,iq x6,iq x7,iq x8,iq x9]) (⟨⟨x0,x1,x2,⟨x3,x4⟩,x5,x6,x7,x8⟩,x9⟩):=⟨rfl⟩
instance:ValI prog 123 Qr ((⟨(⟨0,0,0,(⟨0,0⟩:Aw),0,0,0,0⟩:Aa),0⟩:Fi)):=⟨Afk,fun w=>kr⟩
instance(p0:List Int)(p1:Int):Con (Iz p0 p1) prog 148 (fun K vs=>∃ E0 G0,vs=[.slice E0 p0.length G0,iq p1]/\Has K E0 p0.length G0 1 Af p0/\True) (fun _ r=>fun v Ln=>v = iq r/\Ln=[]/\True):=⟨by
 rintro K _ r ⟨E0,G0,rfl,ha0,-⟩ hx w hK;replace ha0:=Has.lo ha0 hK;unfold Iz at hx;refine CtS ntmps148 results148 ?_;try (refine pre ?_;intros;rename_i hx)
 refine Bh ?_;try (refine pre ?_;intros;rename_i hx)
 apply Jr (γ:=Unit) hx [] (fun s2 y2 f=>f) [999] (fun s2 y2 l=>l);exact kk
 ·intro s2 y2 hx;exact au
 ·intro _ hx;try (refine pre ?_;intros;rename_i hx)
  apply Lr (γ:=Unit) hx [0,1,7] (fun s0 y0 f=>(8,iq s0)::f) [999] (fun s0 y0 l=>l) ();exact kk;exact sk;intro s0 y0 x0 hx _;unfold Dy at hx;exact au⟩
instance Ws(p0:List Int)(p1:Int):Con (Cx p0 p1) prog 92 (fun K vs=>∃ E0 G0,vs=[.slice E0 p0.length G0,iq p1]/\Has K E0 p0.length G0 1 Af p0/\True) (fun _ r=>fun v Ln=>v = .bool r/\Ln=[]/\True):=⟨by
 rintro K _ r ⟨E0,G0,rfl,ha0,-⟩ hx w hK;replace ha0:=Has.lo ha0 hK;unfold Cx at hx;refine CtS ntmps92 results92 ?_;exact au⟩
theorem We(p0:List Int)(p1:Int){K:List Ent}{E0:Option Addr}{G0:Nat}(ha0:Has K E0 p0.length G0 1 Af p0){r:Bool}(hx:Cx p0 p1=some r)(w:World)(hK:∀ e∈K,Ent.ok w e):CtL prog 92 [.slice E0 p0.length G0,iq p1] w fun v Ln=>v = .bool r/\Ln=[]/\True:=(Ws p0 p1).h K _ _ ⟨_,_,rfl,ha0,trivial⟩ hx w hK
end Go.Proofs.YthlkpgdfifnagaaGreat
namespace Go.Proofs.YthlkpgdfifnagaaGreat
open Go Go.RowKit Go.Shelf Go.Sort Tryz
abbrev FitF:=Aa->Int × Bool × Int
noncomputable def Be8(g:List Int)(F:FitF)(b:List (Int × Fi))(p:Aa):List (Int × Fi):=
 if p.Id∈g\/(F p).2.1=false then b else
 match mget b (F p).1 with
 | none=>mput b (F p).1 ⟨p,(F p).2.2⟩
 | some o=>if (F p).2.2<o.far\/(F p).2.2=o.far/\X.lowB p o.p=true then mput b (F p).1 ⟨p,(F p).2.2⟩ else b
noncomputable def Bcb(g:List Int)(F:FitF)(C:List Aa):List (Int × Fi):=C.foldl (Be8 g F) []
def btr(f:Int)(p:Aa)(o:Fi):Prop:=f<o.far\/f=o.far/\X.lowB p o.p=true
structure BestOk(g:List Int)(F:FitF)(C:List Aa)(b:List (Int × Fi)):Prop where
 map:Dq b
 src:∀ q∈b,q.2.p∈C/\q.2.p.Id ∉ g/\F q.2.p=(q.1,true,q.2.far)
 all:∀ p∈C,p.Id ∉ g->(F p).2.1=true->∃ o,mget b (F p).1=some o/\¬ btr (F p).2.2 p o
noncomputable def adds(g:List Int)(F:FitF)(C:List Aa):List Int:=(Bcb g F C).map (·.2.p.Id)
noncomputable def Be9(g:List Int)(F:FitF)(C:List Aa):List Int:=Gf (g++adds g F C)
section
variable {g:List Int} {F:FitF} {C:List Aa}
end
end Go.Proofs.YthlkpgdfifnagaaGreat
namespace Go.Proofs.YthlkpgdfifnagaaGreat
open Go Go.RowKit Tryz
theorem Vx(x:Int):wu64 x=x % 18446744073709551616:=by unfold wu64;rw[IntKind.wrap_u64]
theorem Qb{j:Nat}(h:j<=18446744073709551615):wu64 (j:Int)=(j:Int):=by rw[Vx];omega
theorem Aqw  : Vv prog 28 [] [iq 0,iq 0]:=fun w=>kr
instance:Je prog 28 [] [iq 0,iq 0]:=⟨Aqw⟩
noncomputable def Vo(p0:Aq)(p1:Aa):Option (Aw × Bool):=
 bnd (Ci p1) fun r4=>
 bnd (Rs p0 r4) fun r7=>
 if r7<0 then (some ((⟨0,0⟩:Aw),false))
 else (bnd (Ci p1) fun r0=>
 bnd (Oi p0 r7 r0) fun r1=>
 some ((⟨w64 (p1.Z.Lo-r1.Hi),w64 (p1.Z.Hi-r1.Lo)⟩:Aw),true))
noncomputable def Tb(r3:List Aa × List Aa)(p1:Aq)(p3:Ag)(p2:List Int):(List Aa × Int)->Option (Sum (List Aa × Int) (List Aa)):=fun s0=>
 if s0.2<(r3.1.length:Int) then (jn (fun (s1:List Aa)=>
 some (.inl (s1,w64 (s0.2+1))))
 (fun j0=>bnd (idx r3.1 s0.2) fun x0=>
 jn (fun (s2:Bool)=>
 if s2=true then (j0 s0.1)
 else (bnd (Vo p1 x0) fun r0=>
 jn (fun (s3:Bool)=>
 if s3=true then (gd ((s0.1.length+1)*72<=140737488355328)<|
 j0 (s0.1++[x0]))
 else (j0 s0.1))
 (fun j1=>if r0.2=true then (bnd (Cd p3.Tall r0.1.Lo p3.High) fun r1=>
 j1 r1)
 else (j1 false))))
 (fun j2=>if x0.Of=1 then (bnd (Cx p2 x0.Id) fun r2=>
 j2 r2)
 else (j2 true))))
 else (some (.inr s0.1))
noncomputable def Vp(p0:List Aa)(p1:Aq)(p2:List Int)(p3:Ag):Option (List Aa):=
 bnd (Pq p0 p3) fun r3=>
 jn (fun (s4:List Aa)=>
 bnd (Us Ci s4) fun r0=>
 gd (r0.length<=1000000000/\(∀ x∈r0,(ptIn r0) x))<|
 some (Bc Pe r0))
 (fun j4=>bnd (lfix (Tb r3 p1 p3 p2) (([]:List Aa),0)) fun t0=>
 j4 t0)
noncomputable def Td(p0:List Int):Int->Option (Sum Int Int):=fun s0=>
 bnd (idx p0 s0) fun x0=>
 if x0=s0 then (some (.inr s0))
 else (bnd (idx p0 s0) fun x1=>
 some (.inl x1))
noncomputable def Tt(p0:List Int)(p1:Int):Option Int :=
 jn (fun (s2:Int)=>
 some s2)
 (fun j2=>bnd (lfix (Td p0) p1) fun t0=>
 j2 t0)
noncomputable def Qc(p0:List Aa):(List Int × Int)->Option (Sum (List Int × Int) (List Int)):=fun s0=>
 if s0.2<((((List.replicate (Int.toNat (p0.length:Int)) (0:Int)).length:Nat):Int)) then (bnd (idx s0.1 s0.2) fun x0=>
 some (.inl (setI s0.1 s0.2 s0.2,w64 (s0.2+1))))
 else (some (.inr s0.1))
noncomputable def Oj(x0:Ah)(p0:List Aa)(p1:Ag):(List Int × Int)->Option (Sum (List Int × Int) (List Int)):=fun s0=>
 if s0.2<3 then (jn (fun (s1:List Int)=>
 some (.inl (s1,w64 (s0.2+1))))
 (fun j0=>bnd (idx [x0.a0,x0.a1,x0.a2] s0.2) fun x1=>
 bnd (idx [x0.a0,x0.a1,x0.a2] (Int.tmod (w64 (s0.2+1)) 3)) fun x2=>
 jn (fun (s2:Bool)=>
 if s2=true then (j0 s0.1)
 else (bnd (Tt s0.1 x1) fun r0=>
 bnd (Tt s0.1 x2) fun r1=>
 bnd (idx s0.1 (max r0 r1)) fun x3=>
 j0 (setI s0.1 (max r0 r1) (min r0 r1))))
 (fun j1=>bnd (idx p0 x1) fun x4=>
 bnd (idx p0 x2) fun x5=>
 bnd (Vr x4 x5 p1.Link) fun r2=>
 if r2=true then (bnd (idx p0 x1) fun x6=>
 bnd (idx p0 x2) fun x7=>
 bnd (Zx x6.Z x7.Z) fun r3=>
 j1 (decide (p1.Flat<r3)))
 else (j1 true))))
 else (some (.inr s0.1))
noncomputable def Ok(r0:Aq × Int)(p0:List Aa)(p1:Ag):(List Int × Int)->Option (Sum (List Int × Int) (List Int)):=fun s0=>
 if s0.2<(r0.1.T.length:Int) then (jn (fun (s1:List Int)=>
 some (.inl (s1,w64 (s0.2+1))))
 (fun j0=>bnd (idx r0.1.T s0.2) fun x0=>
 bnd (lfix (Oj x0 p0 p1) (s0.1,0)) fun t0=>
 j0 t0))
 else (some (.inr s0.1))
noncomputable def Ol(s0:List Int):(List Int × Int)->Option (Sum (List Int × Int) (List Int)):=fun s1=>
 if s1.2<(s0.length:Int) then (bnd (Tt s1.1 s1.2) fun r0=>
 bnd (idx s1.1 s1.2) fun x0=>
 some (.inl (setI s1.1 s1.2 r0,w64 (s1.2+1))))
 else (some (.inr s1.1))
noncomputable def Sj(p0:List Aa)(p1:Ag):Option (List Int):=
 gd ((0:Int)<=(p0.length:Int)/\8*Int.toNat (p0.length:Int)<=140737488355328)<|
 jn (fun (s3:List Int)=>
 bnd (Rz p0) fun r0=>
 if r0.2=0 then (jn (fun (s0:List Int)=>
 jn (fun (s1:List Int)=>
 some s1)
 (fun j0=>bnd (lfix (Ol s0) (s0,0)) fun t0=>
 j0 t0))
 (fun j1=>bnd (lfix (Ok r0 p0 p1) (s3,0)) fun t1=>
 j1 t1))
 else (some s3))
 (fun j3=>bnd (lfix (Qc p0) (List.replicate (Int.toNat (p0.length:Int)) (0:Int),0)) fun t2=>
 j3 t2)
noncomputable def Om(r0:List Int):(List Int × Int)->Option (Sum (List Int × Int) (List Int)):=fun s0=>
 if s0.2<(r0.length:Int) then (bnd (idx r0 s0.2) fun x0=>
 bnd (idx s0.1 x0) fun x1=>
 bnd (idx s0.1 x0) fun x2=>
 some (.inl (setI s0.1 x0 (w64 (x1+1)),w64 (s0.2+1))))
 else (some (.inr s0.1))
noncomputable def Qd(r3:List Aa)(r0:List Int)(s5:List Int)(p3:Ag):(List Aa × Int)->Option (Sum (List Aa × Int) (List Aa)):=fun s0=>
 if s0.2<(r3.length:Int) then (jn (fun (s1:List Aa)=>
 some (.inl (s1,w64 (s0.2+1))))
 (fun j0=>bnd (idx r3 s0.2) fun x0=>
 bnd (idx r0 s0.2) fun x1=>
 bnd (idx s5 x1) fun x2=>
 if p3.Few<=x2 then (gd ((s0.1.length+1)*72<=140737488355328)<|
 j0 (s0.1++[x0]))
 else (j0 s0.1)))
 else (some (.inr s0.1))
noncomputable def Uf(p0:List Aa)(p1:Aq)(p2:List Int)(p3:Ag):Option (List Int):=
 bnd (Vp p0 p1 p2 p3) fun r3=>
 bnd (Sj r3 p3) fun r0=>
 gd ((0:Int)<=(r3.length:Int)/\8*Int.toNat (r3.length:Int)<=140737488355328)<|
 jn (fun (s5:List Int)=>
 jn (fun (s0:List Aa)=>
 bnd (Zs s0) fun r1=>
 some r1)
 (fun j0=>bnd (lfix (Qd r3 r0 s5 p3) (([]:List Aa),0)) fun t0=>
 j0 t0))
 (fun j5=>bnd (lfix (Om r0) (List.replicate (Int.toNat (r3.length:Int)) (0:Int),0)) fun t1=>
 j5 t1)
noncomputable def Wf(p0:List Aa)(p1:List Int)(p2:Ag):Option (List Int × Int):=
 bnd (Ns p0 p2) fun r2=>
 if r2=0 then (bnd (Mk p0 p1) fun r8=>
 if r8.2=0 then (bnd (Uf p0 r8.1 p1 p2) fun r0=>
 some (r0,0))
 else (some (([]:List Int),r8.2)))
 else (some (([]:List Int),r2))
instance Am7(p0:Aq)(p1:Aa):Con (Vo p0 p1) prog 39 (fun K vs=>∃ E0 G0 E1 G1 E2 G2,vs=[.agg #[.slice E0 p0.V.length G0,.slice E1 p0.T.length G1,.slice E2 p0.Lines.length G2],.agg #[iq p1.Id,iq p1.X,iq p1.Y,iq p1.Z.Lo,iq p1.Z.Hi,iq p1.Wide,iq p1.Num,iq p1.Of,iq p1.Class]]/\Has K E0 p0.V.length G0 4 Ak p0.V/\Has K E1 p0.T.length G1 3 Ax p0.T/\Has K E2 p0.Lines.length G2 2 Ar p0.Lines/\True) (fun _ r=>fun v Ln=>v = .tuple #[.agg #[iq r.1.Lo,iq r.1.Hi],.bool r.2]/\Ln=[]/\True):=⟨by
 rintro K _ r ⟨E0,G0,E1,G1,E2,G2,rfl,ha0,ha1,ha2,-⟩ hx w hK;replace ha0:=Has.lo ha0 hK;replace ha1:=Has.lo ha1 hK;replace ha2:=Has.lo ha2 hK;unfold Vo at hx;have:=dl 1 [1,1,2,2,2] [0,1,2,3,4];have:=dl 4 [1,0,1,2,2,4,3] [0,1,2,3,4,5,6] [5];refine CtS ntmps39 results39 ?_;exact au⟩
theorem Akt(p0:Aq)(p1:Aa){K:List Ent}{E0:Option Addr}{G0:Nat}{E1:Option Addr}{G1:Nat}{E2:Option Addr}{G2:Nat}(ha0:Has K E0 p0.V.length G0 4 Ak p0.V)(ha1:Has K E1 p0.T.length G1 3 Ax p0.T)(ha2:Has K E2 p0.Lines.length G2 2 Ar p0.Lines){r:Aw × Bool}(hx:Vo p0 p1=some r)(w:World)(hK:∀ e∈K,Ent.ok w e):CtL prog 39 [.agg #[.slice E0 p0.V.length G0,.slice E1 p0.T.length G1,.slice E2 p0.Lines.length G2],.agg #[iq p1.Id,iq p1.X,iq p1.Y,iq p1.Z.Lo,iq p1.Z.Hi,iq p1.Wide,iq p1.Num,iq p1.Of,iq p1.Class]] w fun v Ln=>v = .tuple #[.agg #[iq r.1.Lo,iq r.1.Hi],.bool r.2]/\Ln=[]/\True:=(Am7 p0 p1).h K _ _ ⟨_,_,_,_,_,_,rfl,ha0,ha1,ha2,trivial⟩ hx w hK
theorem Aku(p0:List Aa)(p1:Aq)(p2:List Int)(p3:Ag){K:List Ent}{E0:Option Addr}{G0:Nat}{E1:Option Addr}{G1:Nat}{E2:Option Addr}{G2:Nat}{E3:Option Addr}{G3:Nat}{E4:Option Addr}{G4:Nat}(ha0:Has K E0 p0.length G0 9 Ai p0)(ha1:Has K E1 p1.V.length G1 4 Ak p1.V)(ha2:Has K E2 p1.T.length G2 3 Ax p1.T)(ha3:Has K E3 p1.Lines.length G3 2 Ar p1.Lines)(ha4:Has K E4 p2.length G4 1 Af p2){r:List Aa}(hx:Vp p0 p1 p2 p3=some r)(w:World)(hK:∀ e∈K,Ent.ok w e):CtL prog 104 [.slice E0 p0.length G0,.agg #[.slice E1 p1.V.length G1,.slice E2 p1.T.length G2,.slice E3 p1.Lines.length G3],.slice E4 p2.length G4,.agg #[iq p3.Cell,iq p3.Reach,iq p3.Slope,iq p3.Link,iq p3.Flat,iq p3.Tall,iq p3.High,iq p3.Low,iq p3.Brush,iq p3.Few]] w fun v Ln=>∃ (A0:Option Addr) (c0:Nat),v = .slice A0 r.length c0/\Ln=[.r A0 r.length c0 30 9 (r.flatMap Ai)]/\True:=by
 have ha0':=Has.up0 ha0;have ha1':=Has.up0 ha1;have ha2':=Has.up0 ha2;have ha3':=Has.up0 ha3;have ha4':=Has.up0 ha4;refine CtL.mk 65 func104 rfl ntmps104 kr rfl ?_;show T 65 _ [(0,.slice E0 p0.length G0),(1,.agg #[.slice E1 p1.V.length G1,.slice E2 p1.T.length G2,.slice E3 p1.Lines.length G3]),(2,.slice E4 p2.length G4),(3,.agg #[iq p3.Cell,iq p3.Reach,iq p3.Slope,iq p3.Link,iq p3.Flat,iq p3.Tall,iq p3.High,iq p3.Low,iq p3.Brush,iq p3.Few])] _;unfold Vp at hx;refine Y2 ?_;refine T_x (Pf rfl rfl rfl (fun g1=>?_));refine T_x (Pf rfl rfl rfl (fun g2=>?_));refine Y6 ?_;refine At (Bo rfl (i:=0) rfl rfl Apl) rfl ?_;obtain⟨r3,h4,hx5⟩:=Ao hx;refine T_x (Br rfl (fun w1 hw1=>Ahz p0 p3 (Has.len' ha0') h4 w1 (Ss (K:=K) (K2:=[]) hK (by exact (sb 2)) (by exact SubE.nil) hw1)) rfl ?_);rintro _ _ hlo ⟨A6,c7,A8,c9,rfl,rfl,-⟩;refine Zc ?_;refine Y12 ?_;refine Tj (γ:=Option Addr × Nat) hx5 (fun s4 y4=>[(11,.slice y4.1 s4.length y4.2)]) (fun s4 y4=>[.r y4.1 s4.length y4.2 30 9 (s4.flatMap Ai)]++[.old w]) (fun s4 y4=>True) (fun s4 y4 hx0 hG0=>?_) (fun j4 hx5=>?_)
 ·refine Y3 ?_;refine T_x (Br rfl (fun w1 _=>Ab7 y4.1 s4.length y4.2 70 [] w1) rfl ?_);rintro _ _ hlo ⟨g0,g3,rfl,rfl⟩;refine Zc ?_;refine Gb (k:=2) rfl dD (fun _=>rfl) (fun hn0 hs0=>?_);obtain⟨r0,h0,hx1⟩:=Ao hx0;refine T_x (Br rfl (fun w1 hw1=>Ajc Ci s4 (Has.up (L:=([.r y4.1 s4.length y4.2 30 9 (s4.flatMap Ai),.m g0 41 [.slice y4.1 s4.length y4.2],.m g3 98 [.func (.func 70) #[] #[]]]:List Ent)) hs0 (sb 0)) (Pt.m0 (.tail _ (.head _))) (Pt.m0 (.tail _ (.tail _ (.head _)))) (Aom.up (K:=[]) SubE.nil) h0 w1 (Wd (K:=([.r y4.1 s4.length y4.2 30 9 (s4.flatMap Ai),.m g0 41 [.slice y4.1 s4.length y4.2],.m g3 98 [.func (.func 70) #[] #[]]]:List Ent)) (by exact (SubE.cons2 (i:=2) rfl (SubE.cons2 (i:=1) rfl (sb 0)))) hw1)) rfl ?_);rintro _ _ hlo ⟨A1,c1,rfl,rfl⟩;refine Lz ?_;refine Y6 ?_;obtain⟨h1,hx2⟩:=Bv hx1;refine T_h (Aan (p:=(ptIn r0)) (arg:=fun x=>.agg #[iq x.Id,iq x.X,iq x.Y,iq x.Z.Lo,iq x.Z.Hi,iq x.Wide,iq x.Num,iq x.Of,iq x.Class]) (cf:=Pe) r0 (by exact⟨_,func60,rfl,rfl⟩) (fun w hok hcm=>Akf r0 h1.1 h1.2 w hok hcm ⟨_,func154,rfl,rfl⟩) (fun ys=>[.r A1 r0.length c1 30 9 ys,.m g3 98 [.func (.func 70) #[] #[]],.m g0 41 [.slice y4.1 s4.length y4.2],.r y4.1 s4.length y4.2 30 9 (s4.flatMap Ai)]++[.old w]) (fun ys=>by exact .here) (fun ys W hW x y px py=>⟨[.agg #[iq x.Id,iq x.X,iq x.Y,iq x.Z.Lo,iq x.Z.Hi,iq x.Wide,iq x.Num,iq x.Of,iq x.Class],.agg #[iq y.Id,iq y.X,iq y.Y,iq y.Z.Lo,iq y.Z.Hi,iq y.Wide,iq y.Num,iq y.Of,iq y.Class]],rfl,Ahr x y  (Axp px py) W⟩) rfl rfl rfl ?_);refine Y9 ?_;have hn1:r0.length=(Bc Pe r0).length:=(by rw[Cb]);refine Wc (.here) (e':=.r A1 ((Bc Pe r0).length) c1 30 9 ((Bc Pe r0).flatMap Ai)) (by first | (rw[<- hn1];done) | rfl) ?_;refine Ab8 (s:=8) (v':=.slice A1 ((Bc Pe r0).length) c1) rfl (by have hn2:r0.length=(Bc Pe r0).length:=(by rw[Cb]);first | (rw[<- hn2];done) | rfl) ?_;obtain rfl:=Option.some.inj hx2;exact Df (rs:=[.tmp 8]) results104 (.tmp rfl (.nil)) (Ln:=[.r A1 ((Bc Pe r0).length) c1 30 9 ((Bc Pe r0).flatMap Ai)]) ⟨A1,c1,rfl,rfl,trivial⟩ (Bj rfl Cr) (by exact .pick 0 rfl (.drop 0 rfl (.drop 0 rfl (.drop 0 rfl (.refl)))))
 ·refine Y3 ?_;refine At (Dn rfl 30 underlying41) rfl ?_;refine Y4 ?_;obtain⟨t0,hl0,ho0⟩:=Ao hx5;refine Bi 30 9 ?_;have hn3:0=(([]:List Aa)).length:=by simp[Dr,Tm,List.length_append] <;> omega
  refine Wc (.here) (e':=.r none ((([]:List Aa)).length) 0 30 9 ((([]:List Aa)).flatMap Ai)) (by first | (rw[<- hn3];done) | rfl) ?_;refine Lp (σ:=List Aa × Int) (γ:=Option Addr × Nat) hl0 (fun s0 y0=>[(2,.slice E4 p2.length G4),(5,.pointer (some ⟨g1,0,none⟩)),(7,.pointer (some ⟨g2,0,none⟩)),(11,.slice y0.1 s0.1.length y0.2),(23,.slice A6 r3.1.length c7),(24,iq (r3.1.length:Int)),(25,iq s0.2)]) (fun s0 y0=>[.r y0.1 s0.1.length y0.2 30 9 (s0.1.flatMap Ai),.r A6 r3.1.length c7 30 9 (r3.1.flatMap Ai),.m g2 32 [iq p3.Cell,iq p3.Reach,iq p3.Slope,iq p3.Link,iq p3.Flat,iq p3.Tall,iq p3.High,iq p3.Low,iq p3.Brush,iq p3.Few],.m g1 26 [.slice E1 p1.V.length G1,.slice E2 p1.T.length G2,.slice E3 p1.Lines.length G3]]++[.old w]) (fun s0 y0=>True) (none,0) trivial (by exact .pick 0 rfl (.pick 0 rfl (.pick 1 rfl (.pick 1 rfl (.drop 0 rfl (.refl)))))) ?_;intro s0 y0 hG1 x0 hx3 ht0;unfold Tb at hx3;refine Y6 ?_;refine Ti hx3 (s:=26) rfl (fun h2 hx4=>?_) (fun h2 hx6=>?_)
  ·refine Y3 ?_;refine Tj (γ:=Option Addr × Nat) hx4 (fun s1 y1=>[(2,.slice E4 p2.length G4),(5,.pointer (some ⟨g1,0,none⟩)),(7,.pointer (some ⟨g2,0,none⟩)),(11,.slice y1.1 s1.length y1.2),(23,.slice A6 r3.1.length c7),(24,iq (r3.1.length:Int)),(25,iq s0.2)]) (fun s1 y1=>[.r y1.1 s1.length y1.2 30 9 (s1.flatMap Ai),.r A6 r3.1.length c7 30 9 (r3.1.flatMap Ai),.m g2 32 [iq p3.Cell,iq p3.Reach,iq p3.Slope,iq p3.Link,iq p3.Flat,iq p3.Tall,iq p3.High,iq p3.Low,iq p3.Brush,iq p3.Few],.m g1 26 [.slice E1 p1.V.length G1,.slice E2 p1.T.length G2,.slice E3 p1.Lines.length G3]]++[.old w]) (fun s1 y1=>True) (fun s1 y1 hx7 hG2=>?_) (fun j0 hx4=>?_)
   ·refine Y4 ?_;exact Rp (s1,w64 (s0.2+1)) (y1.1,y1.2) hx7 trivial (by exact .pick 0 rfl (.pick 0 rfl (.pick 0 rfl (.pick 0 rfl (.refl)))))
   ·refine Y3 ?_;obtain⟨x1,h3,hx8⟩:=Ao hx4;refine Aa6 (k:=1) rfl dD (fun _=>rfl) h3 (fun b0 j1 hA0 hj0 hl1 hm0 hp0=>?_);refine At (Bl rfl rfl hA0 (j:=j1) hj0 hl1 Al5) rfl ?_;refine At (Db rfl hp0 (sb 1) rfl Vg) rfl ?_;refine T_x (Bt Aj7 rfl (fun g4=>?_));refine T_h (Ay rfl rfl rfl (.here) (.put (.put (.put (.put (.put (.put (.put (.put (.put (.done)))))))))) rfl (List.cons_ne_nil _ _) Vg.2 ?_);refine Y3 ?_;refine Tj (γ:=Unit) hx8 (fun s2 y2=>[(2,.slice E4 p2.length G4),(5,.pointer (some ⟨g1,0,none⟩)),(7,.pointer (some ⟨g2,0,none⟩)),(11,.slice y0.1 s0.1.length y0.2),(13,.pointer (some ⟨g4,0,none⟩)),(23,.slice A6 r3.1.length c7),(24,iq (r3.1.length:Int)),(25,iq s0.2),(37,.bool s2)]) (fun s2 y2=>[.m g4 30 [iq x1.Id,iq x1.X,iq x1.Y,iq x1.Z.Lo,iq x1.Z.Hi,iq x1.Wide,iq x1.Num,iq x1.Of,iq x1.Class],.r y0.1 s0.1.length y0.2 30 9 (s0.1.flatMap Ai),.r A6 r3.1.length c7 30 9 (r3.1.flatMap Ai),.m g2 32 [iq p3.Cell,iq p3.Reach,iq p3.Slope,iq p3.Link,iq p3.Flat,iq p3.Tall,iq p3.High,iq p3.Low,iq p3.Brush,iq p3.Few],.m g1 26 [.slice E1 p1.V.length G1,.slice E2 p1.T.length G2,.slice E3 p1.Lines.length G3]]++[.old w]) (fun s2 y2=>True) (fun s2 y2 hx9 hG3=>?_) (fun j2 hx8=>?_)
    ·refine Jv (s:=37) rfl (fun h5=>?_) (fun h5=>?_)
     ·have hx86:=Io h5 hx9;refine Y4 ?_;exact Mt s0.1 (y0.1,y0.2) hx86 trivial (by exact .pick 1 rfl (.pick 1 rfl (.pick 1 rfl (.pick 1 rfl (.drop 0 rfl (.refl))))))
     ·have hx87:=Nn h5 hx9;refine Y5 ?_;refine At (Bo rfl (i:=4) rfl rfl Atc) rfl ?_;refine At (Bo rfl (i:=0) rfl rfl Vg) rfl ?_;obtain⟨r1,h6,hx90⟩:=Ao hx87;refine Tc (fun w1 hw1=>Akt p1 x1 (Has.len' ha1') (Has.len' ha2') (Has.len' ha3') h6 w1 (Ss (K:=K) (K2:=[]) hK (by exact (sb 5)) (by exact SubE.nil) hw1)) ?_;refine Y3 ?_;refine T_x (Bt Ao2 rfl (fun g5=>?_));refine T_h (Ay rfl rfl rfl (.here) (.put (.put (.done))) rfl (List.cons_ne_nil _ _) Abk.2 ?_);refine Y3 ?_;refine Tj (γ:=Unit) hx90 (fun s3 y3=>[(2,.slice E4 p2.length G4),(5,.pointer (some ⟨g1,0,none⟩)),(7,.pointer (some ⟨g2,0,none⟩)),(11,.slice y0.1 s0.1.length y0.2),(13,.pointer (some ⟨g4,0,none⟩)),(23,.slice A6 r3.1.length c7),(24,iq (r3.1.length:Int)),(25,iq s0.2),(53,.bool s3)]) (fun s3 y3=>[.m g4 30 [iq x1.Id,iq x1.X,iq x1.Y,iq x1.Z.Lo,iq x1.Z.Hi,iq x1.Wide,iq x1.Num,iq x1.Of,iq x1.Class],.r y0.1 s0.1.length y0.2 30 9 (s0.1.flatMap Ai),.r A6 r3.1.length c7 30 9 (r3.1.flatMap Ai),.m g2 32 [iq p3.Cell,iq p3.Reach,iq p3.Slope,iq p3.Link,iq p3.Flat,iq p3.Tall,iq p3.High,iq p3.Low,iq p3.Brush,iq p3.Few],.m g1 26 [.slice E1 p1.V.length G1,.slice E2 p1.T.length G2,.slice E3 p1.Lines.length G3]]++[.old w]) (fun s3 y3=>True) (fun s3 y3 hx98 hG4=>?_) (fun j3 hx90=>?_)
      ·refine Jv (s:=53) rfl (fun h7=>?_) (fun h7=>?_)
       ·have hx10:=Io h7 hx98;refine Y3 ?_;refine At (Bo rfl (i:=0) rfl rfl Vg) rfl ?_;refine T_x (Bs rfl (Cu _ _ _ _ _ _ _ _ _) rfl (fun g6=>?_));obtain⟨h8,hx11⟩:=Bv hx10;refine T_h (Ho Ai s0.1 [x1] rfl rfl rfl Apm (fun _=>rfl) (i':=0) rfl rfl rfl rfl h8 rfl (fun _ _=>.there (.there (.here))) (fun _ _=>.drop .refl) dD (fun A2 c2=>?_));refine Y3 ?_;exact Mt (s0.1++[x1]) (A2,c2) hx11 trivial (by exact .pick 1 rfl (.pick 1 rfl (.pick 1 rfl (.pick 1 rfl (.drop 0 rfl (.refl))))))
       ·have hx12:=Nn h7 hx98;refine Y3 ?_;exact Mt s0.1 (y0.1,y0.2) hx12 trivial (by exact .pick 1 rfl (.pick 1 rfl (.pick 1 rfl (.pick 1 rfl (.drop 0 rfl (.refl))))))
      ·refine Y3 ?_;refine Jv (s:=45) rfl (fun h9=>?_) (fun h9=>?_)
       ·have hx93:=Io h9 hx90;refine Qv rfl rfl rfl (Bf rfl Ati rfl) rfl ?_;refine Qv rfl rfl rfl (Bd rfl (i:=4) rfl rfl one3) rfl ?_;refine Qv rfl rfl rfl (Bf rfl Afy rfl) rfl ?_;refine Qv rfl rfl rfl (Bd rfl (i:=0) rfl rfl one3) rfl ?_;refine Qv rfl rfl rfl (Bf rfl Atj rfl) rfl ?_;refine Qv rfl rfl rfl (Bd rfl (i:=4) rfl rfl one3) rfl ?_;obtain⟨r2,h95,hx96⟩:=Ao hx93;refine T_xG rfl rfl rfl (Br rfl (fun w1 hw1=>Ahx p3.Tall r1.1.Lo p3.High  h95 w1) rfl ?_);rintro _ _ hlo ⟨rfl,rfl,-⟩;refine Ya ?_;refine Y2 ?_;exact Mt r2 () hx96 trivial (by exact .pick 1 rfl (.pick 1 rfl (.pick 1 rfl (.pick 1 rfl (.pick 1 rfl (.drop 0 rfl (.refl)))))))
       ·have hx97:=Nn h9 hx90;refine Y9 ?_;exact Mt false () hx97 trivial (by exact .pick 1 rfl (.pick 1 rfl (.pick 1 rfl (.pick 1 rfl (.pick 1 rfl (.drop 0 rfl (.refl)))))))
    ·refine Y ?_;refine At (Bf rfl Anj rfl) rfl ?_;refine At (Bd rfl (i:=0) rfl rfl one3) rfl ?_;refine Y2 ?_;refine Xx (s:=32) rfl (fun h77=>?_) (fun h77=>?_)
     ·have hx78:=Yu h77 hx8;refine Y6 ?_;exact Mt true () hx78 trivial (by exact .pick 0 rfl (.pick 0 rfl (.pick 0 rfl (.pick 0 rfl (.pick 0 rfl (.refl))))))
     ·have hx79:=Io h77 hx8;refine Y ?_;refine Qv rfl rfl rfl (Bf rfl Afx rfl) rfl ?_;refine Qv rfl rfl rfl (Bd rfl (i:=0) rfl rfl one3) rfl ?_;obtain⟨r4,h81,hx82⟩:=Ao hx79;refine T_xG rfl rfl rfl (Br rfl (fun w1 hw1=>We p2 x1.Id (Has.len' ha4') h81 w1 (Ss (K:=K) (K2:=[]) hK (by exact (sb 5)) (by exact SubE.nil) hw1)) rfl ?_);rintro _ _ hlo ⟨rfl,rfl,-⟩;refine Ya ?_;refine Y2 ?_;exact Mt r4 () hx82 trivial (by exact .pick 0 rfl (.pick 0 rfl (.pick 0 rfl (.pick 0 rfl (.pick 0 rfl (.refl))))))
  ·refine Y3 ?_;obtain rfl:=Ii ht0 hx6;refine Y2 ?_;exact Mt s0.1 (y0.1,y0.2) ho0 trivial (by exact .pick 0 rfl (.drop 0 rfl (.drop 0 rfl (.drop 0 rfl (.refl)))))
instance(p0:List Aa)(p1:Aq)(p2:List Int)(p3:Ag):Con (Vp p0 p1 p2 p3) prog 104 (fun K vs=>∃ E0 G0 E1 G1 E2 G2 E3 G3 E4 G4,vs=[.slice E0 p0.length G0,.agg #[.slice E1 p1.V.length G1,.slice E2 p1.T.length G2,.slice E3 p1.Lines.length G3],.slice E4 p2.length G4,.agg #[iq p3.Cell,iq p3.Reach,iq p3.Slope,iq p3.Link,iq p3.Flat,iq p3.Tall,iq p3.High,iq p3.Low,iq p3.Brush,iq p3.Few]]/\Has K E0 p0.length G0 9 Ai p0/\Has K E1 p1.V.length G1 4 Ak p1.V/\Has K E2 p1.T.length G2 3 Ax p1.T/\Has K E3 p1.Lines.length G3 2 Ar p1.Lines/\Has K E4 p2.length G4 1 Af p2/\True) (fun _ r=>fun v Ln=>∃ A0 c0,v = .slice A0 r.length c0/\Ln=[.r A0 r.length c0 30 9 (r.flatMap Ai)]/\True):=⟨by
 rintro K _ r ⟨E0,G0,E1,G1,E2,G2,E3,G3,E4,G4,rfl,ha0,ha1,ha2,ha3,ha4,-⟩ hx w hK;exact Aku p0 p1 p2 p3 ha0 ha1 ha2 ha3 ha4 hx w hK⟩
instance(p0:List Int)(p1:Int):Con (Tt p0 p1) prog 156 (fun K vs=>∃ E0 G0,vs=[.slice E0 p0.length G0,iq p1]/\Has K E0 p0.length G0 1 Af p0/\True) (fun _ r=>fun v Ln=>v = iq r/\Ln=[]/\True):=⟨by
 rintro K _ r ⟨E0,G0,rfl,ha0,-⟩ hx w hK;replace ha0:=Has.lo ha0 hK;unfold Tt at hx;refine CtS ntmps156 results156 ?_;try (refine pre ?_;intros;rename_i hx)
 refine Bh ?_;try (refine pre ?_;intros;rename_i hx)
 apply Jr (γ:=Unit) hx [] (fun s2 y2 f=>(1,iq s2)::f) [999] (fun s2 y2 l=>l);exact kk
 ·intro s2 y2 hx;exact au
 ·intro _ hx;try (refine pre ?_;intros;rename_i hx)
  apply Lr (γ:=Unit) hx [0] (fun s0 y0 f=>(1,iq s0)::f) [999] (fun s0 y0 l=>l) ();exact kk;exact sk;intro s0 y0 x0 hx _;unfold Td at hx;exact au⟩
instance(p0:List Aa)(p1:Ag):Con (Sj p0 p1) prog 105 (fun K vs=>∃ E0 G0,vs=[.slice E0 p0.length G0,.agg #[iq p1.Cell,iq p1.Reach,iq p1.Slope,iq p1.Link,iq p1.Flat,iq p1.Tall,iq p1.High,iq p1.Low,iq p1.Brush,iq p1.Few]]/\Has K E0 p0.length G0 9 Ai p0/\True) (fun _ r=>fun v Ln=>∃ A0 c0,v = .slice A0 r.length c0/\Ln=[.r A0 r.length c0 3 1 (r.flatMap Af)]/\True):=⟨by
 rintro K _ r ⟨E0,G0,rfl,ha0,-⟩ hx w hK;replace ha0:=Has.lo ha0 hK;unfold Sj at hx;have:=dl 16 [0,0,1,0,0,0,0,1,2,2] [0,1,2,3,4,5,6,7,8,9];have:=dl 17 [0,0,0,1,0,0,0,1,0,1,2,0,0,0,0,0,0,1,0,0,0,0,1,2,0,1,0,0] [0,1,2,3,4,5,6,7,8,9,10,11,12,13,14,15,16,17,18,19,20,21,22,24,25,23,26,27];refine CtS ntmps105 results105 ?_;try (refine pre ?_;intros;rename_i hx)
 apply Jr (γ:=Option Addr × Nat) hx [0,3] (fun s3 y3 f=>(5,.slice y3.1 s3.length y3.2)::f) [1,999] (fun s3 y3 l=>.r y3.1 s3.length y3.2 3 1 (s3.flatMap Af)::l);exact kk
 ·intro s3 y3 hx;try (refine pre ?_;intros;rename_i hx)
  refine Cq2 (s:=36) hx rfl (fun _ hx=>?_) (fun _ hx=>?_)
  ·exact au
  ·try (refine pre ?_;intros;rename_i hx)
   apply Jr (γ:=Option Addr × Nat) hx [] (fun s0 y0 f=>(5,.slice y0.1 s0.length y0.2)::f) [999] (fun s0 y0 l=>.r y0.1 s0.length y0.2 3 1 (s0.flatMap Af)::l);exact kk
   ·intro s0 y0 hx;apply Jr (γ:=Option Addr × Nat) hx [] (fun s1 y1 f=>(5,.slice y1.1 s1.length y1.2)::f) [999] (fun s1 y1 l=>.r y1.1 s1.length y1.2 3 1 (s1.flatMap Af)::l);exact kk
    ·intro s1 y1 hx;exact au
    ·intro _ hx;try (refine pre ?_;intros;rename_i hx)
     apply Lr (γ:=Option Addr × Nat) hx [101] (fun s2 y2 f=>(5,.slice y2.1 s2.1.length y2.2)::(102,iq s2.2)::f) [999] (fun s2 y2 l=>.r y2.1 s2.1.length y2.2 3 1 (s2.1.flatMap Af)::l) (_,_);exact kk;exact sk;intro s2 y2 x0 hx _;unfold Ol at hx;exact au
   ·intro _ hx;try (refine pre ?_;intros;rename_i hx)
    apply Lr (γ:=Option Addr × Nat) hx [0,3,39,40] (fun s4 y4 f=>(5,.slice y4.1 s4.1.length y4.2)::(41,iq s4.2)::f) [2,5,999] (fun s4 y4 l=>.r y4.1 s4.1.length y4.2 3 1 (s4.1.flatMap Af)::l) (_,_);exact kk;exact sk;intro s4 y4 x1 hx _;unfold Ok at hx;try (refine pre ?_;intros;rename_i hx)
    refine Cq1 (s:=42) hx rfl (fun _ hx=>?_) (fun _ hx=>?_)
    ·try (refine pre ?_;intros;rename_i hx)
     apply Jr (γ:=Option Addr × Nat) hx [0,3,39,40,41] (fun s5 y5 f=>(5,.slice y5.1 s5.length y5.2)::f) [1,2,999] (fun s5 y5 l=>.r y5.1 s5.length y5.2 3 1 (s5.flatMap Af)::l);exact kk
     ·intro s5 y5 hx;exact au
     ·intro _ hx;try (refine pre ?_;intros;rename_i hx)
      apply Lr (γ:=Option Addr × Nat) hx [0,3,10,39,40,41] (fun s6 y6 f=>(5,.slice y6.1 s6.1.length y6.2)::(45,iq s6.2)::f) [0,2,3,999] (fun s6 y6 l=>.r y6.1 s6.1.length y6.2 3 1 (s6.1.flatMap Af)::l) (_,_);exact kk;exact sk;intro s6 y6 x2 hx _;unfold Oj at hx;try (refine pre ?_;intros;rename_i hx)
      refine Cq1 (s:=46) hx rfl (fun _ hx=>?_) (fun _ hx=>?_)
      ·try (refine pre ?_;intros;rename_i hx)
       apply Jr (γ:=Option Addr × Nat) hx [0,3,10,39,40,41,45] (fun s7 y7 f=>(5,.slice y7.1 s7.length y7.2)::f) [1,2,3,999] (fun s7 y7 l=>.r y7.1 s7.length y7.2 3 1 (s7.flatMap Af)::l);exact kk
       ·intro s7 y7 hx;exact au
       ·intro _ hx;try (refine pre ?_;intros;rename_i hx)
        refine Bh ?_;try (refine pre ?_;intros;rename_i hx)
        apply Jr (γ:=Unit) hx [0,3,5,10,12,13,39,40,41,45] (fun s8 y8 f=>(83,.bool s8)::f) [1,2,0,3,999] (fun s8 y8 l=>l);exact kk
        ·intro s8 y8 hx;exact au
        ·intro _ hx;exact au
      ·exact au
    ·exact au
 ·intro _ hx;try (refine pre ?_;intros;rename_i hx)
  apply Lr (γ:=Option Addr × Nat) hx [0,3,21] (fun s9 y9 f=>(5,.slice y9.1 s9.1.length y9.2)::(22,iq s9.2)::f) [1,999] (fun s9 y9 l=>.r y9.1 s9.1.length y9.2 3 1 (s9.1.flatMap Af)::l) (_,_);exact kk;exact sk;intro s9 y9 x3 hx _;unfold Qc at hx;exact au⟩
instance(p0:List Aa)(p1:Aq)(p2:List Int)(p3:Ag):Con (Uf p0 p1 p2 p3) prog 52 (fun K vs=>∃ E0 G0 E1 G1 E2 G2 E3 G3 E4 G4,vs=[.slice E0 p0.length G0,.agg #[.slice E1 p1.V.length G1,.slice E2 p1.T.length G2,.slice E3 p1.Lines.length G3],.slice E4 p2.length G4,.agg #[iq p3.Cell,iq p3.Reach,iq p3.Slope,iq p3.Link,iq p3.Flat,iq p3.Tall,iq p3.High,iq p3.Low,iq p3.Brush,iq p3.Few]]/\Has K E0 p0.length G0 9 Ai p0/\Has K E1 p1.V.length G1 4 Ak p1.V/\Has K E2 p1.T.length G2 3 Ax p1.T/\Has K E3 p1.Lines.length G3 2 Ar p1.Lines/\Has K E4 p2.length G4 1 Af p2/\True) (fun _ r=>fun v Ln=>∃ A0 c0,v = .slice A0 r.length c0/\Ln=[.r A0 r.length c0 3 1 (r.flatMap Af)]/\True):=⟨by
 rintro K _ r ⟨E0,G0,E1,G1,E2,G2,E3,G3,E4,G4,rfl,ha0,ha1,ha2,ha3,ha4,-⟩ hx w hK;replace ha0:=Has.lo ha0 hK;replace ha1:=Has.lo ha1 hK;replace ha2:=Has.lo ha2 hK;replace ha3:=Has.lo ha3 hK;replace ha4:=Has.lo ha4 hK;unfold Uf at hx;have:=dl 13 [0,0,0,0,1,0,1,0,1,0] [0,1,2,3,4,5,6,7,8,9];refine CtS ntmps52 results52 ?_;try (refine pre ?_;intros;rename_i hx)
 apply Jr (γ:=Option Addr × Nat) hx [7,9,10] (fun s5 y5 f=>(11,.slice y5.1 s5.length y5.2)::f) [1,2,3,999] (fun s5 y5 l=>.r y5.1 s5.length y5.2 3 1 (s5.flatMap Af)::l);exact kk
 ·intro s5 y5 hx;try (refine pre ?_;intros;rename_i hx)
  refine Bh ?_;try (refine pre ?_;intros;rename_i hx)
  apply Jr (γ:=Option Addr × Nat) hx [] (fun s0 y0 f=>(14,.slice y0.1 s0.length y0.2)::f) [999] (fun s0 y0 l=>.r y0.1 s0.length y0.2 30 9 (s0.flatMap Ai)::l);exact kk
  ·intro s0 y0 hx;exact au
  ·intro _ hx;try (refine pre ?_;intros;rename_i hx)
   refine Bi 30 9 ?_;apply Lr (γ:=Option Addr × Nat) hx [7,10,11,41,42] (fun s1 y1 f=>(14,.slice y1.1 s1.1.length y1.2)::(43,iq s1.2)::f) [1,2,3,4,999] (fun s1 y1 l=>.r y1.1 s1.1.length y1.2 30 9 (s1.1.flatMap Ai)::l) (_,_);exact kk;exact sk;intro s1 y1 x0 hx _;unfold Qd at hx;exact au
 ·intro _ hx;try (refine pre ?_;intros;rename_i hx)
  apply Lr (γ:=Option Addr × Nat) hx [7,9,10,28,29] (fun s2 y2 f=>(11,.slice y2.1 s2.1.length y2.2)::(30,iq s2.2)::f) [1,2,3,999] (fun s2 y2 l=>.r y2.1 s2.1.length y2.2 3 1 (s2.1.flatMap Af)::l) (_,_);exact kk;exact sk;intro s2 y2 x1 hx _;unfold Om at hx;exact au⟩
instance(p0:List Aa)(p1:List Int)(p2:Ag):Con (Wf p0 p1 p2) prog 21 (fun K vs=>∃ E0 G0 E1 G1,vs=[.slice E0 p0.length G0,.slice E1 p1.length G1,.agg #[iq p2.Cell,iq p2.Reach,iq p2.Slope,iq p2.Link,iq p2.Flat,iq p2.Tall,iq p2.High,iq p2.Low,iq p2.Brush,iq p2.Few]]/\Has K E0 p0.length G0 9 Ai p0/\Has K E1 p1.length G1 1 Af p1/\True) (fun _ r=>fun v Ln=>∃ A0 c0,v = .tuple #[.slice A0 r.1.length c0,iq r.2]/\Ln=[.r A0 r.1.length c0 3 1 (r.1.flatMap Af)]/\True):=⟨by
 rintro K _ r ⟨E0,G0,E1,G1,rfl,ha0,ha1,-⟩ hx w hK;replace ha0:=Has.lo ha0 hK;replace ha1:=Has.lo ha1 hK;unfold Wf at hx;refine CtS ntmps21 results21 ?_;exact au⟩
open Go.Maps (Keyed)
section
variable {κ υ:Type}
def MapK(K:List Ent)(P:Program)(k:TypeId)(ke:κ->Value)(ve:υ->Value)(g:Nat)(m:List (κ × υ)):Prop:=∀ w,(∀ e∈K,Ent.ok w e)->Aar P k ke ve g m w
variable {P:Program} {k:TypeId} {ke:κ->Value} {ve:υ->Value} {g:Nat} {m:List (κ × υ)} {K E:List Ent} {w:World}
theorem MapK.m0(h:Bb P k ke ve g m∈K):MapK K P k ke ve g m:=fun w hw=>Rl w (hw _ h)
variable {n:Nat} {fr:List (Nat × Value)} {L:List Ent} {dst:Option Tmp} {ty:TypeId} {pos:String} {after:Array Edge} {guard:Option (Nat × Bool)} {K':List Ent}
end
section
variable {P:Program} {n:Nat} {N:Act->World->Prop} {Q:Exit->Act->World->Prop} {fr:List (Nat × Value)} {L:List Ent}
end
end Go.Proofs.YthlkpgdfifnagaaGreat
namespace Go.Proofs.YthlkpgdfifnagaaGreat
open Go Go.RowKit Tryz
instance:Bz prog 139 2 13:=⟨.mk underlying139 rfl rfl (show prog.info? 136=some t136 from by kernel_rfl) (show t136.size=1 from by kernel_rfl) rfl⟩
instance:OneI prog 136:=⟨.mk underlying136 rfl (show prog.info? 136=some t136 from by kernel_rfl) kr⟩
instance:Bz prog 139 3 14:=⟨.mk underlying139 rfl rfl (show prog.info? 136=some t136 from by kernel_rfl) (show t136.size=1 from by kernel_rfl) rfl⟩
instance:Bz prog 139 1 10:=⟨.mk underlying139 rfl rfl (show prog.info? 26=some t26 from by kernel_rfl) (show t26.size=3 from by kernel_rfl) rfl⟩
instance:Bz prog 139 0 0:=⟨.mk underlying139 rfl rfl (show prog.info? 32=some t32 from by kernel_rfl) (show t32.size=10 from by kernel_rfl) rfl⟩
instance:Bz prog 139 4 15:=⟨.mk underlying139 rfl rfl (show prog.info? 136=some t136 from by kernel_rfl) (show t136.size=1 from by kernel_rfl) rfl⟩
structure S_label_classifier where
 r:Ag
 m:Aq
 sunk:List (Int × Bool)
 ground:List (Int × Bool)
 roof:List (Int × Bool)
theorem Axt  : Gd prog 41 0 [] 30 []:=fun w=>kr
instance:Bz prog 30 7 8:=⟨.mk underlying30 rfl rfl (show prog.info? 3=some Tryz.t3 from by kernel_rfl) (show Tryz.t3.size=1 from by kernel_rfl) rfl⟩
noncomputable def Abj(p0:List Aa):Option (List Aa):=gd (p0.length*72<=140737488355328) <| some p0
theorem Ael(p0:List Aa){K:List Ent}{E0:Option Addr}{G0:Nat}(ha0:Has K E0 p0.length G0 9 Ai p0){r:List Aa}(hx:Abj p0=some r)(w:World)(hK:∀ e∈K,Ent.ok w e):
  CtL prog 59 [.slice E0 p0.length G0] w (fun v Ln=>∃ (A0:Option Addr) (c0:Nat),v = .slice A0 r.length c0/\Ln=[.r A0 r.length c0 30 9 (r.flatMap Ai)]/\True):=by
 obtain⟨hb,hx⟩:=Bv hx;obtain rfl:=Option.some.inj hx;have ha:Has [.old w] E0 p0.length G0 9 Ai p0:=Has.low (E:=[]) (by rw[List.append_nil];exact ha0) hK;refine CtL.mk 8 func59 rfl ntmps59 kr rfl ?_;show T 8 _ [(0,.slice E0 p0.length G0)] _;refine Y9 ?_;refine At (Af9 underlying41 rfl rfl) rfl ?_;refine Y2 ?_;cases hA:E0 with
 | none=>
  subst hA;have h0:p0=[]:=by
   cases p0 with
   | nil=>rfl
   | cons x r=>obtain⟨b,o,h,_⟩:=ha.at_ s_;cases h
  subst h0;refine Y8 ?_;refine Bi 30 9 ?_;exact Df (rs:=[.tmp 2]) results59 (.tmp rfl .nil) (Ln:=[.r none 0 0 30 9 []]) ⟨none,0,rfl,rfl,trivial⟩ (Bj rfl Cr) (.pick 0 rfl (.pick 0 rfl .refl))
 | some a=>
  subst hA;refine Y5 ?_;refine T_x (Bs rfl Axt rfl (fun g5=>?_));refine Y ?_;refine T_mr (enc:=Ai) (sz:=9) (([]:List Aa)) (.here) rfl rfl (fun _=>rfl) dD ?_;refine T_h (Vm Ai ([]:List Aa) p0 rfl rfl Apm (fun _=>rfl) ha (sb 1) (fun _=>rfl) (by rw[List.length_nil,Nat.zero_add];exact hb) rfl (fun _ _=>.here) dD (fun A1 c1=>?_));refine Y4 ?_;exact Df (rs:=[.tmp 2]) results59 (.tmp rfl .nil) (Ln:=[.r A1 p0.length c1 30 9 (p0.flatMap Ai)]) ⟨A1,c1,rfl,rfl,trivial⟩ (Bj rfl Cr) (.pick 0 rfl (.pick 0 rfl .refl))
instance(p0:List Aa):Con (Abj p0) prog 59 (fun K vs=>∃ E0 G0,vs=[.slice E0 p0.length G0]/\Has K E0 p0.length G0 9 Ai p0/\True) (fun _ r=>fun v Ln=>∃ A0 c0,v = .slice A0 r.length c0/\Ln=[.r A0 r.length c0 30 9 (r.flatMap Ai)]/\True):=⟨by rintro K _ r ⟨A,c,rfl,ha,-⟩ hx w hK;exact Ael p0 ha hx w hK⟩
end Go.Proofs.YthlkpgdfifnagaaGreat
