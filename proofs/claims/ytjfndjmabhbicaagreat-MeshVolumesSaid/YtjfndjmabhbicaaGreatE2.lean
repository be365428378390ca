/- Walks of the program, with their plain functions: the references on lines and triangles. -/
import Derived.Test.YtjfndjmabhbicaaGreatEs
namespace Go.Proofs.YtjfndjmabhbicaaGreat
open Go Go.RowKit
theorem Ve (x0:Int) (x1:Int):De Tryz.prog 48 2 [(0,.int .i64 x0),(1,.int .i64 x1)] 3 [.int .i64 x0,.int .i64 x1]:=fun w=>by kernel_rfl
instance (x0:Int) (x1:Int):Of Tryz.prog 48 2 [(0,.int .i64 x0),(1,.int .i64 x1)] 3 [.int .i64 x0,.int .i64 x1]:=⟨Ve _ _⟩
noncomputable def Jm (p0:Ac) (p1:Ac) (p2:Ac) (p3:Ac):Option Bool :=
 jn (fun (s2:Bool)=>
 some s2)
 (fun j2=>bnd (Ch p0 p1 p2) fun r5=>
 bnd (Ch p0 p1 p3) fun r8=>
 if (w64 (r5*r8)) < 0 then (bnd (Ch p2 p3 p0) fun r0=>
 bnd (Ch p2 p3 p1) fun r1=>
 j2 (decide ((w64 (r0*r1)) < 0)))
 else (j2 false))
noncomputable def Cp (s0:Int) (p1:List Aa):Int->Option (Sum Int (Sum Unit Int)):=fun s1=>
 if s1 < s0 then (jn (fun (s2:Bool)=>
 if s2=true then (some (.inr (.inr (62))))
 else (some (.inl (w64 (s1+1)))))
 (fun j0=>bnd (idx p1 s0) fun x0=>
 bnd (idx p1 s1) fun x1=>
 if ((((x0.a0) == (x1.a0)) && (((x0.a1) == (x1.a1)) && true)))=true then (j0 true)
 else (bnd (idx p1 s0) fun x2=>
 bnd (idx p1 s1) fun x3=>
 if x2.a0=x3.a1 then (bnd (idx p1 s0) fun x4=>
 bnd (idx p1 s1) fun x5=>
 j0 (decide (x4.a1=x5.a0)))
 else (j0 false))))
 else (some (.inr (.inl ())))
noncomputable def Fb (p1:List Aa) (p0:List Ab):Int->Option (Sum Int (Sum Unit Int)):=fun s0=>
 if s0 < ((((p1).length:Nat):Int)) then (jn (fun (s1:Unit)=>
 some (.inl (w64 (s0+1))))
 (fun j0=>jn (fun (s2:Bool)=>
 if s2=true then (some (.inr (.inr (62))))
 else (bnd (lfix (Cp s0 p1) 0) fun t0=>
 (match t0 with
 | (.inl z0)=>j0 z0
 | (.inr (z0))=>some (.inr (.inr (z0)))
 )))
 (fun j1=>bnd (idx p1 s0) fun x0=>
 if x0.a0 < 0 then (j1 true)
 else (bnd (idx p1 s0) fun x1=>
 if ((((p0).length:Nat):Int))<=x1.a0 then (j1 true)
 else (bnd (idx p1 s0) fun x2=>
 if x2.a1 < 0 then (j1 true)
 else (bnd (idx p1 s0) fun x3=>
 if ((((p0).length:Nat):Int))<=x3.a1 then (j1 true)
 else (bnd (idx p1 s0) fun x4=>
 bnd (idx p1 s0) fun x5=>
 j1 (decide (x4.a0=x5.a1)))))))))
 else (some (.inr (.inl ())))
noncomputable def Cf (p0:List Ab) (p1:List Aa) (s0:Int) (r0:Ac) (r1:Ac):Int->Option (Sum Int (Sum Unit Int)):=fun s1=>
 if s1 < ((((p0).length:Nat):Int)) then (jn (fun (s2:Bool)=>
 if s2=true then (some (.inr (.inr (63))))
 else (some (.inl (w64 (s1+1)))))
 (fun j0=>bnd (idx p1 s0) fun x0=>
 if s1=x0.a0 then (j0 false)
 else (bnd (idx p1 s0) fun x1=>
 if s1=x1.a1 then (j0 false)
 else (bnd (idx p0 s1) fun x2=>
 bnd (Aj (⟨x2.X,x2.Y,(⟨x2.Z.Lo,x2.Z.Hi⟩:Al)⟩:Ab)) fun r2=>
 bnd (Hb r0 r1 r2) fun r3=>
 j0 r3))))
 else (some (.inr (.inl ())))
noncomputable def Cg (s0:Int) (p1:List Aa) (p0:List Ab) (r0:Ac) (r1:Ac):Int->Option (Sum Int (Sum Unit Int)):=fun s1=>
 if s1 < s0 then (bnd (idx p1 s1) fun x0=>
 bnd (idx p0 x0.a0) fun x1=>
 bnd (idx p1 s1) fun x2=>
 bnd (idx p0 x2.a1) fun x3=>
 bnd (Aj (⟨x1.X,x1.Y,(⟨x1.Z.Lo,x1.Z.Hi⟩:Al)⟩:Ab)) fun r2=>
 bnd (Aj (⟨x3.X,x3.Y,(⟨x3.Z.Lo,x3.Z.Hi⟩:Al)⟩:Ab)) fun r3=>
 bnd (Jm r0 r1 r2 r3) fun r4=>
 if r4=true then (some (.inr (.inr (63))))
 else (some (.inl (w64 (s1+1)))))
 else (some (.inr (.inl ())))
noncomputable def Ej (p1:List Aa) (p0:List Ab):Int->Option (Sum Int (Sum Unit Int)):=fun s0=>
 if s0 < ((((p1).length:Nat):Int)) then (jn (fun (s1:Unit)=>
 some (.inl (w64 (s0+1))))
 (fun j0=>bnd (idx p1 s0) fun x0=>
 bnd (idx p0 x0.a0) fun x1=>
 bnd (idx p1 s0) fun x2=>
 bnd (idx p0 x2.a1) fun x3=>
 bnd (Aj (⟨x1.X,x1.Y,(⟨x1.Z.Lo,x1.Z.Hi⟩:Al)⟩:Ab)) fun r0=>
 bnd (Aj (⟨x3.X,x3.Y,(⟨x3.Z.Lo,x3.Z.Hi⟩:Al)⟩:Ab)) fun r1=>
 jn (fun (s2:Unit)=>
 bnd (lfix (Cg s0 p1 p0 r0 r1) 0) fun t0=>
 (match t0 with
 | (.inl z0)=>j0 z0
 | (.inr (z0))=>some (.inr (.inr (z0)))
 ))
 (fun j1=>bnd (lfix (Cf p0 p1 s0 r0 r1) 0) fun t1=>
 (match t1 with
 | (.inl z1)=>j1 z1
 | (.inr (z1))=>some (.inr (.inr (z1)))
 ))))
 else (some (.inr (.inl ())))
noncomputable def Gx (p0:List Ab) (p1:List Aa):Option Int :=
 jn (fun (s2:Unit)=>
 jn (fun (s0:Unit)=>
 some 0)
 (fun j0=>bnd (lfix (Ej p1 p0) 0) fun t0=>
 (match t0 with
 | (.inl z0)=>j0 z0
 | (.inr (z0))=>some z0
 )))
 (fun j2=>bnd (lfix (Fb p1 p0) 0) fun t1=>
 (match t1 with
 | (.inl z1)=>j2 z1
 | (.inr (z1))=>some z1
 ))
noncomputable def Jn (p0:List Ab) (p1:List Aa):Option Int :=
 bnd (Il p0) fun r1=>
 if r1=0 then (bnd (Gx p0 p1) fun r7=>
 some r7)
 else (some r1)
noncomputable def Jy (p1:List Aa) (p0:List Ab) (p2:Int) (p3:Int):Int->Option (Sum Int (Sum Unit Bool)):=fun s0=>
 if s0 < ((((p1).length:Nat):Int)) then (bnd (idx p1 s0) fun x0=>
 bnd (idx p0 p2) fun x1=>
 bnd (idx p0 p3) fun x2=>
 bnd (idx p0 x0.a0) fun x3=>
 bnd (idx p0 x0.a1) fun x4=>
 bnd (Aj (⟨x1.X,x1.Y,(⟨x1.Z.Lo,x1.Z.Hi⟩:Al)⟩:Ab)) fun r0=>
 bnd (Aj (⟨x2.X,x2.Y,(⟨x2.Z.Lo,x2.Z.Hi⟩:Al)⟩:Ab)) fun r1=>
 bnd (Aj (⟨x3.X,x3.Y,(⟨x3.Z.Lo,x3.Z.Hi⟩:Al)⟩:Ab)) fun r2=>
 bnd (Aj (⟨x4.X,x4.Y,(⟨x4.Z.Lo,x4.Z.Hi⟩:Al)⟩:Ab)) fun r3=>
 bnd (Jm r0 r1 r2 r3) fun r4=>
 if r4=true then (some (.inr (.inr (false))))
 else (some (.inl (w64 (s0+1)))))
 else (some (.inr (.inl ())))
noncomputable def Kt (p0:List Ab) (p1:List Aa) (p2:Int) (p3:Int):Option Bool :=
 jn (fun (s2:Unit)=>
 some true)
 (fun j2=>bnd (lfix (Jy p1 p0 p2 p3) 0) fun t0=>
 (match t0 with
 | (.inl z0)=>j2 z0
 | (.inr (z0))=>some z0
 ))
noncomputable def Jz (s0:List Int) (x0:Int):(Bool × Int)->Option (Sum (Bool × Int) Bool):=fun s1=>
 if s1.2 < ((((s0).length:Nat):Int)) then (jn (fun (s2:Bool)=>
 some (.inl (s2,w64 (s1.2+1))))
 (fun j0=>bnd (idx s0 s1.2) fun x1=>
 if s1.1=true then (j0 true)
 else (j0 (decide (x1=x0)))))
 else (some (.inr s1.1))
noncomputable def Ka (p3:List Int) (p0:List Ab) (p1:Int) (s0:List Int):(Int × Int)->Option (Sum (Int × Int) Int):=fun s1=>
 if s1.2 < ((((p3).length:Nat):Int)) then (jn (fun (s2:Int)=>
 some (.inl (s2,w64 (s1.2+1))))
 (fun j0=>bnd (idx p3 s1.2) fun x0=>
 jn (fun (s3:Bool)=>
 jn (fun (s4:Bool)=>
 if s4=true then (j0 x0)
 else (j0 s1.1))
 (fun j1=>if s3=true then (j1 false)
 else (if s1.1 < 0 then (j1 true)
 else (bnd (idx p0 p1) fun x1=>
 bnd (idx p0 x0) fun x2=>
 bnd (idx p0 s1.1) fun x3=>
 bnd (Aj (⟨x1.X,x1.Y,(⟨x1.Z.Lo,x1.Z.Hi⟩:Al)⟩:Ab)) fun r0=>
 bnd (Aj (⟨x2.X,x2.Y,(⟨x2.Z.Lo,x2.Z.Hi⟩:Al)⟩:Ab)) fun r1=>
 bnd (Aj (⟨x3.X,x3.Y,(⟨x3.Z.Lo,x3.Z.Hi⟩:Al)⟩:Ab)) fun r2=>
 bnd (Ch r0 r1 r2) fun r3=>
 j1 (decide (0 < r3))))))
 (fun j2=>bnd (lfix (Jz s0 x0) (false,0)) fun t0=>
 j2 t0)))
 else (some (.inr s1.1))
noncomputable def Mx (p3:List Int) (p0:List Ab) (p1:Int):(List Int)->Option (Sum (List Int) (List Int)):=fun s0=>
 if ((((s0).length:Nat):Int)) < (w64 (((((p3).length:Nat):Int))+2)) then (jn (fun (s1:Int)=>
 gd (((s0).length+1)*8<=140737488355328) <|
 some (.inl (s0++[s1])))
 (fun j0=>bnd (lfix (Ka p3 p0 p1 s0) (-1,0)) fun t0=>
 j0 t0))
 else (some (.inr s0))
noncomputable def Nk (p0:List Ab) (p1:Int) (p2:Int) (p3:List Int):Option (List Int) :=
 jn (fun (s3:List Int)=>
 some s3)
 (fun j3=>bnd (lfix (Mx p3 p0 p1) ([p1,p2])) fun t0=>
 j3 t0)
noncomputable def Iq (s0:List Int) (p0:List Ab):(Int × Int)->Option (Sum (Int × Int) Int):=fun s1=>
 if s1.2 < ((((s0).length:Nat):Int)) then (jn (fun (s2:Int)=>
 some (.inl (s2,w64 (s1.2+1))))
 (fun j0=>bnd (idx s0 s1.2) fun x0=>
 bnd (idx p0 x0) fun x1=>
 bnd (idx s0 s1.1) fun x2=>
 bnd (idx p0 x2) fun x3=>
 bnd (Aj (⟨x1.X,x1.Y,(⟨x1.Z.Lo,x1.Z.Hi⟩:Al)⟩:Ab)) fun r0=>
 bnd (Aj (⟨x3.X,x3.Y,(⟨x3.Z.Lo,x3.Z.Hi⟩:Al)⟩:Ab)) fun r1=>
 bnd (Fz r0 r1) fun r2=>
 if r2=true then (j0 s1.2)
 else (j0 s1.1)))
 else (some (.inr s1.1))
noncomputable def Hw (s0:List Int) (s1:Int):((List Int) × Int)->Option (Sum ((List Int) × Int) (List Int)):=fun s2=>
 if s2.2 < ((((s0).length:Nat):Int)) then (jn (fun (s3:List Int)=>
 some (.inl (s3,w64 (s2.2+1))))
 (fun j0=>if s2.2=s1 then (j0 s2.1)
 else (bnd (idx s0 s2.2) fun x0=>
 gd (((s2.1).length+1)*8<=140737488355328) <|
 j0 (s2.1++[x0]))))
 else (some (.inr s2.1))
noncomputable def En (p2:Int) (p1:Int) (p0:List Ab):(List Int)->Option (Sum (List Int) (Sum (List Int) Int)):=fun s0=>
 if 3 < ((((s0).length:Nat):Int)) then (jn (fun (s1:Int)=>
 gd (((((s0).length:Nat):Int))≠0) <|
 bnd (idx s0 (Int.tmod (w64 ((w64 (s1+((((s0).length:Nat):Int))))-1)) ((((s0).length:Nat):Int)))) fun x0=>
 gd (((((s0).length:Nat):Int))≠0) <|
 bnd (idx s0 (Int.tmod (w64 (s1+1)) ((((s0).length:Nat):Int)))) fun x1=>
 jn (fun (s2:Bool)=>
 if s2=true then (some (.inr (.inr (x0))))
 else (jn (fun (s3:Bool)=>
 if s3=true then (some (.inr (.inr (x1))))
 else (jn (fun (s4:List Int)=>
 some (.inl s4))
 (fun j0=>bnd (lfix (Hw s0 s1) (([]:List Int),0)) fun t0=>
 j0 t0)))
 (fun j1=>bnd (idx s0 s1) fun x2=>
 if x2=p2 then (j1 (decide (x0=p1)))
 else (j1 false))))
 (fun j2=>bnd (idx s0 s1) fun x3=>
 if x3=p1 then (j2 (decide (x1=p2)))
 else (j2 false)))
 (fun j3=>bnd (lfix (Iq s0 p0) (0,0)) fun t1=>
 j3 t1))
 else (some (.inr (.inl s0)))
noncomputable def Da (s2:List Int) (p1:Int) (p2:Int):Int->Option (Sum Int (Sum Unit Int)):=fun s0=>
 if s0 < ((((s2).length:Nat):Int)) then (bnd (idx s2 s0) fun x0=>
 jn (fun (s1:Bool)=>
 if s1=true then (some (.inr (.inr (x0))))
 else (some (.inl (w64 (s0+1)))))
 (fun j0=>if x0=p1 then (j0 false)
 else (j0 (!(decide (x0=p2))))))
 else (some (.inr (.inl ())))
noncomputable def Jo (p0:List Ab) (p1:Int) (p2:Int) (p3:List Int):Option Int :=
 jn (fun (s2:List Int)=>
 jn (fun (s0:Unit)=>
 some (-1))
 (fun j0=>bnd (lfix (Da s2 p1 p2) 0) fun t0=>
 (match t0 with
 | (.inl z0)=>j0 z0
 | (.inr (z0))=>some z0
 )))
 (fun j2=>bnd (lfix (En p2 p1 p0) p3) fun t1=>
 (match t1 with
 | (.inl z1)=>j2 z1
 | (.inr (z1))=>some z1
 ))
noncomputable def Kb (p0:List Ab) (p2:Int) (p3:Int) (p1:List Aa):((List Int) × Int)->Option (Sum ((List Int) × Int) (List Int)):=fun s0=>
 if s0.2 < ((((p0).length:Nat):Int)) then (jn (fun (s1:List Int)=>
 some (.inl (s1,w64 (s0.2+1))))
 (fun j0=>jn (fun (s2:Bool)=>
 if s2=true then (j0 s0.1)
 else (if ((((s0.1).length:Nat):Int))=0 then (j0 ([s0.2]))
 else (bnd (idx p0 p2) fun x0=>
 bnd (idx p0 p3) fun x1=>
 bnd (idx s0.1 0) fun x2=>
 bnd (idx p0 x2) fun x3=>
 bnd (idx p0 s0.2) fun x4=>
 bnd (Aj (⟨x0.X,x0.Y,(⟨x0.Z.Lo,x0.Z.Hi⟩:Al)⟩:Ab)) fun r0=>
 bnd (Aj (⟨x1.X,x1.Y,(⟨x1.Z.Lo,x1.Z.Hi⟩:Al)⟩:Ab)) fun r1=>
 bnd (Aj (⟨x3.X,x3.Y,(⟨x3.Z.Lo,x3.Z.Hi⟩:Al)⟩:Ab)) fun r2=>
 bnd (Aj (⟨x4.X,x4.Y,(⟨x4.Z.Lo,x4.Z.Hi⟩:Al)⟩:Ab)) fun r3=>
 bnd (Ky r0 r1 r2 r3) fun r4=>
 if r4=1 then (j0 ([s0.2]))
 else (if r4=0 then (gd (((s0.1).length+1)*8<=140737488355328) <|
 j0 (s0.1++[s0.2]))
 else (j0 s0.1)))))
 (fun j1=>bnd (idx p0 p2) fun x5=>
 bnd (idx p0 p3) fun x6=>
 bnd (idx p0 s0.2) fun x7=>
 bnd (Aj (⟨x5.X,x5.Y,(⟨x5.Z.Lo,x5.Z.Hi⟩:Al)⟩:Ab)) fun r5=>
 bnd (Aj (⟨x6.X,x6.Y,(⟨x6.Z.Lo,x6.Z.Hi⟩:Al)⟩:Ab)) fun r6=>
 bnd (Aj (⟨x7.X,x7.Y,(⟨x7.Z.Lo,x7.Z.Hi⟩:Al)⟩:Ab)) fun r7=>
 bnd (Ch r5 r6 r7) fun r8=>
 if r8<=0 then (j1 true)
 else (bnd (Kt p0 p1 p2 s0.2) fun r9=>
 if r9=true then (bnd (Kt p0 p1 p3 s0.2) fun r10=>
 j1 (!(r10)))
 else (j1 true)))))
 else (some (.inr s0.1))
noncomputable def Nl (p0:List Ab) (p1:List Aa) (p2:Int) (p3:Int):Option Int :=
 jn (fun (s3:List Int)=>
 if ((((s3).length:Nat):Int))=0 then (some (-1))
 else (bnd (Nk p0 p2 p3 s3) fun r0=>
 bnd (Jo p0 p2 p3 r0) fun r1=>
 some r1))
 (fun j3=>bnd (lfix (Kb p0 p2 p3 p1) (([]:List Int),0)) fun t0=>
 j3 t0)
set_option maxHeartbeats 1000000 in
set_option maxRecDepth 100000 in
instance lidarref06_cross_c (p0:Ac) (p1:Ac) (p2:Ac) (p3:Ac):Con (Jm p0 p1 p2 p3) Tryz.prog 181 (fun _ vs=>vs=[.agg #[.int .i64 (p0.X),.int .i64 (p0.Y)],.agg #[.int .i64 (p1.X),.int .i64 (p1.Y)],.agg #[.int .i64 (p2.X),.int .i64 (p2.Y)],.agg #[.int .i64 (p3.X),.int .i64 (p3.Y)]]) (fun _ r=>fun v Ln=>v = .bool (r)/\Ln=[]/\True):=⟨by
 rintro _ _ r rfl hx w hK;unfold Jm at hx;have:=dl 1 [1,1,1,2,1,1,1,2,0,0,0,1,1,1,2,1,1,1,2,0,0,0,2] [0,1,2,4,5,6,3,7,8,9,10,11,12,13,15,16,17,14,18,19,20,21,22];refine CtS Tryz.ntmps181 Tryz.results181 ?_;exact au⟩
set_option maxHeartbeats 1000000 in
set_option maxRecDepth 100000 in
instance lidarref06_linesError_c (p0:List Ab) (p1:List Aa):Con (Gx p0 p1) Tryz.prog 110 (fun K vs=>∃ (A0_0:Option Addr) (c0_0:Nat) (A0_1:Option Addr) (c0_1:Nat),vs=[.slice (A0_0) ((p0).length) (c0_0),.slice (A0_1) ((p1).length) (c0_1)]/\Has K A0_0 (p0).length c0_0 4 Ah (p0)/\Has K A0_1 (p1).length c0_1 2 Ak (p1)/\True) (fun _ r=>fun v Ln=>v = .int .i64 (r)/\Ln=[]/\True):=⟨by
 rintro K _ r ⟨A0_0,c0_0,A0_1,c0_1,rfl,ha0,ha1,-⟩ hx w hK;replace ha0:=Has.lo ha0 hK;replace ha1:=Has.lo ha1 hK;unfold Gx at hx;have:=dl 4 [0,0,0,0,1,0,0,0,0,0,0,1,0,0,0,0,0,0,0,0,0,1,0,0,0,0,0,0,0,1,0,0,0,0,0,0,0,0,0,1,0,0,0,0,1,0,0] [0,1,2,3,4,5,6,7,8,9,10,11,12,13,14,15,16,17,18,19,20,21,22,23,24,25,26,27,28,29,30,31,32,33,34,35,36,37,38,39,40,41,42,43,44,45,46];have:=dl 9 [0,0,0,1,0,0,0,1,0,0,0,0,0,0,1,0,0,0,0,1,0,0,0,0,0,0,1,0,0,0,0,1,0,0,0] [0,1,2,3,4,5,6,7,8,9,10,11,12,13,14,15,16,17,18,19,20,21,22,23,24,25,26,27,28,29,30,31,32,33,34];have:=dl 15 [0,0,0,0,0,1,0,1,2,0,0,0,0,0,1,0,1,2,4,4,3,3] [0,1,2,3,4,5,6,7,9,10,11,12,13,14,15,16,8,17,18,19,20,21] [18,19];have:=dl 19 [0,0,0,0,0,1,0,0,0,0,0,0,0,1,0,0,0,1,1,0,0,0,1,2,2,0] [0,1,2,3,4,5,6,7,8,9,10,11,12,13,14,15,16,17,18,19,20,21,22,23,24,25];have:=dl 25 [1,1,0,0,0,0,0,1,0,1,2,0,0,0,0,0,1,0,1,2,2] [0,1,2,3,4,5,6,7,8,9,11,12,13,14,15,16,17,18,10,19,20];refine CtS Tryz.ntmps110 Tryz.results110 ?_;try (refine pre ?_;intros;rename_i hx)
 refine Bn ?_;try (refine pre ?_;intros;rename_i hx)
 apply Jr (γ:=Unit) hx [0,1] (fun s2 y2 f=>f) [999] (fun s2 y2 l=>l);exact kk
 ·intro s2 y2 hx;apply Jr (γ:=Unit) hx [] (fun s0 y0 f=>f) [999] (fun s0 y0 l=>l);exact kk
  ·intro s0 y0 hx;exact au
  ·intro _ hx;try (refine pre ?_;intros;rename_i hx)
   apply Lr (γ:=Unit) hx [0,1,106] (fun s1 y1 f=>(107,.int .i64 (s1))::f) [999] (fun s1 y1 l=>l) ();exact kk;exact sk;intro s1 y1 x0 hx _;unfold Ej at hx
   try (refine pre ?_;intros;rename_i hx)
   refine Cq1 (s:=108) hx rfl (fun _ hx=>?_) (fun _ hx=>?_)
   ·try (refine pre ?_;intros;rename_i hx)
    apply Jr (γ:=Unit) hx [0,1,106,107] (fun s3 y3 f=>f) [999] (fun s3 y3 l=>l);exact kk
    ·intro s3 y3 hx;exact au
    ·intro _ hx;try (refine pre ?_;intros;rename_i hx)
     apply Jr (γ:=Unit) hx [0,1,7,8,9,106,107] (fun s4 y4 f=>f) [0,1,999] (fun s4 y4 l=>l);exact kk
     ·intro s4 y4 hx;try (refine pre ?_;intros;rename_i hx)
      apply Lr (γ:=Unit) hx [0,1,7,8,9,106,107] (fun s5 y5 f=>(11,.int .i64 (s5))::f) [0,1,999] (fun s5 y5 l=>l) ();exact kk;exact sk;intro s5 y5 x1 hx _;unfold Cg at hx
      exact au
     ·intro _ hx;try (refine pre ?_;intros;rename_i hx)
      apply Lr (γ:=Unit) hx [0,1,7,8,9,106,107,129] (fun s6 y6 f=>(130,.int .i64 (s6))::f) [0,1,999] (fun s6 y6 l=>l) ();exact kk;exact sk;intro s6 y6 x2 hx _;unfold Cf at hx
      try (refine pre ?_;intros;rename_i hx)
      refine Cq1 (s:=131) hx rfl (fun _ hx=>?_) (fun _ hx=>?_)
      ·try (refine pre ?_;intros;rename_i hx)
       refine Bn ?_;try (refine pre ?_;intros;rename_i hx)
       refine Bn ?_;try (refine pre ?_;intros;rename_i hx)
       apply Jr (γ:=Unit) hx [0,1,7,8,9,106,107,129,130] (fun s7 y7 f=>(158,.bool (s7))::f) [0,1,999] (fun s7 y7 l=>l);exact kk
       ·intro s7 y7 hx;exact au
       ·intro _ hx;exact au
      ·exact au
   ·exact au
 ·intro _ hx;try (refine pre ?_;intros;rename_i hx)
  apply Lr (γ:=Unit) hx [0,1,13] (fun s8 y8 f=>(14,.int .i64 (s8))::f) [999] (fun s8 y8 l=>l) ();exact kk;exact sk;intro s8 y8 x3 hx _;unfold Fb at hx
  try (refine pre ?_;intros;rename_i hx)
  refine Cq1 (s:=15) hx rfl (fun _ hx=>?_) (fun _ hx=>?_)
  ·try (refine pre ?_;intros;rename_i hx)
   apply Jr (γ:=Unit) hx [0,1,13,14] (fun s9 y9 f=>f) [999] (fun s9 y9 l=>l);exact kk
   ·intro s9 y9 hx;exact au
   ·intro _ hx;try (refine pre ?_;intros;rename_i hx)
    refine Bn ?_;try (refine pre ?_;intros;rename_i hx)
    refine Bn ?_;try (refine pre ?_;intros;rename_i hx)
    apply Jr (γ:=Unit) hx [0,1,5,13,14] (fun s27 y27 f=>(63,.bool (s27))::f) [999] (fun s27 y27 l=>l);exact kk
    ·intro s27 y27 hx;refine Cq3 (s:=63) hx rfl (fun _ hx=>?_) (fun _ hx=>?_)
     ·exact au
     ·try (refine pre ?_;intros;rename_i hx)
      apply Lr (γ:=Unit) hx [0,1,5,13,14] (fun s10 y10 f=>(6,.int .i64 (s10))::f) [999] (fun s10 y10 l=>l) ();exact kk;exact sk;intro s10 y10 x4 hx _;unfold Cp at hx
      try (refine pre ?_;intros;rename_i hx)
      refine Cq1 (s:=66) hx rfl (fun _ hx=>?_) (fun _ hx=>?_)
      ·try (refine pre ?_;intros;rename_i hx)
       refine Bn ?_;try (refine pre ?_;intros;rename_i hx)
       apply Jr (γ:=Unit) hx [0,1,5,6,13,14] (fun s38 y38 f=>(103,.bool (s38))::f) [999] (fun s38 y38 l=>l);exact kk
       ·intro s38 y38 hx;exact au
       ·intro _ hx;exact au
      ·exact au
    ·intro _ hx;exact au
  ·exact au⟩
set_option maxRecDepth 100000 in
instance lidarref06_Wrong_c (p0:List Ab) (p1:List Aa):Con (Jn p0 p1) Tryz.prog 45 (fun K vs=>∃ (A0_0:Option Addr) (c0_0:Nat) (A0_1:Option Addr) (c0_1:Nat),vs=[.slice (A0_0) ((p0).length) (c0_0),.slice (A0_1) ((p1).length) (c0_1)]/\Has K A0_0 (p0).length c0_0 4 Ah (p0)/\Has K A0_1 (p1).length c0_1 2 Ak (p1)/\True) (fun _ r=>fun v Ln=>v = .int .i64 (r)/\Ln=[]/\True):=⟨by
 rintro K _ r ⟨A0_0,c0_0,A0_1,c0_1,rfl,ha0,ha1,-⟩ hx w hK;replace ha0:=Has.lo ha0 hK;replace ha1:=Has.lo ha1 hK;unfold Jn at hx;refine CtS Tryz.ntmps45 Tryz.results45 ?_;exact au⟩
set_option maxHeartbeats 1000000 in
set_option maxRecDepth 100000 in
instance lidarref06_seen_c (p0:List Ab) (p1:List Aa) (p2:Int) (p3:Int):Con (Kt p0 p1 p2 p3) Tryz.prog 182 (fun K vs=>∃ (A0_0:Option Addr) (c0_0:Nat) (A0_1:Option Addr) (c0_1:Nat),vs=[.slice (A0_0) ((p0).length) (c0_0),.slice (A0_1) ((p1).length) (c0_1),.int .i64 (p2),.int .i64 (p3)]/\Has K A0_0 (p0).length c0_0 4 Ah (p0)/\Has K A0_1 (p1).length c0_1 2 Ak (p1)/\True) (fun _ r=>fun v Ln=>v = .bool (r)/\Ln=[]/\True):=⟨by
 rintro K _ r ⟨A0_0,c0_0,A0_1,c0_1,rfl,ha0,ha1,-⟩ hx w hK;replace ha0:=Has.lo ha0 hK;replace ha1:=Has.lo ha1 hK;unfold Kt at hx;have:=dl 4 [0,0,0,1,2,0,0,0,1,2,0,0,1,0,1,2,0,0,1,0,1,2,2] [0,1,2,3,5,6,7,8,10,11,12,13,14,16,17,18,19,20,4,9,15,21,22];refine CtS Tryz.ntmps182 Tryz.results182 ?_;try (refine pre ?_;intros;rename_i hx)
 refine Bn ?_;try (refine pre ?_;intros;rename_i hx)
 apply Jr (γ:=Unit) hx [] (fun s2 y2 f=>f) [999] (fun s2 y2 l=>l);exact kk
 ·intro s2 y2 hx;exact au
 ·intro _ hx;try (refine pre ?_;intros;rename_i hx)
  apply Lr (γ:=Unit) hx [0,2,3,11,12] (fun s0 y0 f=>(13,.int .i64 (s0))::f) [999] (fun s0 y0 l=>l) ();exact kk;exact sk;intro s0 y0 x0 hx _;unfold Jy at hx
  exact au⟩
set_option maxHeartbeats 1000000 in
set_option maxRecDepth 100000 in
instance lidarref06_ring_c (p0:List Ab) (p1:Int) (p2:Int) (p3:List Int):Con (Nk p0 p1 p2 p3) Tryz.prog 185 (fun K vs=>∃ (A0_0:Option Addr) (c0_0:Nat) (A0_1:Option Addr) (c0_1:Nat),vs=[.slice (A0_0) ((p0).length) (c0_0),.int .i64 (p1),.int .i64 (p2),.slice (A0_1) ((p3).length) (c0_1)]/\Has K A0_0 (p0).length c0_0 4 Ah (p0)/\Has K A0_1 (p3).length c0_1 1 Aq (p3)/\True) (fun _ r=>fun v Ln=>∃ (A0:Option Addr) (c0:Nat),v = .slice (A0) ((r).length) (c0)/\Ln=[.r A0 (r).length c0 3 1 ((r).flatMap Aq)]/\True):=⟨by
 rintro K _ r ⟨A0_0,c0_0,A0_1,c0_1,rfl,ha0,ha1,-⟩ hx w hK;replace ha0:=Has.lo ha0 hK;replace ha1:=Has.lo ha1 hK;unfold Nk at hx;have:=dl 13 [0,0,0,0,0,0,0,0,0,1,2,0,0,0,1,2,0,0,0,1,2,2,0,0,0] [0,1,2,3,4,5,6,7,8,9,11,12,13,14,16,17,18,19,10,15,20,21,22,23,24];refine CtS Tryz.ntmps185 Tryz.results185 ?_;try (refine pre ?_;intros;rename_i hx)
 refine Bn ?_;try (refine pre ?_;intros;rename_i hx)
 refine Bn ?_;try (refine pre ?_;intros;rename_i hx)
 apply Jr (γ:=(Option Addr) × Nat) hx [] (fun s3 y3 f=>(9,.slice (y3.1) ((s3).length) (y3.2))::f) [999] (fun s3 y3 l=>.r (y3.1) ((s3).length) (y3.2) 3 1 ((s3).flatMap Aq)::l);exact kk
 ·intro s3 y3 hx;exact au
 ·intro _ hx;try (refine pre ?_;intros;rename_i hx)
  (with_reducible apply Ag8 18 (sz:=1));exact rfl;exact aT;exact inferInstance;exact dL;exact (fun _=>rfl);exact rfl;exact rfl;exact sA
  try (refine pre ?_;intros;rename_i hx)
  apply Lr (γ:=(Option Addr) × Nat) hx [0,1,3] (fun s0 y0 f=>(9,.slice (y0.1) ((s0).length) (y0.2))::f) [999] (fun s0 y0 l=>.r (y0.1) ((s0).length) (y0.2) 3 1 ((s0).flatMap Aq)::l) (_,_);exact kk;exact sk;intro s0 y0 x0 hx _;unfold Mx at hx
  try (refine pre ?_;intros;rename_i hx)
  refine Cq1 (s:=24) hx rfl (fun _ hx=>?_) (fun _ hx=>?_)
  ·try (refine pre ?_;intros;rename_i hx)
   refine Bn ?_;try (refine pre ?_;intros;rename_i hx)
   apply Jr (γ:=Unit) hx [0,1,3,9] (fun s1 y1 f=>(10,.int .i64 (s1))::f) [0,999] (fun s1 y1 l=>l);exact kk
   ·intro s1 y1 hx;exact au
   ·intro _ hx;try (refine pre ?_;intros;rename_i hx)
    apply Lr (γ:=Unit) hx [0,1,3,9,25,26] (fun s2 y2 f=>(10,.int .i64 (s2.1))::(27,.int .i64 (s2.2))::f) [0,999] (fun s2 y2 l=>l) ();exact kk;exact sk;intro s2 y2 x1 hx _;unfold Ka at hx
    try (refine pre ?_;intros;rename_i hx)
    refine Cq1 (s:=28) hx rfl (fun _ hx=>?_) (fun _ hx=>?_)
    ·try (refine pre ?_;intros;rename_i hx)
     apply Jr (γ:=Unit) hx [0,1,3,9,25,26,27] (fun s4 y4 f=>(10,.int .i64 (s4))::f) [0,999] (fun s4 y4 l=>l);exact kk
     ·intro s4 y4 hx;exact au
     ·intro _ hx;try (refine pre ?_;intros;rename_i hx)
      refine Bn ?_;try (refine pre ?_;intros;rename_i hx)
      apply Jr (γ:=Unit) hx [0,1,3,9,10,12,25,26,27] (fun s5 y5 f=>(13,.bool (s5))::f) [0,999] (fun s5 y5 l=>l);exact kk
      ·intro s5 y5 hx;apply Jr (γ:=Unit) hx [0,1,3,9,10,12,25,26,27] (fun s6 y6 f=>(68,.bool (s6))::f) [0,999] (fun s6 y6 l=>l);exact kk
       ·intro s6 y6 hx;exact au
       ·intro _ hx;exact au
      ·intro _ hx;try (refine pre ?_;intros;rename_i hx)
       apply Lr (γ:=Unit) hx [0,1,3,9,10,12,25,26,27,31,32] (fun s7 y7 f=>(13,.bool (s7.1))::(33,.int .i64 (s7.2))::f) [0,999] (fun s7 y7 l=>l) ();exact kk;exact sk;intro s7 y7 x2 hx _;unfold Jz at hx
       exact au
    ·exact au
  ·exact au⟩
set_option maxRecDepth 100000 in
theorem Zc (p0:List Ab) (p1:Int) (p2:Int) (p3:List Int) {K:List Ent} {A0_0:Option Addr} {c0_0:Nat} {A0_1:Option Addr} {c0_1:Nat} (ha0:Has K A0_0 p0.length c0_0 4 Ah (p0)) (ha1:Has K A0_1 p3.length c0_1 1 Aq (p3)) {r:Int} (hx:Jo p0 p1 p2 p3=some r) (w:World) (hK:∀ e∈K,Ent.ok w e):CtL Tryz.prog 184 [.slice (A0_0) (p0.length) (c0_0),.int .i64 (p1),.int .i64 (p2),.slice (A0_1) (p3.length) (c0_1)] w fun v Ln=>v = .int .i64 (r)/\Ln=[]/\True:=by
 have ha0':=Has.up0 ha0;have ha1':=Has.up0 ha1;refine CtL.mk 120 Tryz.func184 rfl Tryz.ntmps184 (by kernel_rfl) rfl ?_;show T 120 _ [(0,.slice (A0_0) (p0.length) (c0_0)),(1,.int .i64 (p1)),(2,.int .i64 (p2)),(3,.slice (A0_1) (p3.length) (c0_1))] _;unfold Jo at hx;refine Y5 ?_;obtain ⟨j2,hj2,hx⟩:=Abi hx;refine Xs (τ:=List Int) (γ:=(Option Addr) × Nat × Ent) (J:=j2) (out:=r) (fun s2 y2=>[(1,.int .i64 (p1)),(2,.int .i64 (p2)),(3,.slice (y2.1) (s2.length) (y2.2.1))]) (fun s2 y2=>[y2.2.2]++[.old w]) (fun s2 y2=>y2.2.2.low=0/\Has (K++[y2.2.2]) (y2.1) (s2.length) (y2.2.1) 1 Aq (s2)/\True) ?_ ?_
 ·intro s2 y2 hx0 hG0;obtain ⟨lo755,hs0,-⟩:=hG0;subst hj2;refine Tj (γ:=Unit) hx0 (fun s0 y0=>[]) (fun s0 y0=>[]++[.old w]) (fun s0 y0=>True) (fun s0 y0 hx1 hG1=>?_) (fun j0 hx0=>?_)
  ·refine Y6 ?_;obtain rfl:=Option.some.inj hx1;exact Hc (rs:=[.tmp 8]) Tryz.results184 (.tmp rfl (.nil)) (Ln:=[]) ⟨rfl,rfl,trivial⟩ (Gn) (by exact .refl)
  ·refine Y3 ?_;refine Ba (Jq rfl 3 Tryz.underlying48) rfl ?_;refine Y4 ?_;obtain ⟨t0,hl0,ho0⟩:=Ar hx0;refine Lp (σ:=Int) (γ:=Unit) hl0 (fun s1 y1=>[(1,.int .i64 (p1)),(2,.int .i64 (p2)),(104,.slice (y2.1) (s2.length) (y2.2.1)),(105,.int .i64 (((s2.length:Nat):Int))),(106,.int .i64 (s1))]) (fun s1 y1=>[y2.2.2]++[.old w]) (fun s1 y1=>True) () trivial (by exact .pick 0 rfl (.refl)) ?_;intro s1 y1 hG2 x0 hx2 ht0;unfold Da at hx2;refine Y6 ?_;refine Ti hx2 (s:=107) rfl (fun h0 hx3=>?_) (fun h0 hx4=>?_)
   ·refine Y7 ?_;obtain ⟨x1,h1,hx5⟩:=Ar hx3;have hw0:=Has.low (E:=[y2.2.2]) hs0 hK;obtain ⟨b0,o0,j1,hA0,hj0,hl1,hp0⟩:=Has.at_idx hw0 h1;refine Ba (Fw rfl rfl hA0 (j:=j1) hj0 hl1 Ws) rfl ?_;refine Ba (Dy rfl hp0 (SubE.cons2 (i:=1) rfl (sb 0)) rfl one3) rfl ?_;refine Y3 ?_;refine Tj (γ:=Unit) hx5 (fun s3 y3=>[(1,.int .i64 (p1)),(2,.int .i64 (p2)),(16,.int .i64 (x1)),(104,.slice (y2.1) (s2.length) (y2.2.1)),(105,.int .i64 (((s2.length:Nat):Int))),(106,.int .i64 (s1)),(117,.bool (s3))]) (fun s3 y3=>[y2.2.2]++[.old w]) (fun s3 y3=>True) (fun s3 y3 hx6 hG3=>?_) (fun j3 hx5=>?_)
    ·refine Hr (s:=117) rfl (fun h2=>?_) (fun h2=>?_)
     ·have hx7:=Jx h2 hx6;refine Y10 ?_;obtain rfl:=Lc ht0 hx7;refine Y3 ?_;obtain rfl:=Option.some.inj ho0;exact Hc (rs:=[.tmp 8]) Tryz.results184 (.tmp rfl (.nil)) (Ln:=[]) ⟨rfl,rfl,trivial⟩ (Gn) (by exact .drop 0 rfl (.refl))
     ·have hx8:=Mg h2 hx6;refine Y8 ?_;exact Rp (w64 (s1+1)) () hx8 trivial (by exact .pick 0 rfl (.refl))
    ·refine Y5 ?_;refine Afc (s:=113) rfl (fun h3=>?_) (fun h3=>?_)
     ·have hx9:=Xy h3 hx5;refine Y5 ?_;exact Mt (!(decide (x1=p2))) () hx9 trivial (by exact .pick 0 rfl (.refl))
     ·have hx10:=Jx h3 hx5;refine Y5 ?_;exact Mt false () hx10 trivial (by exact .pick 0 rfl (.refl))
   ·refine Y3 ?_;obtain rfl:=Lc ht0 hx4;refine Y2 ?_;exact Mt () () ho0 trivial (by exact .drop 0 rfl (.refl))
 ·skip;refine Y ?_;obtain ⟨t1,hl2,ho1⟩:=Ar hx;refine Az 0 1 ?_;refine Lp (σ:=List Int) (γ:=(Option Addr) × Nat × Ent) hl2 (fun s4 y4=>[(0,.slice (A0_0) (p0.length) (c0_0)),(1,.int .i64 (p1)),(2,.int .i64 (p2)),(3,.slice (y4.1) (s4.length) (y4.2.1))]) (fun s4 y4=>[y4.2.2]++[.old w]) (fun s4 y4=>y4.2.2.low=0/\Has (K++[y4.2.2]) (y4.1) (s4.length) (y4.2.1) 1 Aq (s4)/\True) (A0_1,c0_1,.r none 0 0 0 1 []) ((by exact ⟨rfl,Has.len' ((Has.up (L:=(K++[.r none 0 0 0 1 []])) ha1' (SubE.app2 SubE.nil))),trivial⟩)) (by exact .pick 0 rfl (.refl)) ?_;intro s4 y4 hG4 x2 hx11 ht1;unfold En at hx11;obtain ⟨lo502,hs1,-⟩:=hG4;refine Y4 ?_;refine Ba (Jq rfl 3 Tryz.underlying48) rfl ?_;refine Y3 ?_;refine Ti hx11 (s:=19) rfl (fun h4 hx12=>?_) (fun h4 hx13=>?_)
  ·refine Y9 ?_;refine Tj (γ:=Unit) hx12 (fun s5 y5=>[(0,.slice (A0_0) (p0.length) (c0_0)),(1,.int .i64 (p1)),(2,.int .i64 (p2)),(3,.slice (y4.1) (s4.length) (y4.2.1)),(9,.int .i64 (s5))]) (fun s5 y5=>[y4.2.2]++[.old w]) (fun s5 y5=>True) (fun s5 y5 hx14 hG5=>?_) (fun j4 hx12=>?_)
   ·refine Y ?_;refine T_dr [0,0,0,0,0,0,0,0,0,0,1,0,0,0,0,0,0,0,1,2,2] (.q 0 (.q 1 (.q 2 (.q 3 (.q 4 (.q 5 (.q 6 (.q 7 (.q 8 (.q 9 (.q 10 (.q 11 (.q 12 (.q 13 (.q 14 (.q 15 (.q 16 (.q 17 (.q 18 (.e 19 (.e 20 (.done) (.stop)) (.stop))))))))))))))))))))) mixed (by kernel_rfl) (by kernel_rfl) ?_;refine Y3 ?_;refine P_p rfl rfl (Jq rfl 3 Tryz.underlying48) rfl ?_;refine Y3 ?_;refine P_p rfl rfl (Jq rfl 3 Tryz.underlying48) rfl ?_;obtain ⟨h5,hx15⟩:=Dr hx14;refine P_p rfl rfl (Ad1 rfl rfl h5) rfl ?_;obtain ⟨x3,h6,hx16⟩:=Ar hx15;have hw2:=Has.low (E:=[y4.2.2]) hs1 hK;obtain ⟨b1,o1,j5,hA1,hj1,hl3,hp1⟩:=Has.at_idx hw2 h6;refine P_p rfl rfl (Fw rfl rfl hA1 (j:=j5) hj1 hl3 Ws) rfl ?_;refine P_q rfl rfl (Dy rfl hp1 (SubE.cons2 (i:=1) rfl (sb 0)) rfl one3) rfl ?_;refine Y4 ?_;refine P_p rfl rfl (Jq rfl 3 Tryz.underlying48) rfl ?_;obtain ⟨h7,hx17⟩:=Dr hx16;refine P_p rfl rfl (Ad1 rfl rfl h7) rfl ?_;obtain ⟨x4,h8,hx18⟩:=Ar hx17;have hw3:=Has.low (E:=[y4.2.2]) hs1 hK;obtain ⟨b2,o2,j6,hA2,hj3,hl4,hp2⟩:=Has.at_idx hw3 h8;refine P_p rfl rfl (Fw rfl rfl hA2 (j:=j6) hj3 hl4 Ws) rfl ?_;refine P_q rfl rfl (Dy rfl hp2 (SubE.cons2 (i:=1) rfl (sb 0)) rfl one3) rfl ?_;refine P_x rfl (Pk (Fi rfl) rfl ?_) ?_;rotate_left;exact Ct;refine P_x rfl (Pk (Fi rfl) rfl ?_) ?_
    rotate_left;exact Ct;refine Y3 ?_;refine Tj (γ:=Unit) hx18 (fun s6 y6=>[(0,.slice (A0_0) (p0.length) (c0_0)),(1,.int .i64 (p1)),(2,.int .i64 (p2)),(3,.slice (y4.1) (s4.length) (y4.2.1)),(9,.int .i64 (s5)),(11,.int .i64 (x3)),(12,.int .i64 (x4)),(73,.bool (s6))]) (fun s6 y6=>[y4.2.2]++[.old w]) (fun s6 y6=>True) (fun s6 y6 hx19 hG6=>?_) (fun j7 hx18=>?_)
    ·refine Hr (s:=73) rfl (fun h9=>?_) (fun h9=>?_)
     ·have hx20:=Jx h9 hx19;refine Y10 ?_;obtain rfl:=Lc ht1 hx20;refine Y3 ?_;obtain rfl:=Option.some.inj ho1;exact Hc (rs:=[.tmp 8]) Tryz.results184 (.tmp rfl (.nil)) (Ln:=[]) ⟨rfl,rfl,trivial⟩ (Gn) (by exact .drop 0 rfl (.refl))
     ·have hx21:=Mg h9 hx19;refine Y4 ?_;refine Tj (γ:=Unit) hx21 (fun s7 y7=>[(0,.slice (A0_0) (p0.length) (c0_0)),(1,.int .i64 (p1)),(2,.int .i64 (p2)),(3,.slice (y4.1) (s4.length) (y4.2.1)),(9,.int .i64 (s5)),(12,.int .i64 (x4)),(85,.bool (s7))]) (fun s7 y7=>[y4.2.2]++[.old w]) (fun s7 y7=>True) (fun s7 y7 hx22 hG7=>?_) (fun j8 hx21=>?_)
      ·refine Hr (s:=85) rfl (fun h10=>?_) (fun h10=>?_)
       ·have hx23:=Jx h10 hx22;refine Y10 ?_;obtain rfl:=Lc ht1 hx23;refine Y3 ?_;obtain rfl:=Option.some.inj ho1;exact Hc (rs:=[.tmp 8]) Tryz.results184 (.tmp rfl (.nil)) (Ln:=[]) ⟨rfl,rfl,trivial⟩ (Gn) (by exact .drop 0 rfl (.refl))
       ·have hx24:=Mg h10 hx22;refine Y8 ?_;refine Tj (γ:=(Option Addr) × Nat) hx24 (fun s8 y8=>[(0,.slice (A0_0) (p0.length) (c0_0)),(1,.int .i64 (p1)),(2,.int .i64 (p2)),(13,.slice (y8.1) (s8.length) (y8.2))]) (fun s8 y8=>[.r (y8.1) (s8.length) (y8.2) 3 1 (s8.flatMap Aq)]++[.old w]) (fun s8 y8=>True) (fun s8 y8 hx25 hG8=>?_) (fun j9 hx24=>?_)
        ·refine Y5 ?_;refine Aic (k:=0) rfl (by decide) (fun _=>rfl) (fun hn0 hs2=>?_);exact Rp s8 (y8.1,y8.2,.r (y8.1) (s8.length) (y8.2) 3 1 (s8.flatMap Aq)) hx25 ((by exact ⟨rfl,Has.len' ((Has.up (L:=(K++[.r (y8.1) (s8.length) (y8.2) 3 1 (s8.flatMap Aq)])) hs2 (SubE.appR2 (sb 0)))),trivial⟩)) (by exact .pick 0 rfl (.refl))
        ·refine Y3 ?_;refine Ba (Jq rfl 3 Tryz.underlying48) rfl ?_;refine Y4 ?_;obtain ⟨t2,hl5,ho2⟩:=Ar hx24;refine Az 3 1 ?_
         have hn1:0=(([]:List Int)).length:=by simp[Ip,Pe,List.length_append] <;> omega
         refine Rv (.here) (e':=.r (none) ((([]:List Int)).length) (0) 3 1 ((([]:List Int)).flatMap Aq)) (by first | (rw[<- hn1];done) | rfl) ?_;refine Lp (σ:=(List Int) × Int) (γ:=(Option Addr) × Nat) hl5 (fun s9 y9=>[(0,.slice (A0_0) (p0.length) (c0_0)),(1,.int .i64 (p1)),(2,.int .i64 (p2)),(3,.slice (y4.1) (s4.length) (y4.2.1)),(9,.int .i64 (s5)),(13,.slice (y9.1) (s9.1.length) (y9.2)),(88,.int .i64 (((s4.length:Nat):Int))),(89,.int .i64 (s9.2))]) (fun s9 y9=>[.r (y9.1) (s9.1.length) (y9.2) 3 1 (s9.1.flatMap Aq),y4.2.2]++[.old w]) (fun s9 y9=>True) (none,0) trivial (by exact .pick 0 rfl (.pick 0 rfl (.refl))) ?_;intro s9 y9 hG9 x5 hx26 ht2;unfold Hw at hx26;refine Y6 ?_;refine Ti hx26 (s:=90) rfl (fun h11 hx27=>?_) (fun h11 hx28=>?_)
         ·refine Y3 ?_;refine Tj (γ:=(Option Addr) × Nat) hx27 (fun s10 y10=>[(0,.slice (A0_0) (p0.length) (c0_0)),(1,.int .i64 (p1)),(2,.int .i64 (p2)),(3,.slice (y4.1) (s4.length) (y4.2.1)),(9,.int .i64 (s5)),(13,.slice (y10.1) (s10.length) (y10.2)),(88,.int .i64 (((s4.length:Nat):Int))),(89,.int .i64 (s9.2))]) (fun s10 y10=>[.r (y10.1) (s10.length) (y10.2) 3 1 (s10.flatMap Aq),y4.2.2]++[.old w]) (fun s10 y10=>True) (fun s10 y10 hx29 hG10=>?_) (fun j10 hx27=>?_)
          ·refine Y4 ?_;exact Rp (s10,w64 (s9.2+1)) (y10.1,y10.2) hx29 trivial (by exact .pick 0 rfl (.pick 0 rfl (.refl)))
          ·(iterate 14 refine Y ?_);refine Afc (s:=94) rfl (fun h12=>?_) (fun h12=>?_)
           ·have hx30:=Xy h12 hx27;refine Y5 ?_;obtain ⟨x6,h13,hx31⟩:=Ar hx30;have hw4:=Has.low (E:=[y4.2.2]) hs1 hK;obtain ⟨b3,o3,j11,hA3,hj4,hl6,hp3⟩:=Has.at_idx hw4 h13;refine Ba (Fw rfl rfl hA3 (j:=j11) hj4 hl6 Ws) rfl ?_;refine Ba (Dy rfl hp3 (SubE.cons2 (i:=2) rfl (sb 1)) rfl one3) rfl ?_;refine T_x (Di rfl (Wj _) rfl (fun g0=>?_));obtain ⟨h14,hx32⟩:=Dr hx31;refine T_h (Ig Aq (s9.1) [x6] rfl rfl rfl Aoi (fun _=>rfl) (i':=0) rfl rfl rfl rfl h14 rfl (fun _ _=>.there (.here)) (fun _ _=>.drop .refl) (by decide) (fun A0 c0=>?_));refine Y3 ?_;exact Mt (s9.1++[x6]) (A0,c0) hx32 trivial (by exact .pick 0 rfl (.pick 0 rfl (.refl)))
           ·have hx33:=Jx h12 hx27;refine Y3 ?_;exact Mt s9.1 (y9.1,y9.2) hx33 trivial (by exact .pick 0 rfl (.pick 0 rfl (.refl)))
         ·refine Y3 ?_;obtain rfl:=Lc ht2 hx28;refine Y2 ?_;exact Mt s9.1 (y9.1,y9.2) ho2 trivial (by exact .pick 0 rfl (.drop 0 rfl (.refl)))
      ·refine Y3 ?_;obtain ⟨x7,h15,hx34⟩:=Ar hx21;have hw5:=Has.low (E:=[y4.2.2]) hs1 hK;obtain ⟨b4,o4,j12,hA4,hj5,hl7,hp4⟩:=Has.at_idx hw5 h15;refine Ba (Fw rfl rfl hA4 (j:=j12) hj5 hl7 Ws) rfl ?_;refine Ba (Dy rfl hp4 (SubE.cons2 (i:=1) rfl (sb 0)) rfl one3) rfl ?_;refine Y3 ?_;refine Ti hx34 (s:=81) rfl (fun h16 hx35=>?_) (fun h16 hx36=>?_)
       ·refine Y5 ?_;exact Mt (decide (x3=p1)) () hx35 trivial (by exact .pick 0 rfl (.refl))
       ·refine Y5 ?_;exact Mt false () hx36 trivial (by exact .pick 0 rfl (.refl))
    ·refine Y3 ?_;obtain ⟨x8,h17,hx37⟩:=Ar hx18;have hw6:=Has.low (E:=[y4.2.2]) hs1 hK;obtain ⟨b5,o5,j13,hA5,hj6,hl8,hp5⟩:=Has.at_idx hw6 h17;refine Ba (Fw rfl rfl hA5 (j:=j13) hj6 hl8 Ws) rfl ?_;refine Ba (Dy rfl hp5 (SubE.cons2 (i:=1) rfl (sb 0)) rfl one3) rfl ?_;refine Y3 ?_;refine Ti hx37 (s:=69) rfl (fun h18 hx38=>?_) (fun h18 hx39=>?_)
     ·refine Y5 ?_;exact Mt (decide (x4=p2)) () hx38 trivial (by exact .pick 0 rfl (.refl))
     ·refine Y5 ?_;exact Mt false () hx39 trivial (by exact .pick 0 rfl (.refl))
   ·refine Y3 ?_;refine Ba (Jq rfl 3 Tryz.underlying48) rfl ?_;refine Y4 ?_;obtain ⟨t3,hl9,ho3⟩:=Ar hx12;refine Lp (σ:=Int × Int) (γ:=Unit) hl9 (fun s11 y11=>[(0,.slice (A0_0) (p0.length) (c0_0)),(1,.int .i64 (p1)),(2,.int .i64 (p2)),(3,.slice (y4.1) (s4.length) (y4.2.1)),(9,.int .i64 (s11.1)),(21,.int .i64 (((s4.length:Nat):Int))),(22,.int .i64 (s11.2))]) (fun s11 y11=>[y4.2.2]++[.old w]) (fun s11 y11=>True) () trivial (by exact .pick 0 rfl (.refl)) ?_;intro s11 y11 hG11 x9 hx40 ht3;unfold Iq at hx40;refine Y6 ?_;refine Ti hx40 (s:=23) rfl (fun h19 hx41=>?_) (fun h19 hx42=>?_)
    ·refine Y3 ?_;refine Tj (γ:=Unit) hx41 (fun s85 y85=>[(0,.slice (A0_0) (p0.length) (c0_0)),(1,.int .i64 (p1)),(2,.int .i64 (p2)),(3,.slice (y4.1) (s4.length) (y4.2.1)),(9,.int .i64 (s85)),(21,.int .i64 (((s4.length:Nat):Int))),(22,.int .i64 (s11.2))]) (fun s85 y85=>[y4.2.2]++[.old w]) (fun s85 y85=>True) (fun s85 y85 hx43 hG12=>?_) (fun j85 hx41=>?_)
     ·refine Y4 ?_;exact Rp (s85,w64 (s11.2+1)) () hx43 trivial (by exact .pick 0 rfl (.refl))
     ·refine Y8 ?_;refine T_dr [0,0,0,0,1,0,1,2,0,0,0,0,1,0,1,2,2] (.q 0 (.q 1 (.q 2 (.q 3 (.q 4 (.q 5 (.q 6 (.q 8 (.q 9 (.q 10 (.q 11 (.q 12 (.q 13 (.q 14 (.e 7 (.e 15 (.e 16 (.done) (.stop)) (.stop)) (.stop)))))))))))))))) mixed (by kernel_rfl) (by kernel_rfl) ?_;refine Y3 ?_;obtain ⟨x10,h20,hx44⟩:=Ar hx41;have hw7:=Has.low (E:=[y4.2.2]) hs1 hK;obtain ⟨b6,o6,j14,hA6,hj7,hl10,hp6⟩:=Has.at_idx hw7 h20;refine P_p rfl rfl (Fw rfl rfl hA6 (j:=j14) hj7 hl10 Ws) rfl ?_;refine P_q rfl rfl (Dy rfl hp6 (SubE.cons2 (i:=1) rfl (sb 0)) rfl one3) rfl ?_;obtain ⟨x11,h21,hx45⟩:=Ar hx44;refine P_il (Has.low (E:=[]) ha0' hK) h21 Aep Adx (sb 1) (fun b7 o7=>?_);refine Y3 ?_;obtain ⟨x12,h22,hx46⟩:=Ar hx45;have hw8:=Has.low (E:=[y4.2.2]) hs1 hK;obtain ⟨b8,o8,j15,hA7,hj8,hl11,hp7⟩:=Has.at_idx hw8 h22;refine P_p rfl rfl (Fw rfl rfl hA7 (j:=j15) hj8 hl11 Ws) rfl ?_;refine P_q rfl rfl (Dy rfl hp7 (SubE.cons2 (i:=1) rfl (sb 0)) rfl one3) rfl ?_;obtain ⟨x13,h23,hx47⟩:=Ar hx46;refine P_il (Has.low (E:=[]) ha0' hK) h23 Aep Adx (sb 1) (fun b9 o9=>?_);obtain ⟨r0,h24,hx48⟩:=Ar hx47;refine Pc (fun w1 hw1=>Sc (⟨x11.X,x11.Y,(⟨x11.Z.Lo,x11.Z.Hi⟩:Al)⟩:Ab)  h24 w1) ?_;obtain ⟨r1,h25,hx49⟩:=Ar hx48;refine Pc (fun w1 hw1=>Sc (⟨x13.X,x13.Y,(⟨x13.Z.Lo,x13.Z.Hi⟩:Al)⟩:Ab)  h25 w1) ?_
      obtain ⟨r2,h26,hx50⟩:=Ar hx49;refine Pc (fun w1 hw1=>Xg r0 r1  h26 w1) ?_;refine Y2 ?_;refine Hr (s:=41) rfl (fun h27=>?_) (fun h27=>?_)
      ·have hx51:=Jx h27 hx50;refine Y6 ?_;exact Mt s11.2 () hx51 trivial (by exact .pick 0 rfl (.refl))
      ·have hx52:=Mg h27 hx50;refine Y3 ?_;exact Mt s11.1 () hx52 trivial (by exact .pick 0 rfl (.refl))
    ·refine Y3 ?_;obtain rfl:=Lc ht3 hx42;refine Y2 ?_;exact Mt s11.1 () ho3 trivial (by exact .pick 0 rfl (.refl))
  ·refine Y3 ?_;obtain rfl:=Lc ht1 hx13;refine Y2 ?_;exact Mt s4 (y4.1,y4.2.1,y4.2.2) ho1 ((by exact ⟨lo502,Has.len' hs1,trivial⟩)) (by exact .pick 0 rfl (.refl))
set_option maxHeartbeats 1000000 in
set_option maxRecDepth 100000 in
instance lidarref06_third_c (p0:List Ab) (p1:Int) (p2:Int) (p3:List Int):Con (Jo p0 p1 p2 p3) Tryz.prog 184 (fun K vs=>∃ (A0_0:Option Addr) (c0_0:Nat) (A0_1:Option Addr) (c0_1:Nat),vs=[.slice (A0_0) ((p0).length) (c0_0),.int .i64 (p1),.int .i64 (p2),.slice (A0_1) ((p3).length) (c0_1)]/\Has K A0_0 (p0).length c0_0 4 Ah (p0)/\Has K A0_1 (p3).length c0_1 1 Aq (p3)/\True) (fun _ r=>fun v Ln=>v = .int .i64 (r)/\Ln=[]/\True):=⟨by
 rintro K _ r ⟨A0_0,c0_0,A0_1,c0_1,rfl,ha0,ha1,-⟩ hx w hK;exact Zc p0 p1 p2 p3 ha0 ha1 hx w hK⟩
set_option maxHeartbeats 1000000 in
set_option maxRecDepth 100000 in
instance lidarref06_apex_c (p0:List Ab) (p1:List Aa) (p2:Int) (p3:Int):Con (Nl p0 p1 p2 p3) Tryz.prog 114 (fun K vs=>∃ (A0_0:Option Addr) (c0_0:Nat) (A0_1:Option Addr) (c0_1:Nat),vs=[.slice (A0_0) ((p0).length) (c0_0),.slice (A0_1) ((p1).length) (c0_1),.int .i64 (p2),.int .i64 (p3)]/\Has K A0_0 (p0).length c0_0 4 Ah (p0)/\Has K A0_1 (p1).length c0_1 2 Ak (p1)/\True) (fun _ r=>fun v Ln=>v = .int .i64 (r)/\Ln=[]/\True):=⟨by
 rintro K _ r ⟨A0_0,c0_0,A0_1,c0_1,rfl,ha0,ha1,-⟩ hx w hK;replace ha0:=Has.lo ha0 hK;replace ha1:=Has.lo ha1 hK;unfold Nl at hx;have:=dl 5 [0,0,0,1,2,0,0,0,1,2,0,0,0,1,2,2,0,0,0,0,0,0,2,0,0,0,0,0,0,0,2,0,0] [0,1,2,3,5,6,7,8,10,11,12,13,4,9,14,15,16,17,18,19,20,21,22,23,24,25,26,27,28,29,30,31,32];have:=dl 8 [0,0,0,1,2,0,0,0,1,2,0,0,0,1,0,1,2,0,0,0,1,2,2] [0,1,2,3,5,6,7,8,10,11,12,13,14,15,17,18,19,20,4,9,16,21,22];refine CtS Tryz.ntmps114 Tryz.results114 ?_;try (refine pre ?_;intros;rename_i hx)
 refine Bn ?_;try (refine pre ?_;intros;rename_i hx)
 refine Bn ?_;try (refine pre ?_;intros;rename_i hx)
 apply Jr (γ:=(Option Addr) × Nat) hx [0,2,3] (fun s3 y3 f=>(9,.slice (y3.1) ((s3).length) (y3.2))::f) [999] (fun s3 y3 l=>.r (y3.1) ((s3).length) (y3.2) 3 1 ((s3).flatMap Aq)::l);exact kk
 ·intro s3 y3 hx;exact au
 ·intro _ hx;try (refine pre ?_;intros;rename_i hx)
  refine Az 3 1 ?_
  apply Lr (γ:=(Option Addr) × Nat) hx [0,1,2,3,12] (fun s0 y0 f=>(9,.slice (y0.1) ((s0.1).length) (y0.2))::(13,.int .i64 (s0.2))::f) [999] (fun s0 y0 l=>.r (y0.1) ((s0.1).length) (y0.2) 3 1 ((s0.1).flatMap Aq)::l) (_,_);exact kk;exact sk;intro s0 y0 x0 hx _;unfold Kb at hx
  try (refine pre ?_;intros;rename_i hx)
  refine Cq1 (s:=14) hx rfl (fun _ hx=>?_) (fun _ hx=>?_)
  ·try (refine pre ?_;intros;rename_i hx)
   apply Jr (γ:=(Option Addr) × Nat) hx [0,1,2,3,12,13] (fun s1 y1 f=>(9,.slice (y1.1) ((s1).length) (y1.2))::f) [999] (fun s1 y1 l=>.r (y1.1) ((s1).length) (y1.2) 3 1 ((s1).flatMap Aq)::l);exact kk
   ·intro s1 y1 hx;exact au
   ·intro _ hx;try (refine pre ?_;intros;rename_i hx)
    refine Bn ?_;try (refine pre ?_;intros;rename_i hx)
    refine Bn ?_;try (refine pre ?_;intros;rename_i hx)
    apply Jr (γ:=Unit) hx [0,1,2,3,9,10,12,13] (fun s2 y2 f=>(48,.bool (s2))::f) [0,999] (fun s2 y2 l=>l);exact kk
    ·intro s2 y2 hx;refine Cq3 (s:=48) hx rfl (fun _ hx=>?_) (fun _ hx=>?_)
     ·exact au
     ·try (refine pre ?_;intros;rename_i hx)
      refine Cq1 (s:=51) hx rfl (fun _ hx=>?_) (fun _ hx=>?_)
      ·try (refine pre ?_;intros;rename_i hx)
       (with_reducible apply Ag8 9 (sz:=1));exact rfl;exact aT;exact inferInstance;exact dL;exact (fun _=>rfl);exact rfl;exact rfl;exact sA
       exact au
      ·try (refine pre ?_;intros;rename_i hx)
       refine Cq1 (s:=77) hx rfl (fun _ hx=>?_) (fun _ hx=>?_)
       ·try (refine pre ?_;intros;rename_i hx)
        (with_reducible apply Ag8 9 (sz:=1));exact rfl;exact aT;exact inferInstance;exact dL;exact (fun _=>rfl);exact rfl;exact rfl;exact sA
        exact au
       ·exact au
    ·intro _ hx;exact au
  ·exact au⟩
end Go.Proofs.YtjfndjmabhbicaaGreat
