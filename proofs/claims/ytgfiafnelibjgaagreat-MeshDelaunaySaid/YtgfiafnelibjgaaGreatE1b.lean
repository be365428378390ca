/- Walks of the program, with their plain functions: the references on hulls. -/
import Derived.Test.YtgfiafnelibjgaaGreatE1
namespace Go.Proofs.YtgfiafnelibjgaaGreat
open Go Go.RowKit
theorem Asa (a0:Int) (a1:Int) (b0:Int) (b1:Int):∀ w,(Op.equalIn 10000 48 (.agg #[.int .i64 (a0),.int .i64 (a1)]) (.agg #[.int .i64 (b0),.int .i64 (b1)])).run Tryz.prog w = .ok ((((a0) == (b0)) && (((a1) == (b1)) && true))) w :=
 EqI.array (c:=1) Tryz.underlying48 (show Tryz.prog.info? 3=some Tryz.t3 from by kernel_rfl) (by kernel_rfl) (.cons (fun w=>by kernel_rfl) (fun w=>by kernel_rfl) (fun w=>run_equalIn_int w 9998 3 .i64 .i64 _ _ Tryz.underlying3) (.cons (fun w=>by kernel_rfl) (fun w=>by kernel_rfl) (fun w=>run_equalIn_int w 9998 3 .i64 .i64 _ _ Tryz.underlying3) (EqI.nil)))
instance (a0:Int) (a1:Int) (b0:Int) (b1:Int):EqSI Tryz.prog 48 [.int .i64 (a0),.int .i64 (a1)] [.int .i64 (b0),.int .i64 (b1)] ((((a0) == (b0)) && (((a1) == (b1)) && true))):=⟨Asa _ _ _ _,by kernel_rfl⟩
theorem Ru (x0:Int) (x1:Int):Dy Tryz.prog 59 2 [(0,.int .i64 x0),(1,.int .i64 x1)] 3 [.int .i64 x0,.int .i64 x1]:=fun w=>by kernel_rfl
instance (x0:Int) (x1:Int):Ms Tryz.prog 59 2 [(0,.int .i64 x0),(1,.int .i64 x1)] 3 [.int .i64 x0,.int .i64 x1]:=⟨Ru _ _⟩
noncomputable def Fc (p0:Ac) (p1:Ac) (p2:Ac):Option Bool :=
 jn (fun (s2:Bool) =>
 some s2)
 (fun j2=>bnd (Bf p0 p1 p2) fun r4 =>
 if r4=0 then (if (min p0.X p1.X)≤p2.X then (if p2.X≤(max p0.X p1.X) then (if (min p0.Y p1.Y)≤p2.Y then (j2 (decide (p2.Y≤(max p0.Y p1.Y))))
 else (j2 false))
 else (j2 false))
 else (j2 false))
 else (j2 false))
noncomputable def Ig (p0:Ac) (p1:Ac) (p2:Ac) (p3:Ac):Option Bool :=
 jn (fun (s2:Bool) =>
 some s2)
 (fun j2=>bnd (Bf p0 p1 p2) fun r5 =>
 bnd (Bf p0 p1 p3) fun r8 =>
 if (w64 (r5*r8)) < 0 then (bnd (Bf p2 p3 p0) fun r0 =>
 bnd (Bf p2 p3 p1) fun r1 =>
 j2 (decide ((w64 (r0*r1)) < 0)))
 else (j2 false))
noncomputable def Dv (p0:List Ab):Int→Option (Sum Int (Sum Unit Int)):=fun s0 =>
 if s0 < ((((p0).length:Nat):Int)) then (bnd (idx p0 s0) fun x0 =>
 bnd (Fn (⟨x0.X,x0.Y,(⟨x0.Z.Lo,x0.Z.Hi⟩:Al)⟩:Ab)) fun r0 =>
 if r0=true then (some (.inl (w64 (s0+1))))
 else (some (.inr (.inr (60)))))
 else (some (.inr (.inl ())))
noncomputable def Fg (s0:Int) (p0:List Ab):Int→Option (Sum Int (Sum Unit Int)):=fun s1 =>
 if s1 < s0 then (jn (fun (s2:Bool) =>
 if s2=true then (some (.inr (.inr (61))))
 else (some (.inl (w64 (s1+1)))))
 (fun j0=>bnd (idx p0 s0) fun x0 =>
 bnd (idx p0 s1) fun x1 =>
 if x0.X=x1.X then (bnd (idx p0 s0) fun x2 =>
 bnd (idx p0 s1) fun x3 =>
 j0 (decide (x2.Y=x3.Y)))
 else (j0 false)))
 else (some (.inr (.inl ())))
noncomputable def Dk (p0:List Ab):Int→Option (Sum Int (Sum Unit Int)):=fun s0 =>
 if s0 < ((((p0).length:Nat):Int)) then (jn (fun (s1:Unit) =>
 some (.inl (w64 (s0+1))))
 (fun j0=>bnd (lfix (Fg s0 p0) 0) fun t0 =>
 (match t0 with
 | (.inl z0)=>j0 z0
 | (.inr (z0))=>some (.inr (.inr (z0)))
 )))
 else (some (.inr (.inl ())))
noncomputable def Ef (p0:List Ab):Option Int :=
 if 1024 < ((((p0).length:Nat):Int)) then (some 2)
 else (jn (fun (s5:Unit) =>
 jn (fun (s0:Unit) =>
 some 0)
 (fun j0=>bnd (lfix (Dk p0) 0) fun t0 =>
 (match t0 with
 | (.inl z0)=>j0 z0
 | (.inr (z0))=>some z0
 )))
 (fun j5=>bnd (lfix (Dv p0) 0) fun t1 =>
 (match t1 with
 | (.inl z1)=>j5 z1
 | (.inr (z1))=>some z1
 )))
noncomputable def Cs (s0:Int) (p1:List Aa):Int→Option (Sum Int (Sum Unit Int)):=fun s1 =>
 if s1 < s0 then (jn (fun (s2:Bool) =>
 if s2=true then (some (.inr (.inr (62))))
 else (some (.inl (w64 (s1+1)))))
 (fun j0=>bnd (idx p1 s0) fun x0 =>
 bnd (idx p1 s1) fun x1 =>
 if ((((x0.a0) == (x1.a0)) && (((x0.a1) == (x1.a1)) && true)))=true then (j0 true)
 else (bnd (idx p1 s0) fun x2 =>
 bnd (idx p1 s1) fun x3 =>
 if x2.a0=x3.a1 then (bnd (idx p1 s0) fun x4 =>
 bnd (idx p1 s1) fun x5 =>
 j0 (decide (x4.a1=x5.a0)))
 else (j0 false))))
 else (some (.inr (.inl ())))
noncomputable def Es (p1:List Aa) (p0:List Ab):Int→Option (Sum Int (Sum Unit Int)):=fun s0 =>
 if s0 < ((((p1).length:Nat):Int)) then (jn (fun (s1:Unit) =>
 some (.inl (w64 (s0+1))))
 (fun j0=>jn (fun (s2:Bool) =>
 if s2=true then (some (.inr (.inr (62))))
 else (bnd (lfix (Cs s0 p1) 0) fun t0 =>
 (match t0 with
 | (.inl z0)=>j0 z0
 | (.inr (z0))=>some (.inr (.inr (z0)))
 )))
 (fun j1=>bnd (idx p1 s0) fun x0 =>
 if x0.a0 < 0 then (j1 true)
 else (bnd (idx p1 s0) fun x1 =>
 if ((((p0).length:Nat):Int))≤x1.a0 then (j1 true)
 else (bnd (idx p1 s0) fun x2 =>
 if x2.a1 < 0 then (j1 true)
 else (bnd (idx p1 s0) fun x3 =>
 if ((((p0).length:Nat):Int))≤x3.a1 then (j1 true)
 else (bnd (idx p1 s0) fun x4 =>
 bnd (idx p1 s0) fun x5 =>
 j1 (decide (x4.a0=x5.a1)))))))))
 else (some (.inr (.inl ())))
noncomputable def Cl (p0:List Ab) (p1:List Aa) (s0:Int) (s1:Int × Int × Int × Int):Int→Option (Sum Int (Sum Unit Int)):=fun s2 =>
 if s2 < ((((p0).length:Nat):Int)) then (jn (fun (s3:Bool) =>
 if s3=true then (some (.inr (.inr (63))))
 else (some (.inl (w64 (s2+1)))))
 (fun j0=>bnd (idx p1 s0) fun x0 =>
 if s2=x0.a0 then (j0 false)
 else (bnd (idx p1 s0) fun x1 =>
 if s2=x1.a1 then (j0 false)
 else (bnd (idx p0 s2) fun x2 =>
 bnd (Aj (⟨x2.X,x2.Y,(⟨x2.Z.Lo,x2.Z.Hi⟩:Al)⟩:Ab)) fun r0 =>
 bnd (Fc (⟨s1.1,s1.2.1⟩:Ac) (⟨s1.2.2.1,s1.2.2.2⟩:Ac) r0) fun r1 =>
 j0 r1))))
 else (some (.inr (.inl ())))
noncomputable def Cm (s0:Int) (p1:List Aa) (p0:List Ab) (s1:Int × Int × Int × Int):Int→Option (Sum Int (Sum Unit Int)):=fun s2 =>
 if s2 < s0 then (bnd (idx p1 s2) fun x0 =>
 bnd (idx p0 x0.a0) fun x1 =>
 bnd (idx p1 s2) fun x2 =>
 bnd (idx p0 x2.a1) fun x3 =>
 bnd (Aj (⟨x1.X,x1.Y,(⟨x1.Z.Lo,x1.Z.Hi⟩:Al)⟩:Ab)) fun r0 =>
 bnd (Aj (⟨x3.X,x3.Y,(⟨x3.Z.Lo,x3.Z.Hi⟩:Al)⟩:Ab)) fun r1 =>
 bnd (Ig (⟨s1.1,s1.2.1⟩:Ac) (⟨s1.2.2.1,s1.2.2.2⟩:Ac) r0 r1) fun r2 =>
 if r2=true then (some (.inr (.inr (63))))
 else (some (.inl (w64 (s2+1)))))
 else (some (.inr (.inl ())))
noncomputable def Dz (p1:List Aa) (p0:List Ab):Int→Option (Sum Int (Sum Unit Int)):=fun s0 =>
 if s0 < ((((p1).length:Nat):Int)) then (jn (fun (s1:Unit) =>
 some (.inl (w64 (s0+1))))
 (fun j0=>jn (fun (s2:Int × Int × Int × Int) =>
 jn (fun (s3:Unit) =>
 bnd (lfix (Cm s0 p1 p0 s2) 0) fun t0 =>
 (match t0 with
 | (.inl z0)=>j0 z0
 | (.inr (z0))=>some (.inr (.inr (z0)))
 ))
 (fun j1=>bnd (lfix (Cl p0 p1 s0 s2) 0) fun t1 =>
 (match t1 with
 | (.inl z1)=>j1 z1
 | (.inr (z1))=>some (.inr (.inr (z1)))
 )))
 (fun j2=>bnd (idx p1 s0) fun x0 =>
 bnd (idx p0 x0.a0) fun x1 =>
 bnd (idx p1 s0) fun x2 =>
 bnd (idx p0 x2.a1) fun x3 =>
 bnd (Aj (⟨x1.X,x1.Y,(⟨x1.Z.Lo,x1.Z.Hi⟩:Al)⟩:Ab)) fun r0 =>
 bnd (Aj (⟨x3.X,x3.Y,(⟨x3.Z.Lo,x3.Z.Hi⟩:Al)⟩:Ab)) fun r1 =>
 j2 (r0.X,r0.Y,r1.X,r1.Y))))
 else (some (.inr (.inl ())))
noncomputable def En (p0:List Ab) (p1:List Aa):Option Int :=
 jn (fun (s2:Unit) =>
 jn (fun (s0:Unit) =>
 some 0)
 (fun j0=>bnd (lfix (Dz p1 p0) 0) fun t0 =>
 (match t0 with
 | (.inl z0)=>j0 z0
 | (.inr (z0))=>some z0
 )))
 (fun j2=>bnd (lfix (Es p1 p0) 0) fun t1 =>
 (match t1 with
 | (.inl z1)=>j2 z1
 | (.inr (z1))=>some z1
 ))
noncomputable def Ju (p0:List Ab) (p1:List Aa):Option Int :=
 bnd (Ef p0) fun r1 =>
 if r1=0 then (bnd (En p0 p1) fun r7 =>
 some r7)
 else (some r1)
noncomputable def Jp (p0:List Ab):(Int × Int)→Option (Sum (Int × Int) Int):=fun s0 =>
 if s0.2 < ((((p0).length:Nat):Int)) then (jn (fun (s1:Int) =>
 some (.inl (s1,w64 (s0.2+1))))
 (fun j0=>bnd (idx p0 s0.2) fun x0 =>
 bnd (idx p0 s0.1) fun x1 =>
 bnd (Aj (⟨x0.X,x0.Y,(⟨x0.Z.Lo,x0.Z.Hi⟩:Al)⟩:Ab)) fun r0 =>
 bnd (Aj (⟨x1.X,x1.Y,(⟨x1.Z.Lo,x1.Z.Hi⟩:Al)⟩:Ab)) fun r1 =>
 bnd (Dg r0 r1) fun r2 =>
 if r2=true then (j0 s0.2)
 else (j0 s0.1)))
 else (some (.inr s0.1))
noncomputable def Ih (p0:List Ab):Option Int :=
 jn (fun (s3:Int) =>
 some s3)
 (fun j3=>bnd (lfix (Jp p0) (0,0)) fun t0 =>
 j3 t0)
noncomputable def Gr (p0:List Ab) (p1:Int) (p2:Bool):(Int × Int)→Option (Sum (Int × Int) Int):=fun s0 =>
 if s0.2 < ((((p0).length:Nat):Int)) then (jn (fun (s1:Int) =>
 some (.inl (s1,w64 (s0.2+1))))
 (fun j0=>if s0.2=p1 then (j0 s0.1)
 else (if s0.1 < 0 then (j0 s0.2)
 else (bnd (idx p0 p1) fun x0 =>
 bnd (idx p0 s0.1) fun x1 =>
 bnd (idx p0 s0.2) fun x2 =>
 bnd (Aj (⟨x0.X,x0.Y,(⟨x0.Z.Lo,x0.Z.Hi⟩:Al)⟩:Ab)) fun r0 =>
 bnd (Aj (⟨x1.X,x1.Y,(⟨x1.Z.Lo,x1.Z.Hi⟩:Al)⟩:Ab)) fun r1 =>
 bnd (Aj (⟨x2.X,x2.Y,(⟨x2.Z.Lo,x2.Z.Hi⟩:Al)⟩:Ab)) fun r2 =>
 bnd (Bf r0 r1 r2) fun r3 =>
 jn (fun (s2:Bool) =>
 if s2=true then (j0 s0.2)
 else (j0 s0.1))
 (fun j1=>if r3 < 0 then (j1 true)
 else (if r3=0 then (bnd (Fc r0 r1 r2) fun r4 =>
 j1 (!((r4) == (p2))))
 else (j1 false)))))))
 else (some (.inr s0.1))
noncomputable def Fa (p0:List Ab) (p1:Int) (p2:Bool):Option Int :=
 jn (fun (s3:Int) =>
 some s3)
 (fun j3=>bnd (lfix (Gr p0 p1 p2) (-1,0)) fun t0 =>
 j3 t0)
noncomputable def Ke (p0:List Ab):Int→Option (Sum Int (Sum Unit Bool)):=fun s0 =>
 if s0 < ((((p0).length:Nat):Int)) then (bnd (idx p0 0) fun x0 =>
 bnd (idx p0 1) fun x1 =>
 bnd (idx p0 s0) fun x2 =>
 bnd (Aj (⟨x0.X,x0.Y,(⟨x0.Z.Lo,x0.Z.Hi⟩:Al)⟩:Ab)) fun r0 =>
 bnd (Aj (⟨x1.X,x1.Y,(⟨x1.Z.Lo,x1.Z.Hi⟩:Al)⟩:Ab)) fun r1 =>
 bnd (Aj (⟨x2.X,x2.Y,(⟨x2.Z.Lo,x2.Z.Hi⟩:Al)⟩:Ab)) fun r2 =>
 bnd (Bf r0 r1 r2) fun r3 =>
 if r3=0 then (some (.inl (w64 (s0+1))))
 else (some (.inr (.inr (false)))))
 else (some (.inr (.inl ())))
noncomputable def Jb (p0:List Ab):Option Bool :=
 jn (fun (s2:Unit) =>
 some true)
 (fun j2=>bnd (lfix (Ke p0) 2) fun t0 =>
 (match t0 with
 | (.inl z0)=>j2 z0
 | (.inr (z0))=>some z0
 ))
noncomputable def Gk (p0:List Ab):(Int × Int)→Option (Sum (Int × Int) Int):=fun s0 =>
 if s0.2 < ((((p0).length:Nat):Int)) then (jn (fun (s1:Int) =>
 some (.inl (s1,w64 (s0.2+1))))
 (fun j0=>bnd (idx p0 s0.1) fun x0 =>
 bnd (idx p0 s0.2) fun x1 =>
 bnd (Aj (⟨x0.X,x0.Y,(⟨x0.Z.Lo,x0.Z.Hi⟩:Al)⟩:Ab)) fun r0 =>
 bnd (Aj (⟨x1.X,x1.Y,(⟨x1.Z.Lo,x1.Z.Hi⟩:Al)⟩:Ab)) fun r1 =>
 bnd (Dg r0 r1) fun r2 =>
 if r2=true then (j0 s0.2)
 else (j0 s0.1)))
 else (some (.inr s0.1))
noncomputable def Cg (r0:Int) (p0:List Ab):((List Int) × Int)→Option (Sum ((List Int) × Int) (List Int)):=fun s0 =>
 if s0.2=r0 then (some (.inr s0.1))
 else (gd (((s0.1).length+1)*8≤140737488355328) <|
 bnd (Fa p0 s0.2 true) fun r1 =>
 some (.inl (s0.1++[s0.2],r1)))
noncomputable def Ek (p0:List Ab):Option ((List Int) × Int) :=
 bnd (Ef p0) fun r1 =>
 if r1=0 then (if ((((p0).length:Nat):Int))=0 then (some (([]:List Int),0))
 else (bnd (Ih p0) fun r0 =>
 bnd (Jb p0) fun r2 =>
 if r2=true then (jn (fun (s0:Int) =>
 if s0=r0 then (some ([r0],0))
 else (some ([r0,s0],0)))
 (fun j0=>bnd (lfix (Gk p0) (r0,0)) fun t0 =>
 j0 t0))
 else (jn (fun (s1:List Int) =>
 some (s1,0))
 (fun j1=>bnd (Fa p0 r0 true) fun r3 =>
 bnd (lfix (Cg r0 p0) ([r0],r3)) fun t1 =>
 j1 t1))))
 else (some (([]:List Int),r1))
set_option maxHeartbeats 1000000 in
set_option maxRecDepth 100000 in
instance Ud (p0:Ac) (p1:Ac) (p2:Ac):Con (Fc p0 p1 p2) Tryz.prog 108 (fun _ vs=>vs=[.agg #[.int .i64 (p0.X),.int .i64 (p0.Y)],.agg #[.int .i64 (p1.X),.int .i64 (p1.Y)],.agg #[.int .i64 (p2.X),.int .i64 (p2.Y)]]) (fun _ r=>fun v Ln=>v = .bool (r)∧Ln=[]∧True):=⟨by
 rintro _ _ r rfl hx w hK;unfold Fc at hx;refine CtS Tryz.ntmps108 Tryz.results108 ?_;refine pre ?_;intros;rename_i hx
 refine Ka ?_;refine pre ?_;intros;rename_i hx
 apply Jr (γ:=Unit) hx [] (fun s2 y2 f=>(6,.bool (s2))::f) [999] (fun s2 y2 l=>l);exact kk
 ·intro s2 y2 hx;exact au
 ·intro _ hx;refine pre ?_;intros;rename_i hx
  refine Cq1 (s:=12) hx rfl (fun _ hx=>?_) (fun _ hx=>?_)
  ·exact au
  ·exact au⟩
theorem Tv (p0:Ac) (p1:Ac) (p2:Ac)  {r:Bool} (hx:Fc p0 p1 p2=some r) (w:World):CtL Tryz.prog 108 [.agg #[.int .i64 (p0.X),.int .i64 (p0.Y)],.agg #[.int .i64 (p1.X),.int .i64 (p1.Y)],.agg #[.int .i64 (p2.X),.int .i64 (p2.Y)]] w fun v Ln=>v = .bool (r)∧Ln=[]∧True:=(Ud p0 p1 p2).h [] _ _ rfl hx w (fun _ h=>absurd h List.not_mem_nil)
set_option maxHeartbeats 1000000 in
set_option maxRecDepth 100000 in
instance Wv (p0:Ac) (p1:Ac) (p2:Ac) (p3:Ac):Con (Ig p0 p1 p2 p3) Tryz.prog 109 (fun _ vs=>vs=[.agg #[.int .i64 (p0.X),.int .i64 (p0.Y)],.agg #[.int .i64 (p1.X),.int .i64 (p1.Y)],.agg #[.int .i64 (p2.X),.int .i64 (p2.Y)],.agg #[.int .i64 (p3.X),.int .i64 (p3.Y)]]) (fun _ r=>fun v Ln=>v = .bool (r)∧Ln=[]∧True):=⟨by
 rintro _ _ r rfl hx w hK;unfold Ig at hx;have:=dl 1 [1,1,1,2,1,1,1,2,0,0,0,1,1,1,2,1,1,1,2,0,0,0,2] [0,1,2,4,5,6,3,7,8,9,10,11,12,13,15,16,17,14,18,19,20,21,22];refine CtS Tryz.ntmps109 Tryz.results109 ?_;exact au⟩
theorem Wf (p0:Ac) (p1:Ac) (p2:Ac) (p3:Ac)  {r:Bool} (hx:Ig p0 p1 p2 p3=some r) (w:World):CtL Tryz.prog 109 [.agg #[.int .i64 (p0.X),.int .i64 (p0.Y)],.agg #[.int .i64 (p1.X),.int .i64 (p1.Y)],.agg #[.int .i64 (p2.X),.int .i64 (p2.Y)],.agg #[.int .i64 (p3.X),.int .i64 (p3.Y)]] w fun v Ln=>v = .bool (r)∧Ln=[]∧True:=(Wv p0 p1 p2 p3).h [] _ _ rfl hx w (fun _ h=>absurd h List.not_mem_nil)
set_option maxHeartbeats 1000000 in
set_option maxRecDepth 100000 in
instance Tw (p0:List Ab):Con (Ef p0) Tryz.prog 51 (fun K vs=>∃ (A0_0:Option Addr) (c0_0:Nat),vs=[.slice (A0_0) ((p0).length) (c0_0)]∧Has K A0_0 (p0).length c0_0 4 Ah (p0)∧True) (fun _ r=>fun v Ln=>v = .int .i64 (r)∧Ln=[]∧True):=⟨by
 rintro K _ r ⟨A0_0,c0_0,rfl,ha0,-⟩ hx w hK;replace ha0:=Has.lo ha0 hK;unfold Ef at hx;have:=dl 15 [0,0,0,0,1,0,0,0,0,1,0,0,0,0,0,0,1,0,0,0,0,1,0,0] [0,1,2,3,4,5,6,7,8,9,10,11,12,13,14,15,16,17,18,19,20,21,22,23];refine CtS Tryz.ntmps51 Tryz.results51 ?_;refine pre ?_;intros;rename_i hx
 refine Cq1 (s:=8) hx rfl (fun _ hx=>?_) (fun _ hx=>?_)
 ·exact au
 ·refine pre ?_;intros;rename_i hx
  apply Jr (γ:=Unit) hx [0] (fun s5 y5 f=>f) [999] (fun s5 y5 l=>l);exact kk
  ·intro s5 y5 hx;apply Jr (γ:=Unit) hx [] (fun s19 y19 f=>f) [999] (fun s19 y19 l=>l);exact kk
   ·intro s19 y19 hx;exact au
   ·intro _ hx;refine pre ?_;intros;rename_i hx
    apply Lr (γ:=Unit) hx [0,22] (fun s166 y166 f=>(23,.int .i64 (s166))::f) [999] (fun s166 y166 l=>l) ();exact kk;exact sk;intro s166 y166 x166 hx _;unfold Dk at hx
    refine pre ?_;intros;rename_i hx
    refine Cq1 (s:=24) hx rfl (fun _ hx=>?_) (fun _ hx=>?_)
    ·refine pre ?_;intros;rename_i hx
     apply Jr (γ:=Unit) hx [0,22,23] (fun s38 y38 f=>f) [999] (fun s38 y38 l=>l);exact kk
     ·intro s38 y38 hx;exact au
     ·intro _ hx;refine pre ?_;intros;rename_i hx
      apply Lr (γ:=Unit) hx [0,4,22,23] (fun s226 y226 f=>(5,.int .i64 (s226))::f) [999] (fun s226 y226 l=>l) ();exact kk;exact sk;intro s226 y226 x226 hx _;unfold Fg at hx
      exact au
    ·exact au
  ·intro _ hx;refine pre ?_;intros;rename_i hx
   apply Lr (γ:=Unit) hx [0,10] (fun s25 y25 f=>(11,.int .i64 (s25))::f) [999] (fun s25 y25 l=>l) ();exact kk;exact sk;intro s25 y25 x25 hx _;unfold Dv at hx
   exact au⟩
theorem Sq (p0:List Ab) {K:List Ent} {A0_0:Option Addr} {c0_0:Nat} (ha0:Has K A0_0 (p0).length c0_0 4 Ah (p0)) {r:Int} (hx:Ef p0=some r) (w:World) (hK:∀ e∈K,Ent.ok w e):CtL Tryz.prog 51 [.slice (A0_0) ((p0).length) (c0_0)] w fun v Ln=>v = .int .i64 (r)∧Ln=[]∧True:=(Tw p0).h K _ _ ⟨_,_,rfl,ha0,trivial⟩ hx w hK
set_option maxHeartbeats 1000000 in
set_option maxRecDepth 100000 in
theorem Rk (p0:List Ab) (p1:List Aa) {K:List Ent} {A0_0:Option Addr} {c0_0:Nat} {A0_1:Option Addr} {c0_1:Nat} (ha0:Has K A0_0 p0.length c0_0 4 Ah (p0)) (ha1:Has K A0_1 p1.length c0_1 2 Ak (p1)) {r:Int} (hx:En p0 p1=some r) (w:World) (hK:∀ e∈K,Ent.ok w e):CtL Tryz.prog 52 [.slice (A0_0) (p0.length) (c0_0),.slice (A0_1) (p1.length) (c0_1)] w fun v Ln=>v = .int .i64 (r)∧Ln=[]∧True:=by
 have ha0':=Has.up0 ha0;have ha1':=Has.up0 ha1;refine CtL.mk 187 Tryz.func52 rfl Tryz.ntmps52 (by kernel_rfl) rfl ?_;show T 187 _ [(0,.slice (A0_0) (p0.length) (c0_0)),(1,.slice (A0_1) (p1.length) (c0_1))] _;unfold En at hx;refine Y5 ?_;refine Tj (γ:=Unit) hx (fun s2 y2=>[(0,.slice (A0_0) (p0.length) (c0_0)),(1,.slice (A0_1) (p1.length) (c0_1))]) (fun s2 y2=>[]++[.old w]) (fun s2 y2=>True) (fun s2 y2 hx0 hG0=>?_) (fun j2 hx=>?_)
 ·refine Tj (γ:=Unit) hx0 (fun s0 y0=>[]) (fun s0 y0=>[]++[.old w]) (fun s0 y0=>True) (fun s0 y0 hx1 hG1=>?_) (fun j0 hx0=>?_)
  ·refine Y6 ?_;obtain rfl:=Option.some.inj hx1;exact Di (rs:=[.tmp 4]) Tryz.results52 (.tmp rfl (.nil)) (Ln:=[]) ⟨rfl,rfl,trivial⟩ (Ec) (by exact .refl)
  ·refine Y3 ?_;refine Ao (Dj rfl 48 Tryz.underlying23) rfl ?_;refine Y4 ?_;obtain ⟨t0,hl0,ho0⟩:=Ag hx0;refine Lp (σ:=Int) (γ:=Unit) hl0 (fun s1 y1=>[(0,.slice (A0_0) (p0.length) (c0_0)),(1,.slice (A0_1) (p1.length) (c0_1)),(106,.int .i64 (((p1.length:Nat):Int))),(107,.int .i64 (s1))]) (fun s1 y1=>[]++[.old w]) (fun s1 y1=>True) () trivial (by exact .refl) ?_;intro s1 y1 hG2 x0 hx2 ht0;unfold Dz at hx2;refine Y6 ?_;refine Ti hx2 (s:=108) rfl (fun h0 hx3=>?_) (fun h0 hx4=>?_)
   ·refine Y3 ?_;refine Tj (γ:=Unit) hx3 (fun s3 y3=>[(0,.slice (A0_0) (p0.length) (c0_0)),(1,.slice (A0_1) (p1.length) (c0_1)),(106,.int .i64 (((p1.length:Nat):Int))),(107,.int .i64 (s1))]) (fun s3 y3=>[]++[.old w]) (fun s3 y3=>True) (fun s3 y3 hx5 hG3=>?_) (fun j1 hx3=>?_)
    ·refine Y4 ?_;exact Rp (w64 (s1+1)) () hx5 trivial (by exact .refl)
    ·refine Y7 ?_;refine Tj (γ:=Nat × Nat) hx3 (fun s4 y4=>[(0,.slice (A0_0) (p0.length) (c0_0)),(1,.slice (A0_1) (p1.length) (c0_1)),(7,.int .i64 (s1)),(8,.pointer (some ⟨y4.1,0,none⟩)),(9,.pointer (some ⟨y4.2,0,none⟩)),(106,.int .i64 (((p1.length:Nat):Int))),(107,.int .i64 (s1))]) (fun s4 y4=>[.m y4.2 38 [.int .i64 (s4.2.2.1),.int .i64 (s4.2.2.2)],.m y4.1 38 [.int .i64 (s4.1),.int .i64 (s4.2.1)]]++[.old w]) (fun s4 y4=>True) (fun s4 y4 hx6 hG4=>?_) (fun j3 hx3=>?_)
     ·refine Tj (γ:=Unit) hx6 (fun s5 y5=>[(0,.slice (A0_0) (p0.length) (c0_0)),(1,.slice (A0_1) (p1.length) (c0_1)),(7,.int .i64 (s1)),(8,.pointer (some ⟨y4.1,0,none⟩)),(9,.pointer (some ⟨y4.2,0,none⟩)),(106,.int .i64 (((p1.length:Nat):Int))),(107,.int .i64 (s1))]) (fun s5 y5=>[.m y4.2 38 [.int .i64 (s4.2.2.1),.int .i64 (s4.2.2.2)],.m y4.1 38 [.int .i64 (s4.1),.int .i64 (s4.2.1)]]++[.old w]) (fun s5 y5=>True) (fun s5 y5 hx7 hG5=>?_) (fun j4 hx6=>?_)
      ·refine Y6 ?_;obtain ⟨t1,hl1,ho1⟩:=Ag hx7;refine Lp (σ:=Int) (γ:=Unit) hl1 (fun s6 y6=>[(0,.slice (A0_0) (p0.length) (c0_0)),(1,.slice (A0_1) (p1.length) (c0_1)),(7,.int .i64 (s1)),(8,.pointer (some ⟨y4.1,0,none⟩)),(9,.pointer (some ⟨y4.2,0,none⟩)),(11,.int .i64 (s6)),(106,.int .i64 (((p1.length:Nat):Int))),(107,.int .i64 (s1))]) (fun s6 y6=>[.m y4.2 38 [.int .i64 (s4.2.2.1),.int .i64 (s4.2.2.2)],.m y4.1 38 [.int .i64 (s4.1),.int .i64 (s4.2.1)]]++[.old w]) (fun s6 y6=>True) () trivial (by exact .pick 0 rfl (.pick 0 rfl (.refl))) ?_;intro s6 y6 hG6 x1 hx8 ht1;unfold Cm at hx8;refine Y8 ?_;refine Ti hx8 (s:=162) rfl (fun h1 hx9=>?_) (fun h1 hx10=>?_)
       ·refine Y6 ?_;refine T_dr [1,1,0,0,0,0,0,1,0,1,2,0,0,0,0,0,1,0,1,2,2] (.q 0 (.q 1 (.q 2 (.q 3 (.q 4 (.q 5 (.q 6 (.q 7 (.q 8 (.q 9 (.q 11 (.q 12 (.q 13 (.q 14 (.q 15 (.q 16 (.q 17 (.q 18 (.e 10 (.e 19 (.e 20 (.done) (.stop)) (.stop)) (.stop)))))))))))))))))))) mixed (by kernel_rfl) (by kernel_rfl) ?_;refine P_q rfl rfl (Ba rfl (i:=1) rfl rfl Dq) rfl ?_;refine P_q rfl rfl (Ba rfl (i:=0) rfl rfl Dq) rfl ?_;refine Y3 ?_;obtain ⟨x2,h2,hx11⟩:=Ag hx9;have hw0:=Has.low (E:=[]) ha1' hK;obtain ⟨b0,o0,j5,hA0,hj0,hl2,hp0⟩:=Has.at_idx hw0 h2;refine P_p rfl rfl (Bc rfl rfl hA0 (j:=j5) hj0 hl2 Iv) rfl ?_;refine P_p rfl rfl (Ar rfl rfl Cd (by decide) (by decide) rfl) rfl ?_;refine P_q rfl rfl (Dn (d:=0) rfl hp0 (sb 2) rfl one3) rfl ?_;obtain ⟨x3,h3,hx12⟩:=Ag hx11;refine P_il (Has.low (E:=[]) ha0' hK) h3 Pq Oe (sb 2) (fun b1 o1=>?_);refine Y3 ?_;obtain ⟨x4,h4,hx13⟩:=Ag hx12;have hw2:=Has.low (E:=[]) ha1' hK;obtain ⟨b2,o2,j6,hA1,hj1,hl3,hp1⟩:=Has.at_idx hw2 h4;refine P_p rfl rfl (Bc rfl rfl hA1 (j:=j6) hj1 hl3 Iv) rfl ?_;refine P_p rfl rfl (Ar rfl rfl Cd (by decide) (by decide) rfl) rfl ?_;refine P_q rfl rfl (Dn (d:=1) rfl hp1 (sb 2) rfl one3) rfl ?_;obtain ⟨x5,h5,hx14⟩:=Ag hx13
        refine P_il (Has.low (E:=[]) ha0' hK) h5 Pq Oe (sb 2) (fun b3 o3=>?_);obtain ⟨r0,h6,hx15⟩:=Ag hx14;refine Pc (fun w1 hw1=>Ee (⟨x3.X,x3.Y,(⟨x3.Z.Lo,x3.Z.Hi⟩:Al)⟩:Ab)  h6 w1) ?_;obtain ⟨r1,h7,hx16⟩:=Ag hx15;refine Pc (fun w1 hw1=>Ee (⟨x5.X,x5.Y,(⟨x5.Z.Lo,x5.Z.Hi⟩:Al)⟩:Ab)  h7 w1) ?_;obtain ⟨r2,h8,hx17⟩:=Ag hx16;refine Pc (fun w1 hw1=>Wf (⟨s4.1,s4.2.1⟩:Ac) (⟨s4.2.2.1,s4.2.2.2⟩:Ac) r0 r1  h8 w1) ?_;refine Y2 ?_;refine Do (s:=185) rfl (fun h9=>?_) (fun h9=>?_)
        ·have hx18:=Df h9 hx17;refine Y9 ?_;obtain rfl:=Ck ht1 hx18;refine Y4 ?_;obtain rfl:=Ck ht0 ho1;refine Y3 ?_;obtain rfl:=Option.some.inj ho0;exact Di (rs:=[.tmp 4]) Tryz.results52 (.tmp rfl (.nil)) (Ln:=[]) ⟨rfl,rfl,trivial⟩ (Ec) (by exact .drop 0 rfl (.drop 0 rfl (.refl)))
        ·have hx19:=Dw h9 hx17;refine Y9 ?_;exact Rp (w64 (s6+1)) () hx19 trivial (by exact .pick 0 rfl (.pick 0 rfl (.refl)))
       ·refine Y3 ?_;obtain rfl:=Ck ht1 hx10;refine Y3 ?_;exact Mt () () ho1 trivial (by exact .drop 0 rfl (.drop 0 rfl (.refl)))
      ·refine Y3 ?_;refine Ao (Dj rfl 43 Tryz.underlying22) rfl ?_;refine Y4 ?_;obtain ⟨t2,hl4,ho2⟩:=Ag hx6;refine Lp (σ:=Int) (γ:=Unit) hl4 (fun s7 y7=>[(0,.slice (A0_0) (p0.length) (c0_0)),(1,.slice (A0_1) (p1.length) (c0_1)),(7,.int .i64 (s1)),(8,.pointer (some ⟨y4.1,0,none⟩)),(9,.pointer (some ⟨y4.2,0,none⟩)),(106,.int .i64 (((p1.length:Nat):Int))),(107,.int .i64 (s1)),(129,.int .i64 (((p0.length:Nat):Int))),(130,.int .i64 (s7))]) (fun s7 y7=>[.m y4.2 38 [.int .i64 (s4.2.2.1),.int .i64 (s4.2.2.2)],.m y4.1 38 [.int .i64 (s4.1),.int .i64 (s4.2.1)]]++[.old w]) (fun s7 y7=>True) () trivial (by exact .pick 0 rfl (.pick 0 rfl (.refl))) ?_;intro s7 y7 hG7 x6 hx20 ht2;unfold Cl at hx20;refine Y6 ?_;refine Ti hx20 (s:=131) rfl (fun h10 hx21=>?_) (fun h10 hx22=>?_)
       ·refine Y11 ?_;refine Tj (γ:=Unit) hx21 (fun s8 y8=>[(0,.slice (A0_0) (p0.length) (c0_0)),(1,.slice (A0_1) (p1.length) (c0_1)),(7,.int .i64 (s1)),(8,.pointer (some ⟨y4.1,0,none⟩)),(9,.pointer (some ⟨y4.2,0,none⟩)),(106,.int .i64 (((p1.length:Nat):Int))),(107,.int .i64 (s1)),(129,.int .i64 (((p0.length:Nat):Int))),(130,.int .i64 (s7)),(158,.bool (s8))]) (fun s8 y8=>[.m y4.2 38 [.int .i64 (s4.2.2.1),.int .i64 (s4.2.2.2)],.m y4.1 38 [.int .i64 (s4.1),.int .i64 (s4.2.1)]]++[.old w]) (fun s8 y8=>True) (fun s8 y8 hx23 hG8=>?_) (fun j7 hx21=>?_)
        ·refine Do (s:=158) rfl (fun h11=>?_) (fun h11=>?_)
         ·have hx24:=Df h11 hx23;refine Y9 ?_;obtain rfl:=Ck ht2 hx24;refine Y5 ?_;obtain rfl:=Ck ht0 ho2;refine Y3 ?_;obtain rfl:=Option.some.inj ho0;exact Di (rs:=[.tmp 4]) Tryz.results52 (.tmp rfl (.nil)) (Ln:=[]) ⟨rfl,rfl,trivial⟩ (Ec) (by exact .drop 0 rfl (.drop 0 rfl (.refl)))
         ·have hx25:=Dw h11 hx23;refine Y8 ?_;exact Rp (w64 (s7+1)) () hx25 trivial (by exact .pick 0 rfl (.pick 0 rfl (.refl)))
        ·refine T_dr [0,0,0,0,0,1,0,0,0,0,0,0,0,1,0,0,0,1,1,0,0,0,1,2,2,0] (.q 0 (.q 1 (.q 2 (.q 3 (.q 4 (.q 5 (.q 6 (.q 7 (.q 8 (.q 9 (.q 10 (.q 11 (.q 12 (.q 13 (.q 14 (.q 15 (.q 16 (.q 17 (.q 18 (.q 19 (.q 20 (.q 21 (.q 22 (.e 23 (.e 24 (.q 25 (.done)) (.stop)) (.stop))))))))))))))))))))))))) mixed (by kernel_rfl) (by kernel_rfl) ?_;refine Y3 ?_;obtain ⟨x7,h12,hx26⟩:=Ag hx21;have hw3:=Has.low (E:=[]) ha1' hK;obtain ⟨b4,o4,j8,hA2,hj2,hl5,hp2⟩:=Has.at_idx hw3 h12;refine P_p rfl rfl (Bc rfl rfl hA2 (j:=j8) hj2 hl5 Iv) rfl ?_;refine P_p rfl rfl (Ar rfl rfl Cd (by decide) (by decide) rfl) rfl ?_;refine P_q rfl rfl (Dn (d:=0) rfl hp2 (sb 2) rfl one3) rfl ?_;refine Y2 ?_;refine Pf (s:=140) rfl (fun h13=>?_) (fun h13=>?_)
         ·have hx27:=Po h13 hx26;refine Y3 ?_;obtain ⟨x8,h14,hx28⟩:=Ag hx27;have hw4:=Has.low (E:=[]) ha1' hK;obtain ⟨b5,o5,j9,hA3,hj3,hl6,hp3⟩:=Has.at_idx hw4 h14;refine P_pG rfl rfl rfl rfl rfl (Bc rfl rfl hA3 (j:=j9) hj3 hl6 Iv) rfl ?_;refine P_pG rfl rfl rfl rfl rfl (Ar rfl rfl Cd (by decide) (by decide) rfl) rfl ?_;refine P_qG rfl rfl rfl rfl rfl (Dn (d:=1) rfl hp3 (sb 2) rfl one3) rfl ?_;refine Y3 ?_;refine Pf (s:=149) rfl (fun h15=>?_) (fun h15=>?_)
          ·have hx29:=Po h15 hx28;refine P_qG rfl rfl rfl rfl rfl (Ba rfl (i:=1) rfl rfl Dq) rfl ?_;refine P_qG rfl rfl rfl rfl rfl (Ba rfl (i:=0) rfl rfl Dq) rfl ?_;refine Y2 ?_;obtain ⟨x9,h16,hx30⟩:=Ag hx29;have hw5:=Has.low (E:=[]) ha0' hK;obtain ⟨b6,o6,j10,hA4,hj4,hl7,hp4⟩:=Has.at_idx hw5 h16;refine P_pG rfl rfl rfl rfl rfl (Bc rfl rfl hA4 (j:=j10) hj4 hl7 Pq) rfl ?_;refine P_qG rfl rfl rfl rfl rfl (Fe rfl hp4 (sb 2) rfl Oe) rfl ?_;obtain ⟨r3,h17,hx31⟩:=Ag hx30;refine P_xG rfl rfl rfl rfl (Bt rfl (fun w1 hw1=>Ee (⟨x9.X,x9.Y,(⟨x9.Z.Lo,x9.Z.Hi⟩:Al)⟩:Ab)  h17 w1) rfl ?_) ?_;rotate_left;exact Bx;rintro _ _ hlo ⟨rfl,rfl,-⟩;refine Eu ?_;obtain ⟨r4,h18,hx32⟩:=Ag hx31;refine P_xG rfl rfl rfl rfl (Bt rfl (fun w1 hw1=>Tv (⟨s4.1,s4.2.1⟩:Ac) (⟨s4.2.2.1,s4.2.2.2⟩:Ac) r3  h18 w1) rfl ?_) ?_;rotate_left;exact Bx;rintro _ _ hlo ⟨rfl,rfl,-⟩;refine Eu ?_;refine Y2 ?_;exact Mt r4 () hx32 trivial (by exact .pick 0 rfl (.pick 0 rfl (.refl)))
          ·have hx33:=Df h15 hx28;refine Y6 ?_;refine Fu rfl rfl rfl rfl rfl rfl ?_ ?_;rotate_left;exact Bx;refine Fu rfl rfl rfl rfl rfl rfl ?_ ?_;rotate_left;exact Bx;refine Y2 ?_;exact Mt false () hx33 trivial (by exact .pick 0 rfl (.pick 0 rfl (.refl)))
         ·have hx34:=Df h13 hx26;(iterate 15 refine Y ?_);refine Fu rfl rfl rfl rfl rfl rfl ?_ ?_;rotate_left;exact Bx;refine Fu rfl rfl rfl rfl rfl rfl ?_ ?_;rotate_left;exact Bx;refine Y2 ?_;exact Mt false () hx34 trivial (by exact .pick 0 rfl (.pick 0 rfl (.refl)))
       ·refine Y3 ?_;obtain rfl:=Ck ht2 hx22;refine Y2 ?_;exact Mt () () ho2 trivial (by exact .pick 0 rfl (.pick 0 rfl (.refl)))
     ·obtain ⟨x10,h19,hx35⟩:=Ag hx3;obtain ⟨x11,h20,hx36⟩:=Ag hx35;obtain ⟨x12,h21,hx37⟩:=Ag hx36;obtain ⟨x13,h22,hx38⟩:=Ag hx37;obtain ⟨r5,h23,hx39⟩:=Ag hx38;obtain ⟨r6,h24,hx40⟩:=Ag hx39;refine T_dr [0,0,0,0,0,1,0,1,2,0,0,0,0,0,1,0,1,2,2,2,3,3] (.q 0 (.q 1 (.q 2 (.q 3 (.q 4 (.q 5 (.q 6 (.q 7 (.q 9 (.q 10 (.q 11 (.q 12 (.q 13 (.q 14 (.q 15 (.q 16 (.e 8 (.e 17 (.e 18 (.e 19 (.e 20 (.e 21 (.done) (.stop)) (.stop)) (.stop)) (.e 19 (.e 18 (.e 20 (.e 21 (.done) (.stop)) (.stop)) (.stop)) (.stop))) (.e 18 (.e 17 (.e 19 (.e 20 (.e 21 (.done) (.stop)) (.stop)) (.stop)) (.e 19 (.e 17 (.e 20 (.e 21 (.done) (.stop)) (.stop)) (.stop)) (.stop))) (.e 19 (.e 17 (.e 18 (.e 20 (.e 21 (.done) (.stop)) (.stop)) (.stop)) (.e 18 (.e 17 (.e 20 (.e 21 (.done) (.stop)) (.stop)) (.stop)) (.stop))) (.stop)))) (.e 18 (.e 8 (.e 17 (.e 19 (.e 20 (.e 21 (.done) (.stop)) (.stop)) (.stop)) (.e 19 (.e 17 (.e 20 (.e 21 (.done) (.stop)) (.stop)) (.stop)) (.stop))) (.e 19 (.e 8 (.e 17 (.e 20 (.e 21 (.done) (.stop)) (.stop)) (.stop)) (.stop)) (.stop))) (.e 19 (.e 8 (.e 17 (.e 18 (.e 20 (.e 21 (.done) (.stop)) (.stop)) (.stop)) (.e 18 (.e 17 (.e 20 (.e 21 (.done) (.stop)) (.stop)) (.stop)) (.stop))) (.e 18 (.e 8 (.e 17 (.e 20 (.e 21 (.done) (.stop)) (.stop)) (.stop)) (.stop)) (.stop))) (.stop)))))))))))))))))))) mixed (by kernel_rfl) (by kernel_rfl) ?_;refine Y3 ?_;have hw6:=Has.low (E:=[]) ha1' hK;obtain ⟨b7,o7,j11,hA5,hj5,hl8,hp5⟩:=Has.at_idx hw6 h19
      refine P_p rfl rfl (Bc rfl rfl hA5 (j:=j11) hj5 hl8 Iv) rfl ?_;refine P_p rfl rfl (Ar rfl rfl Cd (by decide) (by decide) rfl) rfl ?_;refine P_q rfl rfl (Dn (d:=0) rfl hp5 (sb 0) rfl one3) rfl ?_;refine P_il (Has.low (E:=[]) ha0' hK) h20 Pq Oe (sb 0) (fun b8 o8=>?_);refine Y3 ?_;have hw7:=Has.low (E:=[]) ha1' hK;obtain ⟨b9,o9,j12,hA6,hj6,hl9,hp6⟩:=Has.at_idx hw7 h21;refine P_p rfl rfl (Bc rfl rfl hA6 (j:=j12) hj6 hl9 Iv) rfl ?_;refine P_p rfl rfl (Ar rfl rfl Cd (by decide) (by decide) rfl) rfl ?_;refine P_q rfl rfl (Dn (d:=1) rfl hp6 (sb 0) rfl one3) rfl ?_;refine P_il (Has.low (E:=[]) ha0' hK) h22 Pq Oe (sb 0) (fun b10 o10=>?_)
      repeat'
       first
       | (with_reducible exact Bx)
       | ((with_reducible refine P_at 8 ?_);refine P_x rfl (Bt rfl (fun w1 hw1=>Ee (⟨x11.X,x11.Y,(⟨x11.Z.Lo,x11.Z.Hi⟩:Al)⟩:Ab)  h23 w1) rfl ?_) ?_)
       | ((with_reducible refine P_at 17 ?_);refine P_x rfl (Bt rfl (fun w1 hw1=>Ee (⟨x13.X,x13.Y,(⟨x13.Z.Lo,x13.Z.Hi⟩:Al)⟩:Ab)  h24 w1) rfl ?_) ?_)
       | ((with_reducible refine P_at 18 ?_);refine P_x rfl (Eb Ad2 rfl (fun g=>?_)) ?_)
       | ((with_reducible refine P_at 19 ?_);refine P_x rfl (Eb Ad2 rfl (fun g=>?_)) ?_)
       | ((with_reducible refine P_at 20 ?_);refine P_h rfl rfl (Cj rfl rfl rfl (.there (.here)) (.put (.put (.done))) rfl (List.cons_ne_nil _ _) Dq.2 ?_) ?_)
       | ((with_reducible refine P_at 21 ?_);refine P_h rfl rfl (Cj rfl rfl rfl (.here) (.put (.put (.done))) rfl (List.cons_ne_nil _ _) Dq.2 ?_) ?_)
       | ((with_reducible refine Ao1 ?_);exact Aii (r5.X,r5.Y,r6.X,r6.Y) (_,_) hx40 trivial (by repeat (first | exact .nil | refine .cons rfl ?_)) (by repeat (first | exact .refl | refine .pick 0 rfl ?_ | refine .pick 1 rfl ?_ | refine .pick 2 rfl ?_ | refine .pick 3 rfl ?_ | refine .pick 4 rfl ?_ | refine .pick 5 rfl ?_ | refine .pick 6 rfl ?_ | refine .pick 7 rfl ?_)))
       | ((with_reducible refine P_at 20 ?_);refine P_h rfl rfl (Cj rfl rfl rfl (.here) (.put (.put (.done))) rfl (List.cons_ne_nil _ _) Dq.2 ?_) ?_)
       | ((with_reducible refine P_at 21 ?_);refine P_h rfl rfl (Cj rfl rfl rfl (.there (.here)) (.put (.put (.done))) rfl (List.cons_ne_nil _ _) Dq.2 ?_) ?_)
       | (rintro _ _ hlo ⟨rfl,rfl,-⟩;refine Eu ?_)
   ·refine Y3 ?_;obtain rfl:=Ck ht0 hx4;refine Y2 ?_;exact Mt () () ho0 trivial (by exact .refl)
 ·refine Y3 ?_;refine Ao (Dj rfl 48 Tryz.underlying23) rfl ?_;refine Y4 ?_;obtain ⟨t3,hl10,ho3⟩:=Ag hx;refine Lp (σ:=Int) (γ:=Unit) hl10 (fun s9 y9=>[(0,.slice (A0_0) (p0.length) (c0_0)),(1,.slice (A0_1) (p1.length) (c0_1)),(13,.int .i64 (((p1.length:Nat):Int))),(14,.int .i64 (s9))]) (fun s9 y9=>[]++[.old w]) (fun s9 y9=>True) () trivial (by exact .refl) ?_;intro s9 y9 hG9 x14 hx41 ht3;unfold Es at hx41;refine Y6 ?_;refine Ti hx41 (s:=15) rfl (fun h25 hx42=>?_) (fun h25 hx43=>?_)
  ·refine Y3 ?_;refine Tj (γ:=Unit) hx42 (fun s24 y24=>[(0,.slice (A0_0) (p0.length) (c0_0)),(1,.slice (A0_1) (p1.length) (c0_1)),(13,.int .i64 (((p1.length:Nat):Int))),(14,.int .i64 (s9))]) (fun s24 y24=>[]++[.old w]) (fun s24 y24=>True) (fun s24 y24 hx44 hG10=>?_) (fun j24 hx42=>?_)
   ·refine Y4 ?_;exact Rp (w64 (s9+1)) () hx44 trivial (by exact .refl)
   ·refine Y8 ?_;refine Tj (γ:=Unit) hx42 (fun s27 y27=>[(0,.slice (A0_0) (p0.length) (c0_0)),(1,.slice (A0_1) (p1.length) (c0_1)),(5,.int .i64 (s9)),(13,.int .i64 (((p1.length:Nat):Int))),(14,.int .i64 (s9)),(63,.bool (s27))]) (fun s27 y27=>[]++[.old w]) (fun s27 y27=>True) (fun s27 y27 hx45 hG11=>?_) (fun j27 hx42=>?_)
    ·refine Do (s:=63) rfl (fun h26=>?_) (fun h26=>?_)
     ·have hx46:=Df h26 hx45;refine Y10 ?_;obtain rfl:=Ck ht3 hx46;refine Y3 ?_;obtain rfl:=Option.some.inj ho3;exact Di (rs:=[.tmp 4]) Tryz.results52 (.tmp rfl (.nil)) (Ln:=[]) ⟨rfl,rfl,trivial⟩ (Ec) (by exact .refl)
     ·have hx47:=Dw h26 hx45;refine Y9 ?_;obtain ⟨t4,hl11,ho4⟩:=Ag hx47;refine Lp (σ:=Int) (γ:=Unit) hl11 (fun s10 y10=>[(0,.slice (A0_0) (p0.length) (c0_0)),(1,.slice (A0_1) (p1.length) (c0_1)),(5,.int .i64 (s9)),(6,.int .i64 (s10)),(13,.int .i64 (((p1.length:Nat):Int))),(14,.int .i64 (s9))]) (fun s10 y10=>[]++[.old w]) (fun s10 y10=>True) () trivial (by exact .refl) ?_;intro s10 y10 hG12 x15 hx48 ht4;unfold Cs at hx48;refine Y8 ?_;refine Ti hx48 (s:=66) rfl (fun h27 hx49=>?_) (fun h27 hx50=>?_)
      ·refine Y5 ?_;refine Tj (γ:=Unit) hx49 (fun s38 y38=>[(0,.slice (A0_0) (p0.length) (c0_0)),(1,.slice (A0_1) (p1.length) (c0_1)),(5,.int .i64 (s9)),(6,.int .i64 (s10)),(13,.int .i64 (((p1.length:Nat):Int))),(14,.int .i64 (s9)),(103,.bool (s38))]) (fun s38 y38=>[]++[.old w]) (fun s38 y38=>True) (fun s38 y38 hx51 hG13=>?_) (fun j38 hx49=>?_)
       ·refine Do (s:=103) rfl (fun h28=>?_) (fun h28=>?_)
        ·have hx52:=Df h28 hx51;refine Y9 ?_;obtain rfl:=Ck ht4 hx52;refine Y4 ?_;obtain rfl:=Ck ht3 ho4;refine Y3 ?_;obtain rfl:=Option.some.inj ho3;exact Di (rs:=[.tmp 4]) Tryz.results52 (.tmp rfl (.nil)) (Ln:=[]) ⟨rfl,rfl,trivial⟩ (Ec) (by exact .refl)
        ·have hx53:=Dw h28 hx51;refine Y9 ?_;exact Rp (w64 (s10+1)) () hx53 trivial (by exact .refl)
       ·refine T_dr [0,0,0,1,0,0,0,1,0,0,0,0,0,0,1,0,0,0,0,1,0,0,0,0,0,0,1,0,0,0,0,1,0,0,0] (.q 0 (.q 1 (.q 2 (.q 3 (.q 4 (.q 5 (.q 6 (.q 7 (.q 8 (.q 9 (.q 10 (.q 11 (.q 12 (.q 13 (.q 14 (.q 15 (.q 16 (.q 17 (.q 18 (.q 19 (.q 20 (.q 21 (.q 22 (.q 23 (.q 24 (.q 25 (.q 26 (.q 27 (.q 28 (.q 29 (.q 30 (.q 31 (.q 32 (.q 33 (.q 34 (.done)))))))))))))))))))))))))))))))))))) mixed (by kernel_rfl) (by kernel_rfl) ?_;refine Y2 ?_;obtain ⟨x16,h29,hx54⟩:=Ag hx49;refine P_il (Has.low (E:=[]) ha1' hK) h29 Iv Fo (sb 0) (fun b11 o11=>?_);refine Y2 ?_;obtain ⟨x17,h30,hx55⟩:=Ag hx54;refine P_il (Has.low (E:=[]) ha1' hK) h30 Iv Fo (sb 0) (fun b12 o12=>?_);refine P_p rfl rfl (Abk rfl rfl (by kernel_rfl) (Asa _ _ _ _)) rfl ?_;refine Y ?_;refine Do (s:=78) rfl (fun h31=>?_) (fun h31=>?_)
        ·have hx56:=Df h31 hx55;(iterate 26 refine Y ?_);exact Mt true () hx56 trivial (by exact .refl)
        ·have hx57:=Dw h31 hx55;refine Y2 ?_;obtain ⟨x18,h32,hx58⟩:=Ag hx57;have hw8:=Has.low (E:=[]) ha1' hK;obtain ⟨b13,o13,j13,hA7,hj7,hl12,hp7⟩:=Has.at_idx hw8 h32;refine P_pG rfl rfl rfl rfl rfl (Bc rfl rfl hA7 (j:=j13) hj7 hl12 Iv) rfl ?_;refine P_pG rfl rfl rfl rfl rfl (Ar rfl rfl Cd (by decide) (by decide) rfl) rfl ?_;refine P_qG rfl rfl rfl rfl rfl (Dn (d:=0) rfl hp7 (sb 0) rfl one3) rfl ?_;refine Y2 ?_;obtain ⟨x19,h33,hx59⟩:=Ag hx58;have hw9:=Has.low (E:=[]) ha1' hK;obtain ⟨b14,o14,j14,hA8,hj8,hl13,hp8⟩:=Has.at_idx hw9 h33;refine P_pG rfl rfl rfl rfl rfl (Bc rfl rfl hA8 (j:=j14) hj8 hl13 Iv) rfl ?_;refine P_pG rfl rfl rfl rfl rfl (Ar rfl rfl Cd (by decide) (by decide) rfl) rfl ?_;refine P_qG rfl rfl rfl rfl rfl (Dn (d:=1) rfl hp8 (sb 0) rfl one3) rfl ?_;refine Y2 ?_;refine Ti hx59 (s:=90) rfl (fun h34 hx60=>?_) (fun h34 hx61=>?_)
         ·refine Y2 ?_;obtain ⟨x20,h35,hx62⟩:=Ag hx60;have hw10:=Has.low (E:=[]) ha1' hK;obtain ⟨b15,o15,j15,hA9,hj9,hl14,hp9⟩:=Has.at_idx hw10 h35;refine P_pG rfl rfl rfl rfl rfl (Bc rfl rfl hA9 (j:=j15) hj9 hl14 Iv) rfl ?_;refine P_pG rfl rfl rfl rfl rfl (Ar rfl rfl Cd (by decide) (by decide) rfl) rfl ?_;refine P_qG rfl rfl rfl rfl rfl (Dn (d:=1) rfl hp9 (sb 0) rfl one3) rfl ?_;refine Y2 ?_;obtain ⟨x21,h36,hx63⟩:=Ag hx62;have hw11:=Has.low (E:=[]) ha1' hK;obtain ⟨b16,o16,j16,hA10,hj10,hl15,hp10⟩:=Has.at_idx hw11 h36;refine P_pG rfl rfl rfl rfl rfl (Bc rfl rfl hA10 (j:=j16) hj10 hl15 Iv) rfl ?_;refine P_pG rfl rfl rfl rfl rfl (Ar rfl rfl Cd (by decide) (by decide) rfl) rfl ?_;refine P_qG rfl rfl rfl rfl rfl (Dn (d:=0) rfl hp10 (sb 0) rfl one3) rfl ?_;refine Y4 ?_;exact Mt (decide (x20.a1=x21.a0)) () hx63 trivial (by exact .refl)
         ·(iterate 14 refine Y ?_);exact Mt false () hx61 trivial (by exact .refl)
      ·refine Y3 ?_;obtain rfl:=Ck ht4 hx50;refine Y3 ?_;exact Mt () () ho4 trivial (by exact .refl)
    ·refine T_dr [0,0,0,0,1,0,0,0,0,0,0,1,0,0,0,0,0,0,0,0,0,1,0,0,0,0,0,0,0,1,0,0,0,0,0,0,0,0,0,1,0,0,0,0,1,0,0] (.q 0 (.q 1 (.q 2 (.q 3 (.q 4 (.q 5 (.q 6 (.q 7 (.q 8 (.q 9 (.q 10 (.q 11 (.q 12 (.q 13 (.q 14 (.q 15 (.q 16 (.q 17 (.q 18 (.q 19 (.q 20 (.q 21 (.q 22 (.q 23 (.q 24 (.q 25 (.q 26 (.q 27 (.q 28 (.q 29 (.q 30 (.q 31 (.q 32 (.q 33 (.q 34 (.q 35 (.q 36 (.q 37 (.q 38 (.q 39 (.q 40 (.q 41 (.q 42 (.q 43 (.q 44 (.q 45 (.q 46 (.done)))))))))))))))))))))))))))))))))))))))))))))))) mixed (by kernel_rfl) (by kernel_rfl) ?_;refine Y2 ?_;obtain ⟨x22,h37,hx64⟩:=Ag hx42;have hw12:=Has.low (E:=[]) ha1' hK;obtain ⟨b17,o17,j17,hA11,hj11,hl16,hp11⟩:=Has.at_idx hw12 h37;refine P_p rfl rfl (Bc rfl rfl hA11 (j:=j17) hj11 hl16 Iv) rfl ?_;refine P_p rfl rfl (Ar rfl rfl Cd (by decide) (by decide) rfl) rfl ?_;refine P_q rfl rfl (Dn (d:=0) rfl hp11 (sb 0) rfl one3) rfl ?_;refine Y2 ?_;refine Ti hx64 (s:=23) rfl (fun h38 hx65=>?_) (fun h38 hx66=>?_)
     ·(iterate 41 refine Y ?_);exact Mt true () hx65 trivial (by exact .refl)
     ·refine Y2 ?_;obtain ⟨x23,h39,hx67⟩:=Ag hx66;have hw13:=Has.low (E:=[]) ha1' hK;obtain ⟨b18,o18,j18,hA12,hj12,hl17,hp12⟩:=Has.at_idx hw13 h39;refine P_pG rfl rfl rfl rfl rfl (Bc rfl rfl hA12 (j:=j18) hj12 hl17 Iv) rfl ?_;refine P_pG rfl rfl rfl rfl rfl (Ar rfl rfl Cd (by decide) (by decide) rfl) rfl ?_;refine P_qG rfl rfl rfl rfl rfl (Dn (d:=0) rfl hp12 (sb 0) rfl one3) rfl ?_;refine Y ?_;refine P_pG rfl rfl rfl rfl rfl (Dj rfl 43 Tryz.underlying22) rfl ?_;refine Y3 ?_;refine Ti hx67 (s:=33) rfl (fun h40 hx68=>?_) (fun h40 hx69=>?_)
      ·(iterate 31 refine Y ?_);exact Mt true () hx68 trivial (by exact .refl)
      ·refine Y2 ?_;obtain ⟨x24,h41,hx70⟩:=Ag hx69;have hw14:=Has.low (E:=[]) ha1' hK;obtain ⟨b19,o19,j19,hA13,hj13,hl18,hp13⟩:=Has.at_idx hw14 h41;refine P_pG rfl rfl rfl rfl rfl (Bc rfl rfl hA13 (j:=j19) hj13 hl18 Iv) rfl ?_;refine P_pG rfl rfl rfl rfl rfl (Ar rfl rfl Cd (by decide) (by decide) rfl) rfl ?_;refine P_qG rfl rfl rfl rfl rfl (Dn (d:=1) rfl hp13 (sb 0) rfl one3) rfl ?_;refine Y3 ?_;refine Ti hx70 (s:=41) rfl (fun h42 hx71=>?_) (fun h42 hx72=>?_)
       ·(iterate 23 refine Y ?_);exact Mt true () hx71 trivial (by exact .refl)
       ·refine Y2 ?_;obtain ⟨x25,h43,hx73⟩:=Ag hx72;have hw15:=Has.low (E:=[]) ha1' hK;obtain ⟨b20,o20,j20,hA14,hj14,hl19,hp14⟩:=Has.at_idx hw15 h43;refine P_pG rfl rfl rfl rfl rfl (Bc rfl rfl hA14 (j:=j20) hj14 hl19 Iv) rfl ?_;refine P_pG rfl rfl rfl rfl rfl (Ar rfl rfl Cd (by decide) (by decide) rfl) rfl ?_;refine P_qG rfl rfl rfl rfl rfl (Dn (d:=1) rfl hp14 (sb 0) rfl one3) rfl ?_;refine Y ?_;refine P_pG rfl rfl rfl rfl rfl (Dj rfl 43 Tryz.underlying22) rfl ?_;refine Y3 ?_;refine Ti hx73 (s:=51) rfl (fun h44 hx74=>?_) (fun h44 hx75=>?_)
        ·(iterate 13 refine Y ?_);exact Mt true () hx74 trivial (by exact .refl)
        ·refine Y2 ?_;obtain ⟨x26,h45,hx76⟩:=Ag hx75;have hw16:=Has.low (E:=[]) ha1' hK;obtain ⟨b21,o21,j21,hA15,hj15,hl20,hp15⟩:=Has.at_idx hw16 h45;refine P_pG rfl rfl rfl rfl rfl (Bc rfl rfl hA15 (j:=j21) hj15 hl20 Iv) rfl ?_;refine P_pG rfl rfl rfl rfl rfl (Ar rfl rfl Cd (by decide) (by decide) rfl) rfl ?_;refine P_qG rfl rfl rfl rfl rfl (Dn (d:=0) rfl hp15 (sb 0) rfl one3) rfl ?_;refine Y2 ?_;obtain ⟨x27,h46,hx77⟩:=Ag hx76;have hw17:=Has.low (E:=[]) ha1' hK;obtain ⟨b22,o22,j22,hA16,hj16,hl21,hp16⟩:=Has.at_idx hw17 h46;refine P_pG rfl rfl rfl rfl rfl (Bc rfl rfl hA16 (j:=j22) hj16 hl21 Iv) rfl ?_;refine P_pG rfl rfl rfl rfl rfl (Ar rfl rfl Cd (by decide) (by decide) rfl) rfl ?_;refine P_qG rfl rfl rfl rfl rfl (Dn (d:=1) rfl hp16 (sb 0) rfl one3) rfl ?_;refine Y3 ?_;exact Mt (decide (x26.a0=x27.a1)) () hx77 trivial (by exact .refl)
  ·refine Y3 ?_;obtain rfl:=Ck ht3 hx43;refine Y2 ?_;exact Mt () () ho3 trivial (by exact .refl)
set_option maxHeartbeats 8000000 in
set_option maxRecDepth 100000 in
instance lidarref06_linesError_c (p0:List Ab) (p1:List Aa):Con (En p0 p1) Tryz.prog 52 (fun K vs=>∃ (A0_0:Option Addr) (c0_0:Nat) (A0_1:Option Addr) (c0_1:Nat),vs=[.slice (A0_0) ((p0).length) (c0_0),.slice (A0_1) ((p1).length) (c0_1)]∧Has K A0_0 (p0).length c0_0 4 Ah (p0)∧Has K A0_1 (p1).length c0_1 2 Ak (p1)∧True) (fun _ r=>fun v Ln=>v = .int .i64 (r)∧Ln=[]∧True):=⟨by
 rintro K _ r ⟨A0_0,c0_0,A0_1,c0_1,rfl,ha0,ha1,-⟩ hx w hK;exact Rk p0 p1 ha0 ha1 hx w hK⟩
set_option maxRecDepth 100000 in
instance lidarref06_Wrong_c (p0:List Ab) (p1:List Aa):Con (Ju p0 p1) Tryz.prog 10 (fun K vs=>∃ (A0_0:Option Addr) (c0_0:Nat) (A0_1:Option Addr) (c0_1:Nat),vs=[.slice (A0_0) ((p0).length) (c0_0),.slice (A0_1) ((p1).length) (c0_1)]∧Has K A0_0 (p0).length c0_0 4 Ah (p0)∧Has K A0_1 (p1).length c0_1 2 Ak (p1)∧True) (fun _ r=>fun v Ln=>v = .int .i64 (r)∧Ln=[]∧True):=⟨by
 rintro K _ r ⟨A0_0,c0_0,A0_1,c0_1,rfl,ha0,ha1,-⟩ hx w hK;replace ha0:=Has.lo ha0 hK;replace ha1:=Has.lo ha1 hK;unfold Ju at hx;refine CtS Tryz.ntmps10 Tryz.results10 ?_;exact au⟩
set_option maxHeartbeats 1000000 in
set_option maxRecDepth 100000 in
instance Ww (p0:List Ab):Con (Ih p0) Tryz.prog 129 (fun K vs=>∃ (A0_0:Option Addr) (c0_0:Nat),vs=[.slice (A0_0) ((p0).length) (c0_0)]∧Has K A0_0 (p0).length c0_0 4 Ah (p0)∧True) (fun _ r=>fun v Ln=>v = .int .i64 (r)∧Ln=[]∧True):=⟨by
 rintro K _ r ⟨A0_0,c0_0,rfl,ha0,-⟩ hx w hK;replace ha0:=Has.lo ha0 hK;unfold Ih at hx;have:=dl 5 [0,0,0,1,2,0,0,0,1,2,2] [0,1,2,3,5,6,7,8,4,9,10];refine CtS Tryz.ntmps129 Tryz.results129 ?_;refine pre ?_;intros;rename_i hx
 refine Ka ?_;refine pre ?_;intros;rename_i hx
 refine Ka ?_;refine pre ?_;intros;rename_i hx
 apply Jr (γ:=Unit) hx [] (fun s3 y3 f=>(3,.int .i64 (s3))::f) [999] (fun s3 y3 l=>l);exact kk
 ·intro s3 y3 hx;exact au
 ·intro _ hx;refine pre ?_;intros;rename_i hx
  apply Lr (γ:=Unit) hx [0,6] (fun s0 y0 f=>(3,.int .i64 (s0.1))::(7,.int .i64 (s0.2))::f) [999] (fun s0 y0 l=>l) ();exact kk;exact sk;intro s0 y0 x0 hx _;unfold Jp at hx
  exact au⟩
theorem Wg (p0:List Ab) {K:List Ent} {A0_0:Option Addr} {c0_0:Nat} (ha0:Has K A0_0 (p0).length c0_0 4 Ah (p0)) {r:Int} (hx:Ih p0=some r) (w:World) (hK:∀ e∈K,Ent.ok w e):CtL Tryz.prog 129 [.slice (A0_0) ((p0).length) (c0_0)] w fun v Ln=>v = .int .i64 (r)∧Ln=[]∧True:=(Ww p0).h K _ _ ⟨_,_,rfl,ha0,trivial⟩ hx w hK
set_option maxHeartbeats 1000000 in
set_option maxRecDepth 100000 in
instance Xz (p0:List Ab) (p1:Int) (p2:Bool):Con (Fa p0 p1 p2) Tryz.prog 131 (fun K vs=>∃ (A0_0:Option Addr) (c0_0:Nat),vs=[.slice (A0_0) ((p0).length) (c0_0),.int .i64 (p1),.bool (p2)]∧Has K A0_0 (p0).length c0_0 4 Ah (p0)∧True) (fun _ r=>fun v Ln=>v = .int .i64 (r)∧Ln=[]∧True):=⟨by
 rintro K _ r ⟨A0_0,c0_0,rfl,ha0,-⟩ hx w hK;replace ha0:=Has.lo ha0 hK;unfold Fa at hx;have:=dl 8 [0,0,0,1,2,0,0,0,1,2,0,0,0,1,2,4,4,4,3,3,3] [0,1,2,3,5,6,7,8,10,11,12,13,4,9,14,15,16,17,18,19,20] [15,16,17];refine CtS Tryz.ntmps131 Tryz.results131 ?_;refine pre ?_;intros;rename_i hx
 refine Ka ?_;refine pre ?_;intros;rename_i hx
 refine Ka ?_;refine pre ?_;intros;rename_i hx
 apply Jr (γ:=Unit) hx [] (fun s3 y3 f=>(7,.int .i64 (s3))::f) [999] (fun s3 y3 l=>l);exact kk
 ·intro s3 y3 hx;exact au
 ·intro _ hx;refine pre ?_;intros;rename_i hx
  apply Lr (γ:=Unit) hx [0,1,2,14] (fun s0 y0 f=>(7,.int .i64 (s0.1))::(15,.int .i64 (s0.2))::f) [999] (fun s0 y0 l=>l) ();exact kk;exact sk;intro s0 y0 x0 hx _;unfold Gr at hx
  refine pre ?_;intros;rename_i hx
  refine Cq1 (s:=16) hx rfl (fun _ hx=>?_) (fun _ hx=>?_)
  ·refine pre ?_;intros;rename_i hx
   apply Jr (γ:=Unit) hx [0,1,2,14,15] (fun s1 y1 f=>(7,.int .i64 (s1))::f) [999] (fun s1 y1 l=>l);exact kk
   ·intro s1 y1 hx;exact au
   ·intro _ hx;refine pre ?_;intros;rename_i hx
    refine Cq1 (s:=20) hx rfl (fun _ hx=>?_) (fun _ hx=>?_)
    ·exact au
    ·refine pre ?_;intros;rename_i hx
     refine Cq1 (s:=22) hx rfl (fun _ hx=>?_) (fun _ hx=>?_)
     ·exact au
     ·refine pre ?_;intros;rename_i hx
      apply Jr (γ:=Unit) hx [0,1,2,7,8,14,15] (fun s2 y2 f=>(56,.bool (s2))::f) [999] (fun s2 y2 l=>l);exact kk
      ·intro s2 y2 hx;exact au
      ·intro _ hx;exact au
  ·exact au⟩
theorem Qd (p0:List Ab) (p1:Int) (p2:Bool) {K:List Ent} {A0_0:Option Addr} {c0_0:Nat} (ha0:Has K A0_0 (p0).length c0_0 4 Ah (p0)) {r:Int} (hx:Fa p0 p1 p2=some r) (w:World) (hK:∀ e∈K,Ent.ok w e):CtL Tryz.prog 131 [.slice (A0_0) ((p0).length) (c0_0),.int .i64 (p1),.bool (p2)] w fun v Ln=>v = .int .i64 (r)∧Ln=[]∧True:=(Xz p0 p1 p2).h K _ _ ⟨_,_,rfl,ha0,trivial⟩ hx w hK
set_option maxHeartbeats 1000000 in
set_option maxRecDepth 100000 in
instance Ya (p0:List Ab):Con (Jb p0) Tryz.prog 130 (fun K vs=>∃ (A0_0:Option Addr) (c0_0:Nat),vs=[.slice (A0_0) ((p0).length) (c0_0)]∧Has K A0_0 (p0).length c0_0 4 Ah (p0)∧True) (fun _ r=>fun v Ln=>v = .bool (r)∧Ln=[]∧True):=⟨by
 rintro K _ r ⟨A0_0,c0_0,rfl,ha0,-⟩ hx w hK;replace ha0:=Has.lo ha0 hK;unfold Jb at hx;have:=dl 4 [0,0,1,2,0,0,1,2,0,0,0,1,2,2,0] [0,1,2,4,5,6,8,9,10,11,3,7,12,13,14];refine CtS Tryz.ntmps130 Tryz.results130 ?_;refine pre ?_;intros;rename_i hx
 refine Ka ?_;refine pre ?_;intros;rename_i hx
 apply Jr (γ:=Unit) hx [] (fun s2 y2 f=>f) [999] (fun s2 y2 l=>l);exact kk
 ·intro s2 y2 hx;exact au
 ·intro _ hx;refine pre ?_;intros;rename_i hx
  apply Lr (γ:=Unit) hx [0] (fun s0 y0 f=>(3,.int .i64 (s0))::f) [999] (fun s0 y0 l=>l) ();exact kk;exact sk;intro s0 y0 x0 hx _;unfold Ke at hx
  exact au⟩
theorem Wy (p0:List Ab) {K:List Ent} {A0_0:Option Addr} {c0_0:Nat} (ha0:Has K A0_0 (p0).length c0_0 4 Ah (p0)) {r:Bool} (hx:Jb p0=some r) (w:World) (hK:∀ e∈K,Ent.ok w e):CtL Tryz.prog 130 [.slice (A0_0) ((p0).length) (c0_0)] w fun v Ln=>v = .bool (r)∧Ln=[]∧True:=(Ya p0).h K _ _ ⟨_,_,rfl,ha0,trivial⟩ hx w hK
set_option maxRecDepth 100000 in
theorem Ue (p0:List Ab) {K:List Ent} {A0_0:Option Addr} {c0_0:Nat} (ha0:Has K A0_0 p0.length c0_0 4 Ah (p0)) {r:(List Int) × Int} (hx:Ek p0=some r) (w:World) (hK:∀ e∈K,Ent.ok w e):CtL Tryz.prog 66 [.slice (A0_0) (p0.length) (c0_0)] w fun v Ln=>∃ (A0:Option Addr) (c0:Nat),v = .tuple #[.slice (A0) (r.1.length) (c0),.int .i64 (r.2)]∧Ln=[.r A0 r.1.length c0 3 1 (r.1.flatMap Dm)]∧True:=by
 have ha0':=Has.up0 ha0;refine CtL.mk 65 Tryz.func66 rfl Tryz.ntmps66 (by kernel_rfl) rfl ?_;show T 65 _ [(0,.slice (A0_0) (p0.length) (c0_0))] _;unfold Ek at hx;refine Y10 ?_;obtain ⟨r1,h2,hx3⟩:=Ag hx;refine Tc (fun w1 hw1=>Sq p0 (Has.len' ha0') h2 w1 (Tp (K:=K) (K2:=[]) hK (by exact (sb 0)) (by exact (SubE.nil)) hw1)) ?_;refine Y9 ?_;refine Pf (s:=13) rfl (fun h4=>?_) (fun h4=>?_)
 ·have hx5:=Po h4 hx3;refine Y10 ?_;refine Bo 3 1 ?_;obtain rfl:=Option.some.inj hx5;exact Di (rs:=[.tmp 2,.tmp 3]) Tryz.results66 (.tmp rfl (.tmp rfl (.nil))) (Ln:=[.r (none) (0) (0) 3 1 ((([]:List Int)).flatMap Dm)]) ⟨none,0,rfl,rfl,trivial⟩ (Co rfl (Ec)) (by exact .pick 0 rfl (.refl))
 ·have hx6:=Df h4 hx3;refine Y7 ?_;refine Ao (Dj rfl 43 Tryz.underlying22) rfl ?_;refine Y3 ?_;refine Ti hx6 (s:=17) rfl (fun h7 hx8=>?_) (fun h7 hx9=>?_)
  ·refine Y9 ?_;refine Bo 3 1 ?_;obtain rfl:=Option.some.inj hx8;exact Di (rs:=[.tmp 2,.tmp 3]) Tryz.results66 (.tmp rfl (.tmp rfl (.nil))) (Ln:=[.r (none) (0) (0) 3 1 ((([]:List Int)).flatMap Dm)]) ⟨none,0,rfl,rfl,trivial⟩ (Co rfl (Ec)) (by exact .pick 0 rfl (.refl))
  ·refine Y6 ?_;obtain ⟨r0,h0,hx0⟩:=Ag hx9;refine Tc (fun w1 hw1=>Wg p0 (Has.len' ha0') h0 w1 (Tp (K:=K) (K2:=[]) hK (by exact (sb 0)) (by exact (SubE.nil)) hw1)) ?_;refine Y7 ?_;obtain ⟨r2,h1,hx1⟩:=Ag hx0;refine Tc (fun w1 hw1=>Wy p0 (Has.len' ha0') h1 w1 (Tp (K:=K) (K2:=[]) hK (by exact (sb 0)) (by exact (SubE.nil)) hw1)) ?_;refine Y2 ?_;refine Do (s:=21) rfl (fun h3=>?_) (fun h3=>?_)
   ·have hx2:=Df h3 hx1;refine Y7 ?_;refine Tj (γ:=Unit) hx2 (fun s0 y0=>[(5,.int .i64 (r0)),(6,.int .i64 (s0))]) (fun s0 y0=>[]++[.old w]) (fun s0 y0=>True) (fun s0 y0 hx4 hG0=>?_) (fun j0 hx2=>?_)
    ·refine Y8 ?_;refine Ti hx4 (s:=43) rfl (fun h5 hx7=>?_) (fun h5 hx10=>?_)
     ·refine Y4 ?_;refine T_x (Bu rfl (Nt _) rfl (fun g0=>?_));refine Y7 ?_;refine T_mr (enc:=Dm) (sz:=1) ([r0]) (.here) rfl rfl (fun _=>rfl) (by show 1≤maxLen;decide) ?_
      have hn0:1=([r0]).length:=by simp [Cb,Dd,List.length_append] <;> omega
      refine Ks (.here) (e':=.r (some ⟨g0,0,none⟩) (([r0]).length) (1) 3 1 (([r0]).flatMap Dm)) (by first | (rw [← hn0];done) | rfl) ?_;refine Jv (s:=2) (v':=.slice (some ⟨g0,0,none⟩) (([r0]).length) (1)) rfl (by have hn1:(1)=([r0]).length:=(by simp [Cb,Dd,List.length_append] <;> omega);first | (rw [← hn1];done) | rfl) ?_;obtain rfl:=Option.some.inj hx7;exact Di (rs:=[.tmp 2,.tmp 3]) Tryz.results66 (.tmp rfl (.tmp rfl (.nil))) (Ln:=[.r (some ⟨g0,0,none⟩) (([r0]).length) (1) 3 1 (([r0]).flatMap Dm)]) ⟨(some ⟨g0,0,none⟩),1,rfl,rfl,trivial⟩ (Co rfl (Ec)) (by exact .pick 0 rfl (.refl))
     ·refine Y7 ?_;refine T_x (Bu rfl (Ru _ _) rfl (fun g1=>?_));refine Y6 ?_;refine T_mr (enc:=Dm) (sz:=1) ([r0,s0]) (.here) rfl rfl (fun _=>rfl) (by show 2≤maxLen;decide) ?_
      have hn2:2=([r0,s0]).length:=by simp [Cb,Dd,List.length_append] <;> omega
      refine Ks (.here) (e':=.r (some ⟨g1,0,none⟩) (([r0,s0]).length) (2) 3 1 (([r0,s0]).flatMap Dm)) (by first | (rw [← hn2];done) | rfl) ?_;refine Jv (s:=2) (v':=.slice (some ⟨g1,0,none⟩) (([r0,s0]).length) (2)) rfl (by have hn3:(2)=([r0,s0]).length:=(by simp [Cb,Dd,List.length_append] <;> omega);first | (rw [← hn3];done) | rfl) ?_;obtain rfl:=Option.some.inj hx10;exact Di (rs:=[.tmp 2,.tmp 3]) Tryz.results66 (.tmp rfl (.tmp rfl (.nil))) (Ln:=[.r (some ⟨g1,0,none⟩) (([r0,s0]).length) (2) 3 1 (([r0,s0]).flatMap Dm)]) ⟨(some ⟨g1,0,none⟩),2,rfl,rfl,trivial⟩ (Co rfl (Ec)) (by exact .pick 0 rfl (.refl))
    ·refine Y3 ?_;refine Ao (Dj rfl 43 Tryz.underlying22) rfl ?_;refine Y4 ?_;obtain ⟨t0,hl0,ho0⟩:=Ag hx2;refine Lp (σ:=Int × Int) (γ:=Unit) hl0 (fun s1 y1=>[(0,.slice (A0_0) (p0.length) (c0_0)),(5,.int .i64 (r0)),(6,.int .i64 (s1.1)),(24,.int .i64 (((p0.length:Nat):Int))),(25,.int .i64 (s1.2))]) (fun s1 y1=>[]++[.old w]) (fun s1 y1=>True) () trivial (by exact .refl) ?_;intro s1 y1 hG1 x0 hx58 ht0;unfold Gk at hx58;refine Y6 ?_;refine Ti hx58 (s:=26) rfl (fun h6 hx60=>?_) (fun h6 hx61=>?_)
     ·refine Y3 ?_;refine Tj (γ:=Unit) hx60 (fun s2 y2=>[(0,.slice (A0_0) (p0.length) (c0_0)),(5,.int .i64 (r0)),(6,.int .i64 (s2)),(24,.int .i64 (((p0.length:Nat):Int))),(25,.int .i64 (s1.2))]) (fun s2 y2=>[]++[.old w]) (fun s2 y2=>True) (fun s2 y2 hx96 hG2=>?_) (fun j1 hx60=>?_)
      ·refine Y4 ?_;exact Rp (s2,w64 (s1.2+1)) () hx96 trivial (by exact .refl)
      ·refine Y8 ?_;refine T_dr [0,0,0,1,2,0,0,0,1,2,2] (.q 0 (.q 1 (.q 2 (.q 3 (.q 5 (.q 6 (.q 7 (.q 8 (.e 4 (.e 9 (.e 10 (.done) (.stop)) (.stop)) (.stop)))))))))) mixed (by kernel_rfl) (by kernel_rfl) ?_;refine Y2 ?_;obtain ⟨x1,h8,hx64⟩:=Ag hx60;refine P_il (Has.low (E:=[]) ha0' hK) h8 Pq Oe (sb 0) (fun b0 o0=>?_);refine Y2 ?_;obtain ⟨x2,h9,hx75⟩:=Ag hx64;refine P_il (Has.low (E:=[]) ha0' hK) h9 Pq Oe (sb 0) (fun b1 o1=>?_);obtain ⟨r3,h85,hx86⟩:=Ag hx75;refine Pc (fun w1 hw1=>Ee (⟨x1.X,x1.Y,(⟨x1.Z.Lo,x1.Z.Hi⟩:Al)⟩:Ab)  h85 w1) ?_;obtain ⟨r4,h88,hx89⟩:=Ag hx86;refine Pc (fun w1 hw1=>Ee (⟨x2.X,x2.Y,(⟨x2.Z.Lo,x2.Z.Hi⟩:Al)⟩:Ab)  h88 w1) ?_;obtain ⟨r5,h91,hx92⟩:=Ag hx89;refine Pc (fun w1 hw1=>Oy r3 r4  h91 w1) ?_;refine Y2 ?_;refine Do (s:=38) rfl (fun h93=>?_) (fun h93=>?_)
       ·have hx94:=Df h93 hx92;refine Y6 ?_;exact Mt s1.2 () hx94 trivial (by exact .refl)
       ·have hx95:=Dw h93 hx92;refine Y3 ?_;exact Mt s1.1 () hx95 trivial (by exact .refl)
     ·refine Y3 ?_;obtain rfl:=Ck ht0 hx61;refine Y2 ?_;exact Mt s1.1 () ho0 trivial (by exact .refl)
   ·have hx11:=Dw h3 hx1;refine Y6 ?_;refine T_x (Bu rfl (Nt _) rfl (fun g2=>?_));refine Y3 ?_;refine Tj (γ:=(Option Addr) × Nat) hx11 (fun s3 y3=>[(8,.slice (y3.1) (s3.length) (y3.2))]) (fun s3 y3=>[.r (y3.1) (s3.length) (y3.2) 3 1 (s3.flatMap Dm)]++[.old w]) (fun s3 y3=>True) (fun s3 y3 hx13 hG3=>?_) (fun j2 hx11=>?_)
    ·refine Y8 ?_;obtain rfl:=Option.some.inj hx13;exact Di (rs:=[.tmp 2,.tmp 3]) Tryz.results66 (.tmp rfl (.tmp rfl (.nil))) (Ln:=[.r (y3.1) (s3.length) (y3.2) 3 1 (s3.flatMap Dm)]) ⟨y3.1,y3.2,rfl,rfl,trivial⟩ (Co rfl (Ec)) (by exact .pick 0 rfl (.refl))
    ·refine Y4 ?_;obtain ⟨r6,h10,hx14⟩:=Ag hx11;refine Tc (fun w1 hw1=>Qd p0 r0 true (Has.len' ha0') h10 w1 (Tp (K:=K) (K2:=[]) hK (by exact (sb 1)) (by exact (SubE.nil)) hw1)) ?_;refine Y4 ?_;refine T_mr (enc:=Dm) (sz:=1) ([r0]) (.here) rfl rfl (fun _=>rfl) (by show 1≤maxLen;decide) ?_;obtain ⟨t1,hl1,ho1⟩:=Ag hx14
     have hn4:1=([r0]).length:=by simp [Cb,Dd,List.length_append] <;> omega
     refine Ks (.here) (e':=.r (some ⟨g2,0,none⟩) (([r0]).length) (1) 3 1 (([r0]).flatMap Dm)) (by first | (rw [← hn4];done) | rfl) ?_;refine Jv (s:=8) (v':=.slice (some ⟨g2,0,none⟩) (([r0]).length) (1)) rfl (by have hn5:(1)=([r0]).length:=(by simp [Cb,Dd,List.length_append] <;> omega);first | (rw [← hn5];done) | rfl) ?_;refine Lp (σ:=(List Int) × Int) (γ:=(Option Addr) × Nat) hl1 (fun s4 y4=>[(0,.slice (A0_0) (p0.length) (c0_0)),(5,.int .i64 (r0)),(8,.slice (y4.1) (s4.1.length) (y4.2)),(9,.int .i64 (s4.2))]) (fun s4 y4=>[.r (y4.1) (s4.1.length) (y4.2) 3 1 (s4.1.flatMap Dm)]++[.old w]) (fun s4 y4=>True) (some ⟨g2,0,none⟩,1) trivial (by exact .pick 0 rfl (.refl)) ?_;intro s4 y4 hG4 x3 hx16 ht1;unfold Cg at hx16;refine Y8 ?_;refine Pf (s:=56) rfl (fun h12=>?_) (fun h12=>?_)
     ·have hx18:=Po h12 hx16;refine Y8 ?_;refine T_x (Bu rfl (Nt _) rfl (fun g3=>?_));obtain ⟨h13,hx19⟩:=Bp hx18;refine T_h (Hm Dm (s4.1) [s4.2] rfl rfl rfl An0 (fun _=>rfl) (i':=0) rfl rfl rfl rfl h13 rfl (fun _ _=>.there (.here)) (fun _ _=>.drop .refl) (by decide) (fun A1 c1=>?_));refine Y7 ?_;obtain ⟨r7,h15,hx20⟩:=Ag hx19;refine Tc (fun w1 hw1=>Qd p0 s4.2 true (Has.len' ha0') h15 w1 (Tp (K:=K) (K2:=[]) hK (by exact (sb 1)) (by exact (SubE.nil)) hw1)) ?_;refine Y2 ?_;exact Rp (s4.1++[s4.2],r7) (A1,c1) hx20 trivial (by exact .pick 0 rfl (.refl))
     ·have hx21:=Df h12 hx16;refine Y3 ?_;obtain rfl:=Ck ht1 hx21;refine Y2 ?_;exact Mt s4.1 (y4.1,y4.2) ho1 trivial (by exact .pick 0 rfl (.refl))
set_option maxHeartbeats 1000000 in
set_option maxRecDepth 100000 in
instance lidarref06_Border_c (p0:List Ab):Con (Ek p0) Tryz.prog 66 (fun K vs=>∃ (A0_0:Option Addr) (c0_0:Nat),vs=[.slice (A0_0) ((p0).length) (c0_0)]∧Has K A0_0 (p0).length c0_0 4 Ah (p0)∧True) (fun _ r=>fun v Ln=>∃ (A0:Option Addr) (c0:Nat),v = .tuple #[.slice (A0) ((r.1).length) (c0),.int .i64 (r.2)]∧Ln=[.r A0 (r.1).length c0 3 1 ((r.1).flatMap Dm)]∧True):=⟨by
 rintro K _ r ⟨A0_0,c0_0,rfl,ha0,-⟩ hx w hK;exact Ue p0 ha0 hx w hK⟩
end Go.Proofs.YtgfiafnelibjgaaGreat
