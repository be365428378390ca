/- Walks of the program, with their plain functions: the references on places. -/
import Derived.Test.YtjfndjmabhbicaaGreatD5
namespace Go.Proofs.YtjfndjmabhbicaaGreat
open Go Go.RowKit
theorem Bap:Kh Tryz.prog 30 94 3:=.mk Tryz.underlying30 (show Tryz.prog.info? 94=some Tryz.t94 from by kernel_rfl) (by kernel_rfl)
instance:Mj Tryz.prog 30 94 3:=⟨Bap⟩
theorem Baq:Nf Tryz.prog 94 3:=.arr Tryz.underlying94 (show Tryz.prog.info? 94=some Tryz.t94 from by kernel_rfl) (by kernel_rfl)
instance:AggI Tryz.prog 94 3:=⟨Baq⟩
theorem Bar (a0:Int) (a1:Int) (a2:Int) (b0:Int) (b1:Int) (b2:Int):∀ w,(Op.equalIn 10000 94 (.agg #[.int .i64 (a0),.int .i64 (a1),.int .i64 (a2)]) (.agg #[.int .i64 (b0),.int .i64 (b1),.int .i64 (b2)])).run Tryz.prog w = .ok ((((a0) == (b0)) && (((a1) == (b1)) && (((a2) == (b2)) && true)))) w :=
 EqI.array (c:=1) Tryz.underlying94 (show Tryz.prog.info? 3=some Tryz.t3 from by kernel_rfl) (by kernel_rfl) (.cons (fun w=>by kernel_rfl) (fun w=>by kernel_rfl) (fun w=>run_equalIn_int w 9998 3 .i64 .i64 _ _ Tryz.underlying3) (.cons (fun w=>by kernel_rfl) (fun w=>by kernel_rfl) (fun w=>run_equalIn_int w 9998 3 .i64 .i64 _ _ Tryz.underlying3) (.cons (fun w=>by kernel_rfl) (fun w=>by kernel_rfl) (fun w=>run_equalIn_int w 9998 3 .i64 .i64 _ _ Tryz.underlying3) (EqI.nil))))
instance (a0:Int) (a1:Int) (a2:Int) (b0:Int) (b1:Int) (b2:Int):EqSI Tryz.prog 94 [.int .i64 (a0),.int .i64 (a1),.int .i64 (a2)] [.int .i64 (b0),.int .i64 (b1),.int .i64 (b2)] ((((a0) == (b0)) && (((a1) == (b1)) && (((a2) == (b2)) && true)))):=⟨Bar _ _ _ _ _ _,by kernel_rfl⟩
theorem Bas (a0:Int) (a1:Int) (b0:Int) (b1:Int):∀ w,(Op.equalIn 10000 62 (.agg #[.int .i64 (a0),.int .i64 (a1)]) (.agg #[.int .i64 (b0),.int .i64 (b1)])).run Tryz.prog w = .ok ((((a0) == (b0)) && (((a1) == (b1)) && true))) w :=
 EqI.array (c:=1) Tryz.underlying62 (show Tryz.prog.info? 3=some Tryz.t3 from by kernel_rfl) (by kernel_rfl) (.cons (fun w=>by kernel_rfl) (fun w=>by kernel_rfl) (fun w=>run_equalIn_int w 9998 3 .i64 .i64 _ _ Tryz.underlying3) (.cons (fun w=>by kernel_rfl) (fun w=>by kernel_rfl) (fun w=>run_equalIn_int w 9998 3 .i64 .i64 _ _ Tryz.underlying3) (EqI.nil)))
instance (a0:Int) (a1:Int) (b0:Int) (b1:Int):EqSI Tryz.prog 62 [.int .i64 (a0),.int .i64 (a1)] [.int .i64 (b0),.int .i64 (b1)] ((((a0) == (b0)) && (((a1) == (b1)) && true))):=⟨Bas _ _ _ _,by kernel_rfl⟩
theorem Aux:Cw Tryz.prog 32 0 0:=.mk Tryz.underlying32 rfl rfl (show Tryz.prog.info? 22=some Tryz.t22 from by kernel_rfl) (show Tryz.t22.size=1 from by kernel_rfl) rfl
instance:Gd Tryz.prog 32 0 0:=⟨Aux⟩
theorem Auy:Cw Tryz.prog 32 2 2:=.mk Tryz.underlying32 rfl rfl (show Tryz.prog.info? 23=some Tryz.t23 from by kernel_rfl) (show Tryz.t23.size=1 from by kernel_rfl) rfl
instance:Gd Tryz.prog 32 2 2:=⟨Auy⟩
theorem Bat:Qe Tryz.prog 23:=.mk Tryz.underlying23 rfl (show Tryz.prog.info? 23=some Tryz.t23 from by kernel_rfl) (by kernel_rfl)
instance:OneI Tryz.prog 23:=⟨Bat⟩
theorem Auz:Cw Tryz.prog 32 1 1:=.mk Tryz.underlying32 rfl rfl (show Tryz.prog.info? 30=some Tryz.t30 from by kernel_rfl) (show Tryz.t30.size=1 from by kernel_rfl) rfl
instance:Gd Tryz.prog 32 1 1:=⟨Auz⟩
theorem Bau:Qe Tryz.prog 30:=.mk Tryz.underlying30 rfl (show Tryz.prog.info? 30=some Tryz.t30 from by kernel_rfl) (by kernel_rfl)
instance:OneI Tryz.prog 30:=⟨Bau⟩
theorem Ax0:Md Tryz.prog 274 [.int .i64 (0),.int .i64 (0),.int .i64 (0)]:=⟨_,Tryz.zeroValue274,rfl⟩
instance:Tg Tryz.prog 274 [.int .i64 (0),.int .i64 (0),.int .i64 (0)]:=⟨Ax0⟩
theorem Arq:Cw Tryz.prog 274 0 0:=.mk Tryz.underlying274 rfl rfl (show Tryz.prog.info? 3=some Tryz.t3 from by kernel_rfl) (show Tryz.t3.size=1 from by kernel_rfl) rfl
instance:Gd Tryz.prog 274 0 0:=⟨Arq⟩
theorem Arr:Cw Tryz.prog 274 1 1:=.mk Tryz.underlying274 rfl rfl (show Tryz.prog.info? 3=some Tryz.t3 from by kernel_rfl) (show Tryz.t3.size=1 from by kernel_rfl) rfl
instance:Gd Tryz.prog 274 1 1:=⟨Arr⟩
theorem Ars:Cw Tryz.prog 274 2 2:=.mk Tryz.underlying274 rfl rfl (show Tryz.prog.info? 3=some Tryz.t3 from by kernel_rfl) (show Tryz.t3.size=1 from by kernel_rfl) rfl
instance:Gd Tryz.prog 274 2 2:=⟨Ars⟩
theorem Yz (x0:Int) (x1:Int) (x2:Int):Gs Tryz.prog 274 [(0,.int .i64 x0),(1,.int .i64 x1),(2,.int .i64 x2)] [.int .i64 x0,.int .i64 x1,.int .i64 x2]:=fun w=>by kernel_rfl
instance (x0:Int) (x1:Int) (x2:Int):Lk Tryz.prog 274 [(0,.int .i64 x0),(1,.int .i64 x1),(2,.int .i64 x2)] [.int .i64 x0,.int .i64 x1,.int .i64 x2]:=⟨Yz _ _ _⟩
theorem Ax1:Nf Tryz.prog 274 3:=.mk Tryz.underlying274 rfl (show Tryz.prog.info? 274=some Tryz.t274 from by kernel_rfl) (by kernel_rfl)
instance:AggI Tryz.prog 274 3:=⟨Ax1⟩
instance:UndI Tryz.prog 30 (.slice 94):=⟨Tryz.underlying30⟩
noncomputable def Bv (p0:List Ae) (p1:List Ae):Int->Option (Sum Int (Sum Unit Bool)):=fun s0=>
 if s0 < ((((p0).length:Nat):Int)) then (bnd (idx p0 s0) fun x0=>
 bnd (idx p1 s0) fun x1=>
 if ((((x0.a0) == (x1.a0)) && (((x0.a1) == (x1.a1)) && (((x0.a2) == (x1.a2)) && true))))=true then (some (.inl (w64 (s0+1))))
 else (some (.inr (.inr (false)))))
 else (some (.inr (.inl ())))
noncomputable def Cx (p0:List Ae) (p1:List Ae):Option Bool :=
 if ((((p0).length:Nat):Int))=((((p1).length:Nat):Int)) then (jn (fun (s5:Unit)=>
 some true)
 (fun j5=>bnd (lfix (Bv p0 p1) 0) fun t0=>
 (match t0 with
 | (.inl z0)=>j5 z0
 | (.inr (z0))=>some z0
 )))
 else (some false)
noncomputable def Bw (p0:List Aa) (p1:List Aa):Int->Option (Sum Int (Sum Unit Bool)):=fun s0=>
 if s0 < ((((p0).length:Nat):Int)) then (bnd (idx p0 s0) fun x0=>
 bnd (idx p1 s0) fun x1=>
 if ((((x0.a0) == (x1.a0)) && (((x0.a1) == (x1.a1)) && true)))=true then (some (.inl (w64 (s0+1))))
 else (some (.inr (.inr (false)))))
 else (some (.inr (.inl ())))
noncomputable def Cy (p0:List Aa) (p1:List Aa):Option Bool :=
 if ((((p0).length:Nat):Int))=((((p1).length:Nat):Int)) then (jn (fun (s5:Unit)=>
 some true)
 (fun j5=>bnd (lfix (Bw p0 p1) 0) fun t0=>
 (match t0 with
 | (.inl z0)=>j5 z0
 | (.inr (z0))=>some z0
 )))
 else (some false)
noncomputable def Mr (p0:Bj):Option Int :=
 bnd (Lm p0.V p0.Lines) fun r2=>
 jn (fun (s4:Bool)=>
 if s4=true then (some 64)
 else (some 0))
 (fun j4=>if r2.2=0 then (bnd (Cx r2.1.T p0.T) fun r0=>
 if r0=true then (bnd (Cy r2.1.Lines p0.Lines) fun r1=>
 j4 (!(r1)))
 else (j4 true))
 else (j4 true))
noncomputable def Aj (p0:Ab):Option Ac :=
 some (⟨p0.X,p0.Y⟩:Ac)
noncomputable def Gv (p0:Ac):Option Bool :=
 jn (fun (s2:Bool)=>
 some s2)
 (fun j2=>if (-268435456)<=p0.X then (if p0.X<=268435456 then (if (-268435456)<=p0.Y then (j2 (decide (p0.Y<=268435456)))
 else (j2 false))
 else (j2 false))
 else (j2 false))
noncomputable def Fy (p0:Ab):Option Bool :=
 jn (fun (s2:Bool)=>
 some s2)
 (fun j2=>bnd (Aj (⟨p0.X,p0.Y,(⟨p0.Z.Lo,p0.Z.Hi⟩:Al)⟩:Ab)) fun r2=>
 bnd (Gv r2) fun r5=>
 if r5=true then (if (-268435456)<=p0.Z.Lo then (if p0.Z.Lo<=p0.Z.Hi then (j2 (decide (p0.Z.Hi<=268435456)))
 else (j2 false))
 else (j2 false))
 else (j2 false))
noncomputable def Fz (p0:Ac) (p1:Ac):Option Bool :=
 jn (fun (s2:Bool)=>
 some s2)
 (fun j2=>if p0.X < p1.X then (j2 true)
 else (if p0.X=p1.X then (j2 (decide (p0.Y < p1.Y)))
 else (j2 false)))
noncomputable def Jk (p0:Ac) (p1:Ac) (p2:Ac):Option Int :=
 some (w64 ((w64 ((w64 (p1.X-p0.X))*(w64 (p2.Y-p0.Y))))-(w64 ((w64 (p1.Y-p0.Y))*(w64 (p2.X-p0.X))))))
noncomputable def Ie (p0:Int):Option Int :=
 if p0 < 0 then (some (-1))
 else (if 0 < p0 then (some 1)
 else (some 0))
noncomputable def Ch (p0:Ac) (p1:Ac) (p2:Ac):Option Int :=
 bnd (Jk p0 p1 p2) fun r4=>
 bnd (Ie r4) fun r7=>
 some r7
structure Cl where
 high:Int
 middle:Int
 low:Int
noncomputable def El (p0:Cl) (p1:Int) (p2:Int):Option Cl :=
 some (⟨w64 (p0.high+(w64 ((shr_ .i64 p1 30)*(shr_ .i64 p2 30)))),w64 ((w64 (p0.middle+(w64 ((shr_ .i64 p1 30)*(Px .i64 p2 1073741823)))))+(w64 ((Px .i64 p1 1073741823)*(shr_ .i64 p2 30)))),w64 (p0.low+(w64 ((Px .i64 p1 1073741823)*(Px .i64 p2 1073741823))))⟩:Cl)
noncomputable def Ht (p0:Cl):Option Int :=
 if (w64 (p0.high+(shr_ .i64 (w64 (p0.middle+(shr_ .i64 p0.low 30))) 30)))=0 then (bnd (Ie (w64 ((Px .i64 (w64 (p0.middle+(shr_ .i64 p0.low 30))) 1073741823)+(Px .i64 p0.low 1073741823)))) fun r8=>
 some r8)
 else (bnd (Ie (w64 (p0.high+(shr_ .i64 (w64 (p0.middle+(shr_ .i64 p0.low 30))) 30)))) fun r4=>
 some r4)
noncomputable def Ky (p0:Ac) (p1:Ac) (p2:Ac) (p3:Ac):Option Int :=
 bnd (El (⟨0,0,0⟩:Cl) (w64 ((w64 ((w64 (p0.X-p3.X))*(w64 (p0.X-p3.X))))+(w64 ((w64 (p0.Y-p3.Y))*(w64 (p0.Y-p3.Y)))))) (w64 ((w64 ((w64 (p1.X-p3.X))*(w64 (p2.Y-p3.Y))))-(w64 ((w64 (p1.Y-p3.Y))*(w64 (p2.X-p3.X))))))) fun r6=>
 bnd (El r6 (w64 ((w64 ((w64 (p1.X-p3.X))*(w64 (p1.X-p3.X))))+(w64 ((w64 (p1.Y-p3.Y))*(w64 (p1.Y-p3.Y)))))) (w64 ((w64 ((w64 (p2.X-p3.X))*(w64 (p0.Y-p3.Y))))-(w64 ((w64 (p2.Y-p3.Y))*(w64 (p0.X-p3.X))))))) fun r9=>
 bnd (El r9 (w64 ((w64 ((w64 (p2.X-p3.X))*(w64 (p2.X-p3.X))))+(w64 ((w64 (p2.Y-p3.Y))*(w64 (p2.Y-p3.Y)))))) (w64 ((w64 ((w64 (p0.X-p3.X))*(w64 (p1.Y-p3.Y))))-(w64 ((w64 (p0.Y-p3.Y))*(w64 (p1.X-p3.X))))))) fun r0=>
 bnd (Ht r0) fun r1=>
 some r1
set_option maxHeartbeats 1000000 in
set_option maxRecDepth 100000 in
instance slices_Equal____3_int__3_int__c (p0:List Ae) (p1:List Ae):Con (Cx p0 p1) Tryz.prog 91 (fun K vs=>∃ (A0_0:Option Addr) (c0_0:Nat) (A0_1:Option Addr) (c0_1:Nat),vs=[.slice (A0_0) ((p0).length) (c0_0),.slice (A0_1) ((p1).length) (c0_1)]/\Has K A0_0 (p0).length c0_0 3 Bc (p0)/\Has K A0_1 (p1).length c0_1 3 Bc (p1)/\True) (fun _ r=>fun v Ln=>v = .bool (r)/\Ln=[]/\True):=⟨by
 rintro K _ r ⟨A0_0,c0_0,A0_1,c0_1,rfl,ha0,ha1,-⟩ hx w hK;replace ha0:=Has.lo ha0 hK;replace ha1:=Has.lo ha1 hK;unfold Cx at hx;have:=dl 6 [0,0,0,1,0,0,0,1,0] [0,1,2,3,4,5,6,7,8];refine CtS Tryz.ntmps91 Tryz.results91 ?_;try (refine pre ?_;intros;rename_i hx)
 refine Cq2 (s:=10) hx rfl (fun _ hx=>?_) (fun _ hx=>?_)
 ·exact au
 ·try (refine pre ?_;intros;rename_i hx)
  apply Jr (γ:=Unit) hx [] (fun s5 y5 f=>f) [999] (fun s5 y5 l=>l);exact kk
  ·intro s5 y5 hx;exact au
  ·intro _ hx;try (refine pre ?_;intros;rename_i hx)
   apply Lr (γ:=Unit) hx [0,1,12] (fun s33 y33 f=>(13,.int .i64 (s33))::f) [999] (fun s33 y33 l=>l) ();exact kk;exact sk;intro s33 y33 x33 hx _;unfold Bv at hx
   exact au⟩
set_option maxHeartbeats 1000000 in
set_option maxRecDepth 100000 in
instance slices_Equal____2_int__2_int__c (p0:List Aa) (p1:List Aa):Con (Cy p0 p1) Tryz.prog 92 (fun K vs=>∃ (A0_0:Option Addr) (c0_0:Nat) (A0_1:Option Addr) (c0_1:Nat),vs=[.slice (A0_0) ((p0).length) (c0_0),.slice (A0_1) ((p1).length) (c0_1)]/\Has K A0_0 (p0).length c0_0 2 Ak (p0)/\Has K A0_1 (p1).length c0_1 2 Ak (p1)/\True) (fun _ r=>fun v Ln=>v = .bool (r)/\Ln=[]/\True):=⟨by
 rintro K _ r ⟨A0_0,c0_0,A0_1,c0_1,rfl,ha0,ha1,-⟩ hx w hK;replace ha0:=Has.lo ha0 hK;replace ha1:=Has.lo ha1 hK;unfold Cy at hx;have:=dl 6 [0,0,0,1,0,0,0,1,0] [0,1,2,3,4,5,6,7,8];refine CtS Tryz.ntmps92 Tryz.results92 ?_;try (refine pre ?_;intros;rename_i hx)
 refine Cq2 (s:=10) hx rfl (fun _ hx=>?_) (fun _ hx=>?_)
 ·exact au
 ·try (refine pre ?_;intros;rename_i hx)
  apply Jr (γ:=Unit) hx [] (fun s5 y5 f=>f) [999] (fun s5 y5 l=>l);exact kk
  ·intro s5 y5 hx;exact au
  ·intro _ hx;try (refine pre ?_;intros;rename_i hx)
   apply Lr (γ:=Unit) hx [0,1,12] (fun s33 y33 f=>(13,.int .i64 (s33))::f) [999] (fun s33 y33 l=>l) ();exact kk;exact sk;intro s33 y33 x33 hx _;unfold Bw at hx
   exact au⟩
set_option maxHeartbeats 1000000 in
set_option maxRecDepth 100000 in
instance mesh_Check_c (p0:Bj):Con (Mr p0) Tryz.prog 38 (fun K vs=>∃ (A0_0:Option Addr) (c0_0:Nat) (A0_1:Option Addr) (c0_1:Nat) (A0_2:Option Addr) (c0_2:Nat),vs=[.agg #[.slice (A0_0) ((p0.V).length) (c0_0),.slice (A0_1) ((p0.T).length) (c0_1),.slice (A0_2) ((p0.Lines).length) (c0_2)]]/\Has K A0_0 (p0.V).length c0_0 4 Ah (p0.V)/\Has K A0_1 (p0.T).length c0_1 3 Bc (p0.T)/\Has K A0_2 (p0.Lines).length c0_2 2 Ak (p0.Lines)/\True) (fun _ r=>fun v Ln=>v = .int .i64 (r)/\Ln=[]/\True):=⟨by
 rintro K _ r ⟨A0_0,c0_0,A0_1,c0_1,A0_2,c0_2,rfl,ha0,ha1,ha2,-⟩ hx w hK;replace ha0:=Has.lo ha0 hK;replace ha1:=Has.lo ha1 hK;replace ha2:=Has.lo ha2 hK;unfold Mr at hx;refine CtS Tryz.ntmps38 Tryz.results38 ?_;try (refine pre ?_;intros;rename_i hx)
 refine Bn ?_;try (refine pre ?_;intros;rename_i hx)
 apply Jr (γ:=Unit) hx [] (fun s4 y4 f=>(30,.bool (s4))::f) [999] (fun s4 y4 l=>l);exact kk
 ·intro s4 y4 hx;exact au
 ·intro _ hx;exact au⟩
set_option maxRecDepth 100000 in
instance Zs (p0:Ab):Con (Aj p0) Tryz.prog 67 (fun _ vs=>vs=[.agg #[.int .i64 (p0.X),.int .i64 (p0.Y),.int .i64 (p0.Z.Lo),.int .i64 (p0.Z.Hi)]]) (fun _ r=>fun v Ln=>v = .agg #[.int .i64 (r.X),.int .i64 (r.Y)]/\Ln=[]/\True):=⟨by
 rintro _ _ r rfl hx w hK;unfold Aj at hx;refine CtS Tryz.ntmps67 Tryz.results67 ?_;exact au⟩
theorem Sc (p0:Ab)  {r:Ac} (hx:Aj p0=some r) (w:World):CtL Tryz.prog 67 [.agg #[.int .i64 (p0.X),.int .i64 (p0.Y),.int .i64 (p0.Z.Lo),.int .i64 (p0.Z.Hi)]] w fun v Ln=>v = .agg #[.int .i64 (r.X),.int .i64 (r.Y)]/\Ln=[]/\True:=(Zs p0).h [] _ _ rfl hx w (fun _ h=>absurd h List.not_mem_nil)
set_option maxRecDepth 100000 in
instance lidarref06_ValidPlace_c (p0:Ac):Con (Gv p0) Tryz.prog 79 (fun _ vs=>vs=[.agg #[.int .i64 (p0.X),.int .i64 (p0.Y)]]) (fun _ r=>fun v Ln=>v = .bool (r)/\Ln=[]/\True):=⟨by
 rintro _ _ r rfl hx w hK;unfold Gv at hx;refine CtS Tryz.ntmps79 Tryz.results79 ?_;exact au⟩
set_option maxHeartbeats 1000000 in
set_option maxRecDepth 100000 in
instance lidarref06_validVertex_c (p0:Ab):Con (Fy p0) Tryz.prog 179 (fun _ vs=>vs=[.agg #[.int .i64 (p0.X),.int .i64 (p0.Y),.int .i64 (p0.Z.Lo),.int .i64 (p0.Z.Hi)]]) (fun _ r=>fun v Ln=>v = .bool (r)/\Ln=[]/\True):=⟨by
 rintro _ _ r rfl hx w hK;unfold Fy at hx;refine CtS Tryz.ntmps179 Tryz.results179 ?_;exact au⟩
set_option maxRecDepth 100000 in
instance Za (p0:Ac) (p1:Ac):Con (Fz p0 p1) Tryz.prog 152 (fun _ vs=>vs=[.agg #[.int .i64 (p0.X),.int .i64 (p0.Y)],.agg #[.int .i64 (p1.X),.int .i64 (p1.Y)]]) (fun _ r=>fun v Ln=>v = .bool (r)/\Ln=[]/\True):=⟨by
 rintro _ _ r rfl hx w hK;unfold Fz at hx;refine CtS Tryz.ntmps152 Tryz.results152 ?_;exact au⟩
theorem Xg (p0:Ac) (p1:Ac)  {r:Bool} (hx:Fz p0 p1=some r) (w:World):CtL Tryz.prog 152 [.agg #[.int .i64 (p0.X),.int .i64 (p0.Y)],.agg #[.int .i64 (p1.X),.int .i64 (p1.Y)]] w fun v Ln=>v = .bool (r)/\Ln=[]/\True:=(Za p0 p1).h [] _ _ rfl hx w (fun _ h=>absurd h List.not_mem_nil)
set_option maxRecDepth 100000 in
instance lidarref06_Twice_c (p0:Ac) (p1:Ac) (p2:Ac):Con (Jk p0 p1 p2) Tryz.prog 66 (fun _ vs=>vs=[.agg #[.int .i64 (p0.X),.int .i64 (p0.Y)],.agg #[.int .i64 (p1.X),.int .i64 (p1.Y)],.agg #[.int .i64 (p2.X),.int .i64 (p2.Y)]]) (fun _ r=>fun v Ln=>v = .int .i64 (r)/\Ln=[]/\True):=⟨by
 rintro _ _ r rfl hx w hK;unfold Jk at hx;refine CtS Tryz.ntmps66 Tryz.results66 ?_;exact au⟩
set_option maxRecDepth 100000 in
instance lidarref06_sign_c (p0:Int):Con (Ie p0) Tryz.prog 153 (fun _ vs=>vs=[.int .i64 (p0)]) (fun _ r=>fun v Ln=>v = .int .i64 (r)/\Ln=[]/\True):=⟨by
 rintro _ _ r rfl hx w hK;unfold Ie at hx;refine CtS Tryz.ntmps153 Tryz.results153 ?_;exact au⟩
set_option maxRecDepth 100000 in
instance lidarref06_Turn_c (p0:Ac) (p1:Ac) (p2:Ac):Con (Ch p0 p1 p2) Tryz.prog 90 (fun _ vs=>vs=[.agg #[.int .i64 (p0.X),.int .i64 (p0.Y)],.agg #[.int .i64 (p1.X),.int .i64 (p1.Y)],.agg #[.int .i64 (p2.X),.int .i64 (p2.Y)]]) (fun _ r=>fun v Ln=>v = .int .i64 (r)/\Ln=[]/\True):=⟨by
 rintro _ _ r rfl hx w hK;unfold Ch at hx;refine CtS Tryz.ntmps90 Tryz.results90 ?_;exact au⟩
set_option maxRecDepth 100000 in
instance lidarref06_wide_add_c (p0:Cl) (p1:Int) (p2:Int):Con (El p0 p1 p2) Tryz.prog 243 (fun _ vs=>vs=[.agg #[.int .i64 (p0.high),.int .i64 (p0.middle),.int .i64 (p0.low)],.int .i64 (p1),.int .i64 (p2)]) (fun _ r=>fun v Ln=>v = .agg #[.int .i64 (r.high),.int .i64 (r.middle),.int .i64 (r.low)]/\Ln=[]/\True):=⟨by
 rintro _ _ r rfl hx w hK;unfold El at hx;refine CtS Tryz.ntmps243 Tryz.results243 ?_;exact au⟩
set_option maxHeartbeats 1000000 in
set_option maxRecDepth 100000 in
instance lidarref06_wide_sign_c (p0:Cl):Con (Ht p0) Tryz.prog 244 (fun _ vs=>vs=[.agg #[.int .i64 (p0.high),.int .i64 (p0.middle),.int .i64 (p0.low)]]) (fun _ r=>fun v Ln=>v = .int .i64 (r)/\Ln=[]/\True):=⟨by
 rintro _ _ r rfl hx w hK;unfold Ht at hx;refine CtS Tryz.ntmps244 Tryz.results244 ?_;exact au⟩
set_option maxHeartbeats 1000000 in
set_option maxRecDepth 100000 in
instance lidarref06_Circle_c (p0:Ac) (p1:Ac) (p2:Ac) (p3:Ac):Con (Ky p0 p1 p2 p3) Tryz.prog 183 (fun _ vs=>vs=[.agg #[.int .i64 (p0.X),.int .i64 (p0.Y)],.agg #[.int .i64 (p1.X),.int .i64 (p1.Y)],.agg #[.int .i64 (p2.X),.int .i64 (p2.Y)],.agg #[.int .i64 (p3.X),.int .i64 (p3.Y)]]) (fun _ r=>fun v Ln=>v = .int .i64 (r)/\Ln=[]/\True):=⟨by
 rintro _ _ r rfl hx w hK;unfold Ky at hx;have:=dl 1 [0,1,0,1,0,0,1,0,1,0,0,1,0,1,0,0,1,0,1,0,0,1,0,1,0,0,1,0,1,0,2,2,2,2,2,2] [0,1,2,3,4,5,6,7,8,9,10,11,12,13,14,15,16,17,18,19,20,21,22,23,24,25,26,27,28,29,30,31,32,33,34,35];refine CtS Tryz.ntmps183 Tryz.results183 ?_;exact au⟩

noncomputable def Hb (p0:Ac) (p1:Ac) (p2:Ac):Option Bool :=
 jn (fun (s2:Bool)=>
 some s2)
 (fun j2=>bnd (Ch p0 p1 p2) fun r4=>
 if r4=0 then (if (min p0.X p1.X)<=p2.X then (if p2.X<=(max p0.X p1.X) then (if (min p0.Y p1.Y)<=p2.Y then (j2 (decide (p2.Y<=(max p0.Y p1.Y))))
 else (j2 false))
 else (j2 false))
 else (j2 false))
 else (j2 false))
noncomputable def Eb (p0:List Ab):Int->Option (Sum Int (Sum Unit Int)):=fun s0=>
 if s0 < ((((p0).length:Nat):Int)) then (bnd (idx p0 s0) fun x0=>
 bnd (Fy (⟨x0.X,x0.Y,(⟨x0.Z.Lo,x0.Z.Hi⟩:Al)⟩:Ab)) fun r0=>
 if r0=true then (some (.inl (w64 (s0+1))))
 else (some (.inr (.inr (60)))))
 else (some (.inr (.inl ())))
noncomputable def Fk (s0:Int) (p0:List Ab):Int->Option (Sum Int (Sum Unit Int)):=fun s1=>
 if s1 < s0 then (jn (fun (s2:Bool)=>
 if s2=true then (some (.inr (.inr (61))))
 else (some (.inl (w64 (s1+1)))))
 (fun j0=>bnd (idx p0 s0) fun x0=>
 bnd (idx p0 s1) fun x1=>
 if x0.X=x1.X then (bnd (idx p0 s0) fun x2=>
 bnd (idx p0 s1) fun x3=>
 j0 (decide (x2.Y=x3.Y)))
 else (j0 false)))
 else (some (.inr (.inl ())))
noncomputable def Dm (p0:List Ab):Int->Option (Sum Int (Sum Unit Int)):=fun s0=>
 if s0 < ((((p0).length:Nat):Int)) then (jn (fun (s1:Unit)=>
 some (.inl (w64 (s0+1))))
 (fun j0=>bnd (lfix (Fk s0 p0) 0) fun t0=>
 (match t0 with
 | (.inl z0)=>j0 z0
 | (.inr (z0))=>some (.inr (.inr (z0)))
 )))
 else (some (.inr (.inl ())))
noncomputable def Il (p0:List Ab):Option Int :=
 if 1024 < ((((p0).length:Nat):Int)) then (some 2)
 else (jn (fun (s5:Unit)=>
 jn (fun (s0:Unit)=>
 some 0)
 (fun j0=>bnd (lfix (Dm p0) 0) fun t0=>
 (match t0 with
 | (.inl z0)=>j0 z0
 | (.inr (z0))=>some z0
 )))
 (fun j5=>bnd (lfix (Eb p0) 0) fun t1=>
 (match t1 with
 | (.inl z1)=>j5 z1
 | (.inr (z1))=>some z1
 )))
noncomputable def Ls (p0:List Ab):(Int × Int)->Option (Sum (Int × Int) Int):=fun s0=>
 if s0.2 < ((((p0).length:Nat):Int)) then (jn (fun (s1:Int)=>
 some (.inl (s1,w64 (s0.2+1))))
 (fun j0=>bnd (idx p0 s0.2) fun x0=>
 bnd (idx p0 s0.1) fun x1=>
 bnd (Aj (⟨x0.X,x0.Y,(⟨x0.Z.Lo,x0.Z.Hi⟩:Al)⟩:Ab)) fun r0=>
 bnd (Aj (⟨x1.X,x1.Y,(⟨x1.Z.Lo,x1.Z.Hi⟩:Al)⟩:Ab)) fun r1=>
 bnd (Fz r0 r1) fun r2=>
 if r2=true then (j0 s0.2)
 else (j0 s0.1)))
 else (some (.inr s0.1))
noncomputable def Ly (p0:List Ab):Option Int :=
 jn (fun (s3:Int)=>
 some s3)
 (fun j3=>bnd (lfix (Ls p0) (0,0)) fun t0=>
 j3 t0)
noncomputable def Ms (p0:List Ab) (p1:Int) (p2:Bool):(Int × Int)->Option (Sum (Int × Int) Int):=fun s0=>
 if s0.2 < ((((p0).length:Nat):Int)) then (jn (fun (s1:Int)=>
 some (.inl (s1,w64 (s0.2+1))))
 (fun j0=>if s0.2=p1 then (j0 s0.1)
 else (if s0.1 < 0 then (j0 s0.2)
 else (bnd (idx p0 p1) fun x0=>
 bnd (idx p0 s0.1) fun x1=>
 bnd (idx p0 s0.2) fun x2=>
 bnd (Aj (⟨x0.X,x0.Y,(⟨x0.Z.Lo,x0.Z.Hi⟩:Al)⟩:Ab)) fun r0=>
 bnd (Aj (⟨x1.X,x1.Y,(⟨x1.Z.Lo,x1.Z.Hi⟩:Al)⟩:Ab)) fun r1=>
 bnd (Aj (⟨x2.X,x2.Y,(⟨x2.Z.Lo,x2.Z.Hi⟩:Al)⟩:Ab)) fun r2=>
 bnd (Ch r0 r1 r2) fun r3=>
 jn (fun (s2:Bool)=>
 if s2=true then (j0 s0.2)
 else (j0 s0.1))
 (fun j1=>if r3 < 0 then (j1 true)
 else (if r3=0 then (bnd (Hb r0 r1 r2) fun r4=>
 j1 (!((r4) == (p2))))
 else (j1 false)))))))
 else (some (.inr s0.1))
noncomputable def Ng (p0:List Ab) (p1:Int) (p2:Bool):Option Int :=
 jn (fun (s3:Int)=>
 some s3)
 (fun j3=>bnd (lfix (Ms p0 p1 p2) (-1,0)) fun t0=>
 j3 t0)
noncomputable def Mu (p0:List Ab):Int->Option (Sum Int (Sum Unit Bool)):=fun s0=>
 if s0 < ((((p0).length:Nat):Int)) then (bnd (idx p0 0) fun x0=>
 bnd (idx p0 1) fun x1=>
 bnd (idx p0 s0) fun x2=>
 bnd (Aj (⟨x0.X,x0.Y,(⟨x0.Z.Lo,x0.Z.Hi⟩:Al)⟩:Ab)) fun r0=>
 bnd (Aj (⟨x1.X,x1.Y,(⟨x1.Z.Lo,x1.Z.Hi⟩:Al)⟩:Ab)) fun r1=>
 bnd (Aj (⟨x2.X,x2.Y,(⟨x2.Z.Lo,x2.Z.Hi⟩:Al)⟩:Ab)) fun r2=>
 bnd (Ch r0 r1 r2) fun r3=>
 if r3=0 then (some (.inl (w64 (s0+1))))
 else (some (.inr (.inr (false)))))
 else (some (.inr (.inl ())))
noncomputable def Nh (p0:List Ab):Option Bool :=
 jn (fun (s2:Unit)=>
 some true)
 (fun j2=>bnd (lfix (Mu p0) 2) fun t0=>
 (match t0 with
 | (.inl z0)=>j2 z0
 | (.inr (z0))=>some z0
 ))
set_option maxHeartbeats 1000000 in
set_option maxRecDepth 100000 in
instance lidarref06_between_c (p0:Ac) (p1:Ac) (p2:Ac):Con (Hb p0 p1 p2) Tryz.prog 180 (fun _ vs=>vs=[.agg #[.int .i64 (p0.X),.int .i64 (p0.Y)],.agg #[.int .i64 (p1.X),.int .i64 (p1.Y)],.agg #[.int .i64 (p2.X),.int .i64 (p2.Y)]]) (fun _ r=>fun v Ln=>v = .bool (r)/\Ln=[]/\True):=⟨by
 rintro _ _ r rfl hx w hK;unfold Hb at hx;refine CtS Tryz.ntmps180 Tryz.results180 ?_;try (refine pre ?_;intros;rename_i hx)
 refine Bn ?_;try (refine pre ?_;intros;rename_i hx)
 apply Jr (γ:=Unit) hx [] (fun s2 y2 f=>(6,.bool (s2))::f) [999] (fun s2 y2 l=>l);exact kk
 ·intro s2 y2 hx;exact au
 ·intro _ hx;try (refine pre ?_;intros;rename_i hx)
  refine Cq1 (s:=12) hx rfl (fun _ hx=>?_) (fun _ hx=>?_)
  ·exact au
  ·exact au⟩
set_option maxHeartbeats 1000000 in
set_option maxRecDepth 100000 in
instance lidarref06_vertices_c (p0:List Ab):Con (Il p0) Tryz.prog 109 (fun K vs=>∃ (A0_0:Option Addr) (c0_0:Nat),vs=[.slice (A0_0) ((p0).length) (c0_0)]/\Has K A0_0 (p0).length c0_0 4 Ah (p0)/\True) (fun _ r=>fun v Ln=>v = .int .i64 (r)/\Ln=[]/\True):=⟨by
 rintro K _ r ⟨A0_0,c0_0,rfl,ha0,-⟩ hx w hK;replace ha0:=Has.lo ha0 hK;unfold Il at hx;have:=dl 15 [0,0,0,0,1,0,0,0,0,1,0,0,0,0,0,0,1,0,0,0,0,1,0,0] [0,1,2,3,4,5,6,7,8,9,10,11,12,13,14,15,16,17,18,19,20,21,22,23];refine CtS Tryz.ntmps109 Tryz.results109 ?_;try (refine pre ?_;intros;rename_i hx)
 refine Cq1 (s:=8) hx rfl (fun _ hx=>?_) (fun _ hx=>?_)
 ·exact au
 ·try (refine pre ?_;intros;rename_i hx)
  apply Jr (γ:=Unit) hx [0] (fun s5 y5 f=>f) [999] (fun s5 y5 l=>l);exact kk
  ·intro s5 y5 hx;apply Jr (γ:=Unit) hx [] (fun s19 y19 f=>f) [999] (fun s19 y19 l=>l);exact kk
   ·intro s19 y19 hx;exact au
   ·intro _ hx;try (refine pre ?_;intros;rename_i hx)
    apply Lr (γ:=Unit) hx [0,22] (fun s166 y166 f=>(23,.int .i64 (s166))::f) [999] (fun s166 y166 l=>l) ();exact kk;exact sk;intro s166 y166 x166 hx _;unfold Dm at hx
    try (refine pre ?_;intros;rename_i hx)
    refine Cq1 (s:=24) hx rfl (fun _ hx=>?_) (fun _ hx=>?_)
    ·try (refine pre ?_;intros;rename_i hx)
     apply Jr (γ:=Unit) hx [0,22,23] (fun s38 y38 f=>f) [999] (fun s38 y38 l=>l);exact kk
     ·intro s38 y38 hx;exact au
     ·intro _ hx;try (refine pre ?_;intros;rename_i hx)
      apply Lr (γ:=Unit) hx [0,4,22,23] (fun s226 y226 f=>(5,.int .i64 (s226))::f) [999] (fun s226 y226 l=>l) ();exact kk;exact sk;intro s226 y226 x226 hx _;unfold Fk at hx
      exact au
    ·exact au
  ·intro _ hx;try (refine pre ?_;intros;rename_i hx)
   apply Lr (γ:=Unit) hx [0,10] (fun s25 y25 f=>(11,.int .i64 (s25))::f) [999] (fun s25 y25 l=>l) ();exact kk;exact sk;intro s25 y25 x25 hx _;unfold Eb at hx
   exact au⟩
set_option maxHeartbeats 1000000 in
set_option maxRecDepth 100000 in
instance lidarref06_first_c (p0:List Ab):Con (Ly p0) Tryz.prog 112 (fun K vs=>∃ (A0_0:Option Addr) (c0_0:Nat),vs=[.slice (A0_0) ((p0).length) (c0_0)]/\Has K A0_0 (p0).length c0_0 4 Ah (p0)/\True) (fun _ r=>fun v Ln=>v = .int .i64 (r)/\Ln=[]/\True):=⟨by
 rintro K _ r ⟨A0_0,c0_0,rfl,ha0,-⟩ hx w hK;replace ha0:=Has.lo ha0 hK;unfold Ly at hx;have:=dl 5 [0,0,0,1,2,0,0,0,1,2,2] [0,1,2,3,5,6,7,8,4,9,10];refine CtS Tryz.ntmps112 Tryz.results112 ?_;try (refine pre ?_;intros;rename_i hx)
 refine Bn ?_;try (refine pre ?_;intros;rename_i hx)
 refine Bn ?_;try (refine pre ?_;intros;rename_i hx)
 apply Jr (γ:=Unit) hx [] (fun s3 y3 f=>(3,.int .i64 (s3))::f) [999] (fun s3 y3 l=>l);exact kk
 ·intro s3 y3 hx;exact au
 ·intro _ hx;try (refine pre ?_;intros;rename_i hx)
  apply Lr (γ:=Unit) hx [0,6] (fun s0 y0 f=>(3,.int .i64 (s0.1))::(7,.int .i64 (s0.2))::f) [999] (fun s0 y0 l=>l) ();exact kk;exact sk;intro s0 y0 x0 hx _;unfold Ls at hx
  exact au⟩
set_option maxHeartbeats 1000000 in
set_option maxRecDepth 100000 in
instance lidarref06_hull_c (p0:List Ab) (p1:Int) (p2:Bool):Con (Ng p0 p1 p2) Tryz.prog 113 (fun K vs=>∃ (A0_0:Option Addr) (c0_0:Nat),vs=[.slice (A0_0) ((p0).length) (c0_0),.int .i64 (p1),.bool (p2)]/\Has K A0_0 (p0).length c0_0 4 Ah (p0)/\True) (fun _ r=>fun v Ln=>v = .int .i64 (r)/\Ln=[]/\True):=⟨by
 rintro K _ r ⟨A0_0,c0_0,rfl,ha0,-⟩ hx w hK;replace ha0:=Has.lo ha0 hK;unfold Ng at hx;have:=dl 8 [0,0,0,1,2,0,0,0,1,2,0,0,0,1,2,4,4,4,3,3,3] [0,1,2,3,5,6,7,8,10,11,12,13,4,9,14,15,16,17,18,19,20] [15,16,17];refine CtS Tryz.ntmps113 Tryz.results113 ?_;try (refine pre ?_;intros;rename_i hx)
 refine Bn ?_;try (refine pre ?_;intros;rename_i hx)
 refine Bn ?_;try (refine pre ?_;intros;rename_i hx)
 apply Jr (γ:=Unit) hx [] (fun s3 y3 f=>(7,.int .i64 (s3))::f) [999] (fun s3 y3 l=>l);exact kk
 ·intro s3 y3 hx;exact au
 ·intro _ hx;try (refine pre ?_;intros;rename_i hx)
  apply Lr (γ:=Unit) hx [0,1,2,14] (fun s0 y0 f=>(7,.int .i64 (s0.1))::(15,.int .i64 (s0.2))::f) [999] (fun s0 y0 l=>l) ();exact kk;exact sk;intro s0 y0 x0 hx _;unfold Ms at hx
  try (refine pre ?_;intros;rename_i hx)
  refine Cq1 (s:=16) hx rfl (fun _ hx=>?_) (fun _ hx=>?_)
  ·try (refine pre ?_;intros;rename_i hx)
   apply Jr (γ:=Unit) hx [0,1,2,14,15] (fun s1 y1 f=>(7,.int .i64 (s1))::f) [999] (fun s1 y1 l=>l);exact kk
   ·intro s1 y1 hx;exact au
   ·intro _ hx;try (refine pre ?_;intros;rename_i hx)
    refine Cq1 (s:=20) hx rfl (fun _ hx=>?_) (fun _ hx=>?_)
    ·exact au
    ·try (refine pre ?_;intros;rename_i hx)
     refine Cq1 (s:=22) hx rfl (fun _ hx=>?_) (fun _ hx=>?_)
     ·exact au
     ·try (refine pre ?_;intros;rename_i hx)
      apply Jr (γ:=Unit) hx [0,1,2,7,8,14,15] (fun s2 y2 f=>(56,.bool (s2))::f) [999] (fun s2 y2 l=>l);exact kk
      ·intro s2 y2 hx;exact au
      ·intro _ hx;exact au
  ·exact au⟩
set_option maxHeartbeats 1000000 in
set_option maxRecDepth 100000 in
instance lidarref06_flat_c (p0:List Ab):Con (Nh p0) Tryz.prog 111 (fun K vs=>∃ (A0_0:Option Addr) (c0_0:Nat),vs=[.slice (A0_0) ((p0).length) (c0_0)]/\Has K A0_0 (p0).length c0_0 4 Ah (p0)/\True) (fun _ r=>fun v Ln=>v = .bool (r)/\Ln=[]/\True):=⟨by
 rintro K _ r ⟨A0_0,c0_0,rfl,ha0,-⟩ hx w hK;replace ha0:=Has.lo ha0 hK;unfold Nh at hx;have:=dl 4 [0,0,1,2,0,0,1,2,0,0,0,1,2,2,0] [0,1,2,4,5,6,8,9,10,11,3,7,12,13,14];refine CtS Tryz.ntmps111 Tryz.results111 ?_;try (refine pre ?_;intros;rename_i hx)
 refine Bn ?_;try (refine pre ?_;intros;rename_i hx)
 apply Jr (γ:=Unit) hx [] (fun s2 y2 f=>f) [999] (fun s2 y2 l=>l);exact kk
 ·intro s2 y2 hx;exact au
 ·intro _ hx;try (refine pre ?_;intros;rename_i hx)
  apply Lr (γ:=Unit) hx [0] (fun s0 y0 f=>(3,.int .i64 (s0))::f) [999] (fun s0 y0 l=>l) ();exact kk;exact sk;intro s0 y0 x0 hx _;unfold Mu at hx
  exact au⟩
theorem Bav (a0:Int) (a1:Int) (a2:Int) (a3:Int) (b0:Int) (b1:Int) (b2:Int) (b3:Int):∀ w,(Op.equalIn 10000 70 (.agg #[.int .i64 (a0),.int .i64 (a1),.int .i64 (a2),.int .i64 (a3)]) (.agg #[.int .i64 (b0),.int .i64 (b1),.int .i64 (b2),.int .i64 (b3)])).run Tryz.prog w = .ok ((((a0) == (b0)) && (((a1) == (b1)) && ((((a2) == (b2)) && (((a3) == (b3)) && true)) && true)))) w :=
 EqF.struct Tryz.underlying70 (by kernel_rfl) (.cons rfl (fun w=>by kernel_rfl) (fun w=>by kernel_rfl) (fun w=>run_equalIn_int w 9998 3 .i64 .i64 _ _ Tryz.underlying3) (.cons rfl (fun w=>by kernel_rfl) (fun w=>by kernel_rfl) (fun w=>run_equalIn_int w 9998 3 .i64 .i64 _ _ Tryz.underlying3) (.cons (a:=.agg #[.int .i64 (a2),.int .i64 (a3)]) (b:=.agg #[.int .i64 (b2),.int .i64 (b3)]) rfl (fun w=>by kernel_rfl) (fun w=>by kernel_rfl) (EqF.struct Tryz.underlying68 (by kernel_rfl) (.cons rfl (fun w=>by kernel_rfl) (fun w=>by kernel_rfl) (fun w=>run_equalIn_int w 9997 3 .i64 .i64 _ _ Tryz.underlying3) (.cons rfl (fun w=>by kernel_rfl) (fun w=>by kernel_rfl) (fun w=>run_equalIn_int w 9997 3 .i64 .i64 _ _ Tryz.underlying3) (EqF.nil)))) (EqF.nil))))
instance (a0:Int) (a1:Int) (a2:Int) (a3:Int) (b0:Int) (b1:Int) (b2:Int) (b3:Int):EqSI Tryz.prog 70 [.int .i64 (a0),.int .i64 (a1),.int .i64 (a2),.int .i64 (a3)] [.int .i64 (b0),.int .i64 (b1),.int .i64 (b2),.int .i64 (b3)] ((((a0) == (b0)) && (((a1) == (b1)) && ((((a2) == (b2)) && (((a3) == (b3)) && true)) && true)))):=⟨Bav _ _ _ _ _ _ _ _,by kernel_rfl⟩
noncomputable def Ec (p0:Bj) (p1:Bj):Int->Option (Sum Int (Sum Unit Bool)):=fun s0=>
 if s0 < ((((p0.V).length:Nat):Int)) then (bnd (idx p0.V s0) fun x0=>
 bnd (idx p1.V s0) fun x1=>
 if ((((x0.X) == (x1.X)) && (((x0.Y) == (x1.Y)) && ((((x0.Z.Lo) == (x1.Z.Lo)) && (((x0.Z.Hi) == (x1.Z.Hi)) && true)) && true))))=true then (some (.inl (w64 (s0+1))))
 else (some (.inr (.inr (false)))))
 else (some (.inr (.inl ())))
noncomputable def Dn (p0:Bj) (p1:Bj):Int->Option (Sum Int (Sum Unit Bool)):=fun s0=>
 if s0 < ((((p0.T).length:Nat):Int)) then (bnd (idx p0.T s0) fun x0=>
 bnd (idx p1.T s0) fun x1=>
 if ((((x0.a0) == (x1.a0)) && (((x0.a1) == (x1.a1)) && (((x0.a2) == (x1.a2)) && true))))=true then (some (.inl (w64 (s0+1))))
 else (some (.inr (.inr (false)))))
 else (some (.inr (.inl ())))
noncomputable def Do (p0:Bj) (p1:Bj):Int->Option (Sum Int (Sum Unit Bool)):=fun s0=>
 if s0 < ((((p0.Lines).length:Nat):Int)) then (bnd (idx p0.Lines s0) fun x0=>
 bnd (idx p1.Lines s0) fun x1=>
 if ((((x0.a0) == (x1.a0)) && (((x0.a1) == (x1.a1)) && true)))=true then (some (.inl (w64 (s0+1))))
 else (some (.inr (.inr (false)))))
 else (some (.inr (.inl ())))
noncomputable def Im (p0:Bj) (p1:Bj):Option Bool :=
 jn (fun (s3:Bool)=>
 if s3=true then (some false)
 else (jn (fun (s5:Unit)=>
 jn (fun (s0:Unit)=>
 jn (fun (s1:Unit)=>
 some true)
 (fun j0=>bnd (lfix (Do p0 p1) 0) fun t0=>
 (match t0 with
 | (.inl z0)=>j0 z0
 | (.inr (z0))=>some z0
 )))
 (fun j1=>bnd (lfix (Dn p0 p1) 0) fun t1=>
 (match t1 with
 | (.inl z1)=>j1 z1
 | (.inr (z1))=>some z1
 )))
 (fun j5=>bnd (lfix (Ec p0 p1) 0) fun t2=>
 (match t2 with
 | (.inl z2)=>j5 z2
 | (.inr (z2))=>some z2
 ))))
 (fun j3=>if ((((p0.V).length:Nat):Int))=((((p1.V).length:Nat):Int)) then (if ((((p0.T).length:Nat):Int))=((((p1.T).length:Nat):Int)) then (j3 (!(decide (((((p0.Lines).length:Nat):Int))=((((p1.Lines).length:Nat):Int))))))
 else (j3 true))
 else (j3 true))
set_option maxHeartbeats 1000000 in
set_option maxRecDepth 100000 in
instance lidarref06_SameMesh_c (p0:Bj) (p1:Bj):Con (Im p0 p1) Tryz.prog 41 (fun K vs=>∃ (A0_0:Option Addr) (c0_0:Nat) (A0_1:Option Addr) (c0_1:Nat) (A0_2:Option Addr) (c0_2:Nat) (A0_3:Option Addr) (c0_3:Nat) (A0_4:Option Addr) (c0_4:Nat) (A0_5:Option Addr) (c0_5:Nat),vs=[.agg #[.slice (A0_0) ((p0.V).length) (c0_0),.slice (A0_1) ((p0.T).length) (c0_1),.slice (A0_2) ((p0.Lines).length) (c0_2)],.agg #[.slice (A0_3) ((p1.V).length) (c0_3),.slice (A0_4) ((p1.T).length) (c0_4),.slice (A0_5) ((p1.Lines).length) (c0_5)]]/\Has K A0_0 (p0.V).length c0_0 4 Ah (p0.V)/\Has K A0_1 (p0.T).length c0_1 3 Bc (p0.T)/\Has K A0_2 (p0.Lines).length c0_2 2 Ak (p0.Lines)/\Has K A0_3 (p1.V).length c0_3 4 Ah (p1.V)/\Has K A0_4 (p1.T).length c0_4 3 Bc (p1.T)/\Has K A0_5 (p1.Lines).length c0_5 2 Ak (p1.Lines)/\True) (fun _ r=>fun v Ln=>v = .bool (r)/\Ln=[]/\True):=⟨by
 rintro K _ r ⟨A0_0,c0_0,A0_1,c0_1,A0_2,c0_2,A0_3,c0_3,A0_4,c0_4,A0_5,c0_5,rfl,ha0,ha1,ha2,ha3,ha4,ha5,-⟩ hx w hK;replace ha0:=Has.lo ha0 hK;replace ha1:=Has.lo ha1 hK;replace ha2:=Has.lo ha2 hK;replace ha3:=Has.lo ha3 hK;replace ha4:=Has.lo ha4 hK;replace ha5:=Has.lo ha5 hK;unfold Im at hx;have:=dl 6 [0,1,0,0,1,0,1,0,0,1,0] [0,1,2,3,4,5,6,7,8,9,10];have:=dl 12 [0,1,0,0,1,0,1,0,0,1,0] [0,1,2,3,4,5,6,7,8,9,10];have:=dl 18 [0,1,0,0,1,0,1,0,0,1,0] [0,1,2,3,4,5,6,7,8,9,10];refine CtS Tryz.ntmps41 Tryz.results41 ?_;try (refine pre ?_;intros;rename_i hx)
 refine Bn ?_;try (refine pre ?_;intros;rename_i hx)
 refine Bn ?_;try (refine pre ?_;intros;rename_i hx)
 apply Jr (γ:=Unit) hx [2,3] (fun s3 y3 f=>(32,.bool (s3))::f) [0,1,999] (fun s3 y3 l=>l);exact kk
 ·intro s3 y3 hx;refine Cq3 (s:=32) hx rfl (fun _ hx=>?_) (fun _ hx=>?_)
  ·exact au
  ·try (refine pre ?_;intros;rename_i hx)
   apply Jr (γ:=Unit) hx [2,3] (fun s5 y5 f=>f) [0,1,999] (fun s5 y5 l=>l);exact kk
   ·intro s5 y5 hx;apply Jr (γ:=Unit) hx [2,3] (fun s0 y0 f=>f) [0,1,999] (fun s0 y0 l=>l);exact kk
    ·intro s0 y0 hx;apply Jr (γ:=Unit) hx [] (fun s1 y1 f=>f) [999] (fun s1 y1 l=>l);exact kk
     ·intro s1 y1 hx;exact au
     ·intro _ hx;try (refine pre ?_;intros;rename_i hx)
      apply Lr (γ:=Unit) hx [2,3,71] (fun s2 y2 f=>(72,.int .i64 (s2))::f) [0,1,999] (fun s2 y2 l=>l) ();exact kk;exact sk;intro s2 y2 x0 hx _;unfold Do at hx
      exact au
    ·intro _ hx;try (refine pre ?_;intros;rename_i hx)
     apply Lr (γ:=Unit) hx [2,3,53] (fun s4 y4 f=>(54,.int .i64 (s4))::f) [0,1,999] (fun s4 y4 l=>l) ();exact kk;exact sk;intro s4 y4 x1 hx _;unfold Dn at hx
     exact au
   ·intro _ hx;try (refine pre ?_;intros;rename_i hx)
    apply Lr (γ:=Unit) hx [2,3,35] (fun s6 y6 f=>(36,.int .i64 (s6))::f) [0,1,999] (fun s6 y6 l=>l) ();exact kk;exact sk;intro s6 y6 x2 hx _;unfold Ec at hx
    exact au
 ·intro _ hx;exact au⟩
end Go.Proofs.YtjfndjmabhbicaaGreat
