/- Walks of the program, with their plain functions: the references on places. -/
import Derived.Test.YtjfndjmabhbicaaGreatD5
import Derived.Test.YtjfndjmabhbicaaGreatZ2
namespace Go.Proofs.YtjfndjmabhbicaaGreat
open Go Go.RowKit
theorem Zy:Kc Tryz.prog 30 94 3:=.mk Tryz.underlying30 (show Tryz.prog.info? 94=some Tryz.t94 from by kernel_rfl) (by kernel_rfl)
instance:Ly Tryz.prog 30 94 3:=⟨Zy⟩
theorem Ad2:Nu Tryz.prog 94 3:=.arr Tryz.underlying94 (show Tryz.prog.info? 94=some Tryz.t94 from by kernel_rfl) (by kernel_rfl)
instance:AggI Tryz.prog 94 3:=⟨Ad2⟩
theorem Aym (a0:Int) (a1:Int) (a2:Int) (b0:Int) (b1:Int) (b2:Int):∀ w,(Op.equalIn 10000 94 (.agg #[.int .i64 (a0),.int .i64 (a1),.int .i64 (a2)]) (.agg #[.int .i64 (b0),.int .i64 (b1),.int .i64 (b2)])).run Tryz.prog w = .ok ((((a0) == (b0)) && (((a1) == (b1)) && (((a2) == (b2)) && true)))) w :=
 EqI.array (c:=1) Tryz.underlying94 (show Tryz.prog.info? 3=some Tryz.t3 from by kernel_rfl) (by kernel_rfl) (.cons (fun w=>by kernel_rfl) (fun w=>by kernel_rfl) (fun w=>run_equalIn_int w 9998 3 .i64 .i64 _ _ Tryz.underlying3) (.cons (fun w=>by kernel_rfl) (fun w=>by kernel_rfl) (fun w=>run_equalIn_int w 9998 3 .i64 .i64 _ _ Tryz.underlying3) (.cons (fun w=>by kernel_rfl) (fun w=>by kernel_rfl) (fun w=>run_equalIn_int w 9998 3 .i64 .i64 _ _ Tryz.underlying3) (EqI.nil))))
instance (a0:Int) (a1:Int) (a2:Int) (b0:Int) (b1:Int) (b2:Int):EqSI Tryz.prog 94 [.int .i64 (a0),.int .i64 (a1),.int .i64 (a2)] [.int .i64 (b0),.int .i64 (b1),.int .i64 (b2)] ((((a0) == (b0)) && (((a1) == (b1)) && (((a2) == (b2)) && true)))):=⟨Aym _ _ _ _ _ _,by kernel_rfl⟩
theorem Ayn (a0:Int) (a1:Int) (b0:Int) (b1:Int):∀ w,(Op.equalIn 10000 62 (.agg #[.int .i64 (a0),.int .i64 (a1)]) (.agg #[.int .i64 (b0),.int .i64 (b1)])).run Tryz.prog w = .ok ((((a0) == (b0)) && (((a1) == (b1)) && true))) w :=
 EqI.array (c:=1) Tryz.underlying62 (show Tryz.prog.info? 3=some Tryz.t3 from by kernel_rfl) (by kernel_rfl) (.cons (fun w=>by kernel_rfl) (fun w=>by kernel_rfl) (fun w=>run_equalIn_int w 9998 3 .i64 .i64 _ _ Tryz.underlying3) (.cons (fun w=>by kernel_rfl) (fun w=>by kernel_rfl) (fun w=>run_equalIn_int w 9998 3 .i64 .i64 _ _ Tryz.underlying3) (EqI.nil)))
instance (a0:Int) (a1:Int) (b0:Int) (b1:Int):EqSI Tryz.prog 62 [.int .i64 (a0),.int .i64 (a1)] [.int .i64 (b0),.int .i64 (b1)] ((((a0) == (b0)) && (((a1) == (b1)) && true))):=⟨Ayn _ _ _ _,by kernel_rfl⟩
theorem Acx:Eo Tryz.prog 32 0 0:=.mk Tryz.underlying32 rfl rfl (show Tryz.prog.info? 22=some Tryz.t22 from by kernel_rfl) (show Tryz.t22.size=1 from by kernel_rfl) rfl
instance:Jp Tryz.prog 32 0 0:=⟨Acx⟩
theorem Att:Eo Tryz.prog 32 2 2:=.mk Tryz.underlying32 rfl rfl (show Tryz.prog.info? 23=some Tryz.t23 from by kernel_rfl) (show Tryz.t23.size=1 from by kernel_rfl) rfl
instance:Jp Tryz.prog 32 2 2:=⟨Att⟩
theorem Ayo:Pp Tryz.prog 23:=.mk Tryz.underlying23 rfl (show Tryz.prog.info? 23=some Tryz.t23 from by kernel_rfl) (by kernel_rfl)
instance:OneI Tryz.prog 23:=⟨Ayo⟩
theorem Al5:Eo Tryz.prog 32 1 1:=.mk Tryz.underlying32 rfl rfl (show Tryz.prog.info? 30=some Tryz.t30 from by kernel_rfl) (show Tryz.t30.size=1 from by kernel_rfl) rfl
instance:Jp Tryz.prog 32 1 1:=⟨Al5⟩
theorem Avh:Pp Tryz.prog 30:=.mk Tryz.underlying30 rfl (show Tryz.prog.info? 30=some Tryz.t30 from by kernel_rfl) (by kernel_rfl)
instance:OneI Tryz.prog 30:=⟨Avh⟩
theorem Awh:Nn Tryz.prog 274 [.int .i64 (0),.int .i64 (0),.int .i64 (0)]:=⟨_,Tryz.zeroValue274,rfl⟩
instance:Wi Tryz.prog 274 [.int .i64 (0),.int .i64 (0),.int .i64 (0)]:=⟨Awh⟩
theorem Aqt:Eo Tryz.prog 274 0 0:=.mk Tryz.underlying274 rfl rfl (show Tryz.prog.info? 3=some Tryz.t3 from by kernel_rfl) (show Tryz.t3.size=1 from by kernel_rfl) rfl
instance:Jp Tryz.prog 274 0 0:=⟨Aqt⟩
theorem Aqu:Eo Tryz.prog 274 1 1:=.mk Tryz.underlying274 rfl rfl (show Tryz.prog.info? 3=some Tryz.t3 from by kernel_rfl) (show Tryz.t3.size=1 from by kernel_rfl) rfl
instance:Jp Tryz.prog 274 1 1:=⟨Aqu⟩
theorem Aqv:Eo Tryz.prog 274 2 2:=.mk Tryz.underlying274 rfl rfl (show Tryz.prog.info? 3=some Tryz.t3 from by kernel_rfl) (show Tryz.t3.size=1 from by kernel_rfl) rfl
instance:Jp Tryz.prog 274 2 2:=⟨Aqv⟩
theorem Xp (x0:Int) (x1:Int) (x2:Int):Kq Tryz.prog 274 [(0,.int .i64 x0),(1,.int .i64 x1),(2,.int .i64 x2)] [.int .i64 x0,.int .i64 x1,.int .i64 x2]:=fun w=>by kernel_rfl
instance (x0:Int) (x1:Int) (x2:Int):Ol Tryz.prog 274 [(0,.int .i64 x0),(1,.int .i64 x1),(2,.int .i64 x2)] [.int .i64 x0,.int .i64 x1,.int .i64 x2]:=⟨Xp _ _ _⟩
theorem Awi:Nu Tryz.prog 274 3:=.mk Tryz.underlying274 rfl (show Tryz.prog.info? 274=some Tryz.t274 from by kernel_rfl) (by kernel_rfl)
instance:AggI Tryz.prog 274 3:=⟨Awi⟩
instance:UndI Tryz.prog 30 (.slice 94):=⟨Tryz.underlying30⟩
noncomputable def Bs (p0:List Ae) (p1:List Ae):Int->Option (Sum Int (Sum Unit Bool)):=fun s0 =>
 if s0 < ((((p0).length:Nat):Int)) then (bnd (idx p0 s0) fun x0 =>
 bnd (idx p1 s0) fun x1 =>
 if ((((x0.a0) == (x1.a0)) && (((x0.a1) == (x1.a1)) && (((x0.a2) == (x1.a2)) && true))))=true then (some (.inl (w64 (s0+1))))
 else (some (.inr (.inr (false)))))
 else (some (.inr (.inl ())))
noncomputable def Cq (p0:List Ae) (p1:List Ae):Option Bool :=
 if ((((p0).length:Nat):Int))=((((p1).length:Nat):Int)) then (jn (fun (s5:Unit) =>
 some true)
 (fun j5=>bnd (lfix (Bs p0 p1) 0) fun t0 =>
 (match t0 with
 | (.inl z0)=>j5 z0
 | (.inr (z0))=>some z0
 )))
 else (some false)
noncomputable def Bt (p0:List Aa) (p1:List Aa):Int->Option (Sum Int (Sum Unit Bool)):=fun s0 =>
 if s0 < ((((p0).length:Nat):Int)) then (bnd (idx p0 s0) fun x0 =>
 bnd (idx p1 s0) fun x1 =>
 if ((((x0.a0) == (x1.a0)) && (((x0.a1) == (x1.a1)) && true)))=true then (some (.inl (w64 (s0+1))))
 else (some (.inr (.inr (false)))))
 else (some (.inr (.inl ())))
noncomputable def Cs (p0:List Aa) (p1:List Aa):Option Bool :=
 if ((((p0).length:Nat):Int))=((((p1).length:Nat):Int)) then (jn (fun (s5:Unit) =>
 some true)
 (fun j5=>bnd (lfix (Bt p0 p1) 0) fun t0 =>
 (match t0 with
 | (.inl z0)=>j5 z0
 | (.inr (z0))=>some z0
 )))
 else (some false)
noncomputable def Kk (p0:Aw):Option Int :=
 bnd (Kn p0.V p0.Lines) fun r2 =>
 jn (fun (s4:Bool) =>
 if s4=true then (some 64)
 else (some 0))
 (fun j4=>if r2.2=0 then (bnd (Cq r2.1.T p0.T) fun r0 =>
 if r0=true then (bnd (Cs r2.1.Lines p0.Lines) fun r1 =>
 j4 (!(r1)))
 else (j4 true))
 else (j4 true))
noncomputable def Aj (p0:Ab):Option Ac :=
 some (⟨p0.X,p0.Y⟩:Ac)
noncomputable def Gh (p0:Ac):Option Bool :=
 jn (fun (s2:Bool) =>
 some s2)
 (fun j2=>if (-268435456)<=p0.X then (if p0.X<=268435456 then (if (-268435456)<=p0.Y then (j2 (decide (p0.Y<=268435456)))
 else (j2 false))
 else (j2 false))
 else (j2 false))
noncomputable def Fp (p0:Ab):Option Bool :=
 jn (fun (s2:Bool) =>
 some s2)
 (fun j2=>bnd (Aj (⟨p0.X,p0.Y,(⟨p0.Z.Lo,p0.Z.Hi⟩:Ak)⟩:Ab)) fun r2 =>
 bnd (Gh r2) fun r5 =>
 if r5=true then (if (-268435456)<=p0.Z.Lo then (if p0.Z.Lo<=p0.Z.Hi then (j2 (decide (p0.Z.Hi<=268435456)))
 else (j2 false))
 else (j2 false))
 else (j2 false))
noncomputable def Eg (p0:Ac) (p1:Ac):Option Bool :=
 jn (fun (s2:Bool) =>
 some s2)
 (fun j2=>if p0.X < p1.X then (j2 true)
 else (if p0.X=p1.X then (j2 (decide (p0.Y < p1.Y)))
 else (j2 false)))
noncomputable def Kz (p0:Ac) (p1:Ac) (p2:Ac):Option Int :=
 some (w64 ((w64 ((w64 (p1.X-p0.X))*(w64 (p2.Y-p0.Y))))-(w64 ((w64 (p1.Y-p0.Y))*(w64 (p2.X-p0.X))))))
noncomputable def Ho (p0:Int):Option Int :=
 if p0 < 0 then (some (-1))
 else (if 0 < p0 then (some 1)
 else (some 0))
noncomputable def By (p0:Ac) (p1:Ac) (p2:Ac):Option Int :=
 bnd (Kz p0 p1 p2) fun r4 =>
 bnd (Ho r4) fun r7 =>
 some r7
structure Ch where
 high:Int
 middle:Int
 low:Int
noncomputable def Eb (p0:Ch) (p1:Int) (p2:Int):Option Ch :=
 some (⟨w64 (p0.high+(w64 ((shr_ .i64 p1 30)*(shr_ .i64 p2 30)))),w64 ((w64 (p0.middle+(w64 ((shr_ .i64 p1 30)*(Og .i64 p2 1073741823)))))+(w64 ((Og .i64 p1 1073741823)*(shr_ .i64 p2 30)))),w64 (p0.low+(w64 ((Og .i64 p1 1073741823)*(Og .i64 p2 1073741823))))⟩:Ch)
noncomputable def Hc (p0:Ch):Option Int :=
 if (w64 (p0.high+(shr_ .i64 (w64 (p0.middle+(shr_ .i64 p0.low 30))) 30)))=0 then (bnd (Ho (w64 ((Og .i64 (w64 (p0.middle+(shr_ .i64 p0.low 30))) 1073741823)+(Og .i64 p0.low 1073741823)))) fun r8 =>
 some r8)
 else (bnd (Ho (w64 (p0.high+(shr_ .i64 (w64 (p0.middle+(shr_ .i64 p0.low 30))) 30)))) fun r4 =>
 some r4)
noncomputable def Kf (p0:Ac) (p1:Ac) (p2:Ac) (p3:Ac):Option Int :=
 bnd (Eb (⟨0,0,0⟩:Ch) (w64 ((w64 ((w64 (p0.X-p3.X))*(w64 (p0.X-p3.X))))+(w64 ((w64 (p0.Y-p3.Y))*(w64 (p0.Y-p3.Y)))))) (w64 ((w64 ((w64 (p1.X-p3.X))*(w64 (p2.Y-p3.Y))))-(w64 ((w64 (p1.Y-p3.Y))*(w64 (p2.X-p3.X))))))) fun r6 =>
 bnd (Eb r6 (w64 ((w64 ((w64 (p1.X-p3.X))*(w64 (p1.X-p3.X))))+(w64 ((w64 (p1.Y-p3.Y))*(w64 (p1.Y-p3.Y)))))) (w64 ((w64 ((w64 (p2.X-p3.X))*(w64 (p0.Y-p3.Y))))-(w64 ((w64 (p2.Y-p3.Y))*(w64 (p0.X-p3.X))))))) fun r9 =>
 bnd (Eb r9 (w64 ((w64 ((w64 (p2.X-p3.X))*(w64 (p2.X-p3.X))))+(w64 ((w64 (p2.Y-p3.Y))*(w64 (p2.Y-p3.Y)))))) (w64 ((w64 ((w64 (p0.X-p3.X))*(w64 (p1.Y-p3.Y))))-(w64 ((w64 (p0.Y-p3.Y))*(w64 (p1.X-p3.X))))))) fun r0 =>
 bnd (Hc r0) fun r1 =>
 some r1
set_option maxHeartbeats 1000000 in
set_option maxRecDepth 100000 in
instance slices_Equal____3_int__3_int__c (p0:List Ae) (p1:List Ae):Con (Cq p0 p1) Tryz.prog 91 (fun K vs=>∃ (A0_0:Option Addr) (c0_0:Nat) (A0_1:Option Addr) (c0_1:Nat),vs=[.slice (A0_0) ((p0).length) (c0_0),.slice (A0_1) ((p1).length) (c0_1)]/\Has K A0_0 (p0).length c0_0 3 Aq (p0)/\Has K A0_1 (p1).length c0_1 3 Aq (p1)/\True) (fun _ r=>fun v Ln=>v = .bool (r)/\Ln=[]/\True):=⟨by
 rintro K _ r ⟨A0_0,c0_0,A0_1,c0_1,rfl,ha0,ha1,-⟩ hx w hK;replace ha0:=Has.lo ha0 hK;replace ha1:=Has.lo ha1 hK;unfold Cq at hx;have:=dl 6 [0,0,0,1,0,0,0,1,0] [0,1,2,3,4,5,6,7,8];refine CtS Tryz.ntmps91 Tryz.results91 ?_;try (refine pre ?_;intros;rename_i hx)
 refine Cq2 (s:=10) hx rfl (fun _ hx=>?_) (fun _ hx=>?_)
 ·exact au
 ·try (refine pre ?_;intros;rename_i hx)
  apply Jr (γ:=Unit) hx [] (fun s5 y5 f=>f) [999] (fun s5 y5 l=>l);exact kk
  ·intro s5 y5 hx;exact au
  ·intro _ hx;try (refine pre ?_;intros;rename_i hx)
   apply Lr (γ:=Unit) hx [0,1,12] (fun s33 y33 f=>(13,.int .i64 (s33))::f) [999] (fun s33 y33 l=>l) ();exact kk;exact sk;intro s33 y33 x33 hx _;unfold Bs at hx
   exact au⟩
set_option maxHeartbeats 1000000 in
set_option maxRecDepth 100000 in
instance slices_Equal____2_int__2_int__c (p0:List Aa) (p1:List Aa):Con (Cs p0 p1) Tryz.prog 92 (fun K vs=>∃ (A0_0:Option Addr) (c0_0:Nat) (A0_1:Option Addr) (c0_1:Nat),vs=[.slice (A0_0) ((p0).length) (c0_0),.slice (A0_1) ((p1).length) (c0_1)]/\Has K A0_0 (p0).length c0_0 2 Ai (p0)/\Has K A0_1 (p1).length c0_1 2 Ai (p1)/\True) (fun _ r=>fun v Ln=>v = .bool (r)/\Ln=[]/\True):=⟨by
 rintro K _ r ⟨A0_0,c0_0,A0_1,c0_1,rfl,ha0,ha1,-⟩ hx w hK;replace ha0:=Has.lo ha0 hK;replace ha1:=Has.lo ha1 hK;unfold Cs at hx;have:=dl 6 [0,0,0,1,0,0,0,1,0] [0,1,2,3,4,5,6,7,8];refine CtS Tryz.ntmps92 Tryz.results92 ?_;try (refine pre ?_;intros;rename_i hx)
 refine Cq2 (s:=10) hx rfl (fun _ hx=>?_) (fun _ hx=>?_)
 ·exact au
 ·try (refine pre ?_;intros;rename_i hx)
  apply Jr (γ:=Unit) hx [] (fun s5 y5 f=>f) [999] (fun s5 y5 l=>l);exact kk
  ·intro s5 y5 hx;exact au
  ·intro _ hx;try (refine pre ?_;intros;rename_i hx)
   apply Lr (γ:=Unit) hx [0,1,12] (fun s33 y33 f=>(13,.int .i64 (s33))::f) [999] (fun s33 y33 l=>l) ();exact kk;exact sk;intro s33 y33 x33 hx _;unfold Bt at hx
   exact au⟩
set_option maxHeartbeats 1000000 in
set_option maxRecDepth 100000 in
instance Agy (p0:Aw):Con (Kk p0) Tryz.prog 38 (fun K vs=>∃ (A0_0:Option Addr) (c0_0:Nat) (A0_1:Option Addr) (c0_1:Nat) (A0_2:Option Addr) (c0_2:Nat),vs=[.agg #[.slice (A0_0) ((p0.V).length) (c0_0),.slice (A0_1) ((p0.T).length) (c0_1),.slice (A0_2) ((p0.Lines).length) (c0_2)]]/\Has K A0_0 (p0.V).length c0_0 4 Ah (p0.V)/\Has K A0_1 (p0.T).length c0_1 3 Aq (p0.T)/\Has K A0_2 (p0.Lines).length c0_2 2 Ai (p0.Lines)/\True) (fun _ r=>fun v Ln=>v = .int .i64 (r)/\Ln=[]/\True):=⟨by
 rintro K _ r ⟨A0_0,c0_0,A0_1,c0_1,A0_2,c0_2,rfl,ha0,ha1,ha2,-⟩ hx w hK;replace ha0:=Has.lo ha0 hK;replace ha1:=Has.lo ha1 hK;replace ha2:=Has.lo ha2 hK;unfold Kk at hx;refine CtS Tryz.ntmps38 Tryz.results38 ?_;try (refine pre ?_;intros;rename_i hx)
 refine Bw ?_;try (refine pre ?_;intros;rename_i hx)
 apply Jr (γ:=Unit) hx [] (fun s4 y4 f=>(30,.bool (s4))::f) [999] (fun s4 y4 l=>l);exact kk
 ·intro s4 y4 hx;exact au
 ·intro _ hx;exact au⟩
theorem Ae9 (p0:Aw) {K:List Ent} {A0_0:Option Addr} {c0_0:Nat} {A0_1:Option Addr} {c0_1:Nat} {A0_2:Option Addr} {c0_2:Nat} (ha0:Has K A0_0 (p0.V).length c0_0 4 Ah (p0.V)) (ha1:Has K A0_1 (p0.T).length c0_1 3 Aq (p0.T)) (ha2:Has K A0_2 (p0.Lines).length c0_2 2 Ai (p0.Lines)) {r:Int} (hx:Kk p0=some r) (w:World) (hK:∀ e∈K,Ent.ok w e):CtL Tryz.prog 38 [.agg #[.slice (A0_0) ((p0.V).length) (c0_0),.slice (A0_1) ((p0.T).length) (c0_1),.slice (A0_2) ((p0.Lines).length) (c0_2)]] w fun v Ln=>v = .int .i64 (r)/\Ln=[]/\True:=(Agy p0).h K _ _ ⟨_,_,_,_,_,_,rfl,ha0,ha1,ha2,trivial⟩ hx w hK
set_option maxRecDepth 100000 in
instance Yr (p0:Ab):Con (Aj p0) Tryz.prog 67 (fun _ vs=>vs=[.agg #[.int .i64 (p0.X),.int .i64 (p0.Y),.int .i64 (p0.Z.Lo),.int .i64 (p0.Z.Hi)]]) (fun _ r=>fun v Ln=>v = .agg #[.int .i64 (r.X),.int .i64 (r.Y)]/\Ln=[]/\True):=⟨by
 rintro _ _ r rfl hx w hK;unfold Aj at hx;refine CtS Tryz.ntmps67 Tryz.results67 ?_;exact au⟩
theorem Qr (p0:Ab)  {r:Ac} (hx:Aj p0=some r) (w:World):CtL Tryz.prog 67 [.agg #[.int .i64 (p0.X),.int .i64 (p0.Y),.int .i64 (p0.Z.Lo),.int .i64 (p0.Z.Hi)]] w fun v Ln=>v = .agg #[.int .i64 (r.X),.int .i64 (r.Y)]/\Ln=[]/\True:=(Yr p0).h [] _ _ rfl hx w (fun _ h=>absurd h List.not_mem_nil)
set_option maxRecDepth 100000 in
instance lidarref06_ValidPlace_c (p0:Ac):Con (Gh p0) Tryz.prog 79 (fun _ vs=>vs=[.agg #[.int .i64 (p0.X),.int .i64 (p0.Y)]]) (fun _ r=>fun v Ln=>v = .bool (r)/\Ln=[]/\True):=⟨by
 rintro _ _ r rfl hx w hK;unfold Gh at hx;refine CtS Tryz.ntmps79 Tryz.results79 ?_;exact au⟩
set_option maxHeartbeats 1000000 in
set_option maxRecDepth 100000 in
instance lidarref06_validVertex_c (p0:Ab):Con (Fp p0) Tryz.prog 179 (fun _ vs=>vs=[.agg #[.int .i64 (p0.X),.int .i64 (p0.Y),.int .i64 (p0.Z.Lo),.int .i64 (p0.Z.Hi)]]) (fun _ r=>fun v Ln=>v = .bool (r)/\Ln=[]/\True):=⟨by
 rintro _ _ r rfl hx w hK;unfold Fp at hx;refine CtS Tryz.ntmps179 Tryz.results179 ?_;exact au⟩
set_option maxRecDepth 100000 in
instance Xq (p0:Ac) (p1:Ac):Con (Eg p0 p1) Tryz.prog 152 (fun _ vs=>vs=[.agg #[.int .i64 (p0.X),.int .i64 (p0.Y)],.agg #[.int .i64 (p1.X),.int .i64 (p1.Y)]]) (fun _ r=>fun v Ln=>v = .bool (r)/\Ln=[]/\True):=⟨by
 rintro _ _ r rfl hx w hK;unfold Eg at hx;refine CtS Tryz.ntmps152 Tryz.results152 ?_;exact au⟩
theorem Vx (p0:Ac) (p1:Ac)  {r:Bool} (hx:Eg p0 p1=some r) (w:World):CtL Tryz.prog 152 [.agg #[.int .i64 (p0.X),.int .i64 (p0.Y)],.agg #[.int .i64 (p1.X),.int .i64 (p1.Y)]] w fun v Ln=>v = .bool (r)/\Ln=[]/\True:=(Xq p0 p1).h [] _ _ rfl hx w (fun _ h=>absurd h List.not_mem_nil)
set_option maxRecDepth 100000 in
instance lidarref06_Twice_c (p0:Ac) (p1:Ac) (p2:Ac):Con (Kz p0 p1 p2) Tryz.prog 66 (fun _ vs=>vs=[.agg #[.int .i64 (p0.X),.int .i64 (p0.Y)],.agg #[.int .i64 (p1.X),.int .i64 (p1.Y)],.agg #[.int .i64 (p2.X),.int .i64 (p2.Y)]]) (fun _ r=>fun v Ln=>v = .int .i64 (r)/\Ln=[]/\True):=⟨by
 rintro _ _ r rfl hx w hK;unfold Kz at hx;refine CtS Tryz.ntmps66 Tryz.results66 ?_;exact au⟩
set_option maxRecDepth 100000 in
instance lidarref06_sign_c (p0:Int):Con (Ho p0) Tryz.prog 153 (fun _ vs=>vs=[.int .i64 (p0)]) (fun _ r=>fun v Ln=>v = .int .i64 (r)/\Ln=[]/\True):=⟨by
 rintro _ _ r rfl hx w hK;unfold Ho at hx;refine CtS Tryz.ntmps153 Tryz.results153 ?_;exact au⟩
set_option maxRecDepth 100000 in
instance lidarref06_Turn_c (p0:Ac) (p1:Ac) (p2:Ac):Con (By p0 p1 p2) Tryz.prog 90 (fun _ vs=>vs=[.agg #[.int .i64 (p0.X),.int .i64 (p0.Y)],.agg #[.int .i64 (p1.X),.int .i64 (p1.Y)],.agg #[.int .i64 (p2.X),.int .i64 (p2.Y)]]) (fun _ r=>fun v Ln=>v = .int .i64 (r)/\Ln=[]/\True):=⟨by
 rintro _ _ r rfl hx w hK;unfold By at hx;refine CtS Tryz.ntmps90 Tryz.results90 ?_;exact au⟩
set_option maxRecDepth 100000 in
instance lidarref06_wide_add_c (p0:Ch) (p1:Int) (p2:Int):Con (Eb p0 p1 p2) Tryz.prog 243 (fun _ vs=>vs=[.agg #[.int .i64 (p0.high),.int .i64 (p0.middle),.int .i64 (p0.low)],.int .i64 (p1),.int .i64 (p2)]) (fun _ r=>fun v Ln=>v = .agg #[.int .i64 (r.high),.int .i64 (r.middle),.int .i64 (r.low)]/\Ln=[]/\True):=⟨by
 rintro _ _ r rfl hx w hK;unfold Eb at hx;refine CtS Tryz.ntmps243 Tryz.results243 ?_;exact au⟩
set_option maxHeartbeats 1000000 in
set_option maxRecDepth 100000 in
instance lidarref06_wide_sign_c (p0:Ch):Con (Hc p0) Tryz.prog 244 (fun _ vs=>vs=[.agg #[.int .i64 (p0.high),.int .i64 (p0.middle),.int .i64 (p0.low)]]) (fun _ r=>fun v Ln=>v = .int .i64 (r)/\Ln=[]/\True):=⟨by
 rintro _ _ r rfl hx w hK;unfold Hc at hx;refine CtS Tryz.ntmps244 Tryz.results244 ?_;exact au⟩
set_option maxHeartbeats 1000000 in
set_option maxRecDepth 100000 in
instance lidarref06_Circle_c (p0:Ac) (p1:Ac) (p2:Ac) (p3:Ac):Con (Kf p0 p1 p2 p3) Tryz.prog 183 (fun _ vs=>vs=[.agg #[.int .i64 (p0.X),.int .i64 (p0.Y)],.agg #[.int .i64 (p1.X),.int .i64 (p1.Y)],.agg #[.int .i64 (p2.X),.int .i64 (p2.Y)],.agg #[.int .i64 (p3.X),.int .i64 (p3.Y)]]) (fun _ r=>fun v Ln=>v = .int .i64 (r)/\Ln=[]/\True):=⟨by
 rintro _ _ r rfl hx w hK;unfold Kf at hx;have:=dl 1 [0,1,0,1,0,0,1,0,1,0,0,1,0,1,0,0,1,0,1,0,0,1,0,1,0,0,1,0,1,0,2,2,2,2,2,2] [0,1,2,3,4,5,6,7,8,9,10,11,12,13,14,15,16,17,18,19,20,21,22,23,24,25,26,27,28,29,30,31,32,33,34,35];refine CtS Tryz.ntmps183 Tryz.results183 ?_;exact au⟩
theorem Aqw (a:Int):shr_ .i64 a 30=a / 1073741824:=by
 unfold shr_
 rw [show (2:Int) ^ (min (30:Int).toNat IntKind.i64.bits)=1073741824 from by decide,Int.fdiv_eq_ediv_of_nonneg _ (by omega)]
theorem Aqx (a:Int):Og .i64 a 1073741823=a % 1073741824:=by
 unfold Og
 have h1:(BitVec.ofInt 64 1073741823).toNat=2 ^ 30-1:=by decide
 have h2:(BitVec.ofInt 64 a).toNat=(a % 18446744073709551616).toNat:=by simp [BitVec.toNat_ofInt]
 have h3:(BitVec.ofInt IntKind.i64.bits a &&& BitVec.ofInt IntKind.i64.bits 1073741823).toNat=(a % 1073741824).toNat:=by
  show (BitVec.ofInt 64 a &&& BitVec.ofInt 64 1073741823).toNat=_
  rw [BitVec.toNat_and,h1,Nat.and_two_pow_sub_one_eq_mod,h2]
  omega
 rw [h3]
 show IntKind.wrap .i64 _=_
 rw [IntKind.wrap_i64]
 omega
def wval (w:Ch):Int:=w.high*1152921504606846976+w.middle*1073741824+w.low
structure Akn (w:Ch) (n z:Int):Prop where
 val:wval w=z
 high:-(n*288230376151711744)<=w.high/\w.high<=n*288230376151711744
 middle:-(n*1152921504606846976)<=w.middle/\w.middle<=n*1152921504606846976
 low:0<=w.low/\w.low<=n*1152921504606846976
theorem Ad3 {w:Ch} {n z a b:Int} (h:Akn w n z) (hn0:0<=n) (hn:n<=2) (ha1:-576460752303423488<=a) (ha2:a<=576460752303423488) (hb1:-576460752303423488<=b) (hb2:b<=576460752303423488) :
  ∃ w',Eb w a b=some w'/\Akn w' (n+1) (z+a*b):=by
 obtain ⟨h0,h1,h2,h3⟩:=h
 unfold Eb
 rw [Aqw,Aqw,Aqx,Aqx]
 have ea:a=a / 1073741824*1073741824+a % 1073741824:=by omega
 have eb:b=b / 1073741824*1073741824+b % 1073741824:=by omega
 have A1:-536870912<=a / 1073741824/\a / 1073741824<=536870912:=by omega
 have B1:-536870912<=b / 1073741824/\b / 1073741824<=536870912:=by omega
 have A0:0<=a % 1073741824/\a % 1073741824<=1073741824:=by omega
 have B0:0<=b % 1073741824/\b % 1073741824<=1073741824:=by omega
 generalize a / 1073741824=a1 at *
 generalize b / 1073741824=b1 at *
 generalize a % 1073741824=a0 at *
 generalize b % 1073741824=b0 at *
 have p1:=mulB (x:=a1) (y:=b1) (M:=536870912) (N:=536870912) (by omega) (by omega) (by omega) (by omega) (by omega)
 have p2:=mulB (x:=a1) (y:=b0) (M:=536870912) (N:=1073741824) (by omega) (by omega) (by omega) (by omega) (by omega)
 have p3:=mulB (x:=a0) (y:=b1) (M:=1073741824) (N:=536870912) (by omega) (by omega) (by omega) (by omega) (by omega)
 have p4:=mulB (x:=a0) (y:=b0) (M:=1073741824) (N:=1073741824) (by omega) (by omega) (by omega) (by omega) (by omega)
 have p5:0<=a0*b0:=Int.mul_nonneg A0.1 B0.1
 have e:a*b=a1*b1*1152921504606846976+(a1*b0+a0*b1)*1073741824+a0*b0:=by
  rw [ea,eb];grind
 rw [Ay (x:=a1*b1) (by omega) (by omega),Ay (x:=a1*b0) (by omega) (by omega),Ay (x:=a0*b1) (by omega) (by omega),Ay (x:=a0*b0) (by omega) (by omega),
  Ay (x:=w.high+a1*b1) (by omega) (by omega),Ay (x:=w.middle+a1*b0) (by omega) (by omega),Ay (by omega) (by omega),Ay (by omega) (by omega)]
 refine ⟨_,rfl,?_,?_,?_,?_⟩
 ·unfold wval at h0 ⊢
  simp only
  omega
 ·simp only;omega
 ·simp only;omega
 ·simp only;omega
theorem Ad4 (z:Int):Ho z=some (Int.sign z):=by
 unfold Ho
 by_cases h:z < 0
 ·rw [if_pos h,Int.sign_eq_neg_one_of_neg h]
 ·rw [if_neg h]
  by_cases h2:0 < z
  ·rw [if_pos h2,Int.sign_eq_one_of_pos h2]
  ·rw [if_neg h2,show z=0 by omega];rfl
theorem Aob {w:Ch} {z:Int} (h:Akn w 3 z):Hc w=some (Int.sign z):=by
 obtain ⟨h0,h1,h2,h3⟩:=h
 unfold Hc
 simp only [Aqw,Aqx]
 have e1:w.low=w.low / 1073741824*1073741824+w.low % 1073741824:=by omega
 rw [Ay (x:=w.middle+w.low / 1073741824) (by omega) (by omega)]
 have e2:w.middle+w.low / 1073741824=(w.middle+w.low / 1073741824) / 1073741824*1073741824+(w.middle+w.low / 1073741824) % 1073741824:=by omega
 unfold wval at h0
 have l0:0<=w.low % 1073741824/\w.low % 1073741824 < 1073741824:=by omega
 have m0:0<=(w.middle+w.low / 1073741824) % 1073741824/\(w.middle+w.low / 1073741824) % 1073741824 < 1073741824:=by omega
 have hb:-4611686018427387904<=w.high+(w.middle+w.low / 1073741824) / 1073741824/\w.high+(w.middle+w.low / 1073741824) / 1073741824<=4611686018427387904:=by omega
 have hz:z=(w.high+(w.middle+w.low / 1073741824) / 1073741824)*1152921504606846976+(w.middle+w.low / 1073741824) % 1073741824*1073741824+w.low % 1073741824:=by omega
 clear e1 e2 h0 h1 h2 h3
 rw [Ay (x:=w.high+(w.middle+w.low / 1073741824) / 1073741824) (by omega) (by omega)]
 generalize w.high+(w.middle+w.low / 1073741824) / 1073741824=H at *
 generalize (w.middle+w.low / 1073741824) % 1073741824=M at *
 generalize w.low % 1073741824=L at *
 by_cases c:H=0
 ·rw [if_pos c,Ay (by omega) (by omega),Ad4,Ad]
  congr 1
  by_cases c2:M+L=0
  ·rw [c2,show z=0 by omega]
  ·rw [Int.sign_eq_one_of_pos (by omega),Int.sign_eq_one_of_pos (by omega)]
 ·rw [if_neg c,Ad4,Ad]
  congr 1
  by_cases c2:H < 0
  ·rw [Int.sign_eq_neg_one_of_neg c2,Int.sign_eq_neg_one_of_neg (by omega)]
  ·rw [Int.sign_eq_one_of_pos (by omega),Int.sign_eq_one_of_pos (by omega)]
theorem Afv {a b c:Ac} (ha:okP a) (hb:okP b) (hc:okP c):Kz a b c=some (crs a b c):=Oa ha hb hc
theorem Nb {a b c:Ac} (ha:okP a) (hb:okP b) (hc:okP c):By a b c=some (Int.sign (crs a b c)):=by
 unfold By
 rw [Afv ha hb hc,Ad,Ad4,Ad]
theorem Ako {a b c d:Ac} (ha:okP a) (hb:okP b) (hc:okP c) (hd:okP d):Kf a b c d=some (Int.sign (inC a b c d)):=by
 have l1:=Yx ha hd
 have l2:=Yx hb hd
 have l3:=Yx hc hd
 have c1:=Lu hd hb hc
 have c2:=Lu hd hc ha
 have c3:=Lu hd ha hb
 obtain ⟨w1,e1,i1⟩:=Ad3 (w:=⟨0,0,0⟩) (n:=0) (z:=0) (a:=lft a d) (b:=crs d b c) ⟨rfl,by simp,by simp,by simp⟩ (by omega) (by omega) (by omega) (by omega) (by omega) (by omega)
 obtain ⟨w2,e2,i2⟩:=Ad3 (a:=lft b d) (b:=crs d c a) i1 (by omega) (by omega) (by omega) (by omega) (by omega) (by omega)
 obtain ⟨w3,e3,i3⟩:=Ad3 (a:=lft c d) (b:=crs d a b) i2 (by omega) (by omega) (by omega) (by omega) (by omega) (by omega)
 have x1:w64 (w64 (w64 (a.X-d.X)*w64 (a.X-d.X))+w64 (w64 (a.Y-d.Y)*w64 (a.Y-d.Y)))=lft a d:=Option.some.inj (Xi ha hd)
 have x2:w64 (w64 (w64 (b.X-d.X)*w64 (b.X-d.X))+w64 (w64 (b.Y-d.Y)*w64 (b.Y-d.Y)))=lft b d:=Option.some.inj (Xi hb hd)
 have x3:w64 (w64 (w64 (c.X-d.X)*w64 (c.X-d.X))+w64 (w64 (c.Y-d.Y)*w64 (c.Y-d.Y)))=lft c d:=Option.some.inj (Xi hc hd)
 have y1:w64 (w64 (w64 (b.X-d.X)*w64 (c.Y-d.Y))-w64 (w64 (b.Y-d.Y)*w64 (c.X-d.X)))=crs d b c:=Option.some.inj (Oa hd hb hc)
 have y2:w64 (w64 (w64 (c.X-d.X)*w64 (a.Y-d.Y))-w64 (w64 (c.Y-d.Y)*w64 (a.X-d.X)))=crs d c a:=Option.some.inj (Oa hd hc ha)
 have y3:w64 (w64 (w64 (a.X-d.X)*w64 (b.Y-d.Y))-w64 (w64 (a.Y-d.Y)*w64 (b.X-d.X)))=crs d a b:=Option.some.inj (Oa hd ha hb)
 unfold Kf
 simp only [x1,x2,x3,y1,y2,y3,e1,Ad,e2,e3]
 rw [Aob (by simpa using i3),Ad]
 simp [inC]
def befP (p q:Ac):Prop:=p.X < q.X\/p.X=q.X/\p.Y < q.Y
instance (p q:Ac):Decidable (befP p q):=by unfold befP;infer_instance
def Bm (p q:Ac):Prop:=p.X=q.X/\p.Y=q.Y
instance (p q:Ac):Decidable (Bm p q):=by unfold Bm;infer_instance
theorem Zz {p q:Ac} (h:Bm p q):p=q:=by
 obtain ⟨x,y⟩:=p
 obtain ⟨x',y'⟩:=q
 obtain ⟨h1,h2⟩:=h
 simp only at h1 h2
 rw [h1,h2]
def Km (a b:Ac):Ac:=if befP b a then b else a
theorem Aqy (a b:Ac):Ef a b=some (decide (befP a b)):=by
 unfold Ef jn befP
 simp only
 by_cases h1:a.X < b.X
 ·simp [h1]
 ·by_cases h2:a.X=b.X
  ·simp [h2]
  ·simp [h1,h2]
theorem Atu (a:Ac):Gh a=some (decide (okP a)):=by
 unfold Gh
 rw [jn_d]
 by_cases h1:-268435456<=a.X
 ·rw [if_pos h1]
  by_cases h2:a.X<=268435456
  ·rw [if_pos h2]
   by_cases h3:-268435456<=a.Y
   ·rw [if_pos h3]
    by_cases h4:a.Y<=268435456
    ·rw [decide_eq_true h4,decide_eq_true (show okP a by unfold okP;omega)]
    ·rw [decide_eq_false h4,decide_eq_false (show ¬ okP a by unfold okP;omega)]
   ·rw [if_neg h3,decide_eq_false (show ¬ okP a by unfold okP;omega)]
  ·rw [if_neg h2,decide_eq_false (show ¬ okP a by unfold okP;omega)]
 ·rw [if_neg h1,decide_eq_false (show ¬ okP a by unfold okP;omega)]
theorem Akp (B:(Int × Int × Int)->Option (Sum (Int × Int × Int) (Int × Int))) (p q r:Ac)
  (hB:∀ x y i,B (x,y,i)=if i < 3 then bnd (idx [p,q,r] i) fun z=>some (.inl ((Km ⟨x,y⟩ z).X,(Km ⟨x,y⟩ z).Y,w64 (i+1))) else some (.inr (x,y))) (x y:Int) :
  lfix B (x,y,0)=some ((Km (Km (Km ⟨x,y⟩ p) q) r).X,(Km (Km (Km ⟨x,y⟩ p) q) r).Y):=by
 have w1:w64 (0+1)=1:=Ay (by omega) (by omega)
 have w2:w64 (1+1)=2:=Ay (by omega) (by omega)
 have w3:w64 (2+1)=3:=Ay (by omega) (by omega)
 have i0:idx [p,q,r] 0=some p:=rfl
 have i1:idx [p,q,r] 1=some q:=rfl
 have i2:idx [p,q,r] 2=some r:=rfl
 rw [Bf,hB,if_pos (by omega),i0,Ad,w1]
 simp only
 rw [Bf,hB,if_pos (by omega),i1,Ad,w2]
 simp only
 rw [Bf,hB,if_pos (by omega),i2,Ad,w3]
 simp only
 rw [Bf,hB,if_neg (by omega)]
theorem Aoc {a b c d:Ac} (h1:¬ Bm a c) (h2:¬ Bm a d) (h3:¬ Bm b c) (h4:¬ Bm b d) :
  (Bm (Km (Km (Km a b) c) d) c\/Bm (Km (Km (Km a b) c) d) d)↔((befP c a/\befP c b)\/(befP d a/\befP d b)):=by
 have key:∀ p q:Ac,(befP q p/\Km p q=q)\/(¬ befP q p/\Km p q=p):=fun p q=>by
  unfold Km
  by_cases h:befP q p
  ·exact .inl ⟨h,if_pos h⟩
  ·exact .inr ⟨h,if_neg h⟩
 rcases key a b with ⟨k1,e1⟩ | ⟨k1,e1⟩ <;> rw [e1]
 ·rcases key b c with ⟨k2,e2⟩ | ⟨k2,e2⟩ <;> rw [e2]
  ·rcases key c d with ⟨k3,e3⟩ | ⟨k3,e3⟩ <;> rw [e3] <;> unfold Bm befP at * <;> omega
  ·rcases key b d with ⟨k3,e3⟩ | ⟨k3,e3⟩ <;> rw [e3] <;> unfold Bm befP at * <;> omega
 ·rcases key a c with ⟨k2,e2⟩ | ⟨k2,e2⟩ <;> rw [e2]
  ·rcases key c d with ⟨k3,e3⟩ | ⟨k3,e3⟩ <;> rw [e3] <;> unfold Bm befP at * <;> omega
  ·rcases key a d with ⟨k3,e3⟩ | ⟨k3,e3⟩ <;> rw [e3] <;> unfold Bm befP at * <;> omega
def legP (a b c d:Ac):Prop:=Int.sign (crs a b c)*Int.sign (inC a b c d) < 0\/Int.sign (crs a b c)*Int.sign (inC a b c d)=0/\((befP c a/\befP c b)\/(befP d a/\befP d b))
instance (a b c d:Ac):Decidable (legP a b c d):=by unfold legP;infer_instance
theorem Mk (a c:Ac):crs a c c=0:=by unfold crs;grind
theorem Bi (a b:Ac):crs a b a=0:=by unfold crs;grind
theorem Bb (a b:Ac):crs a b b=0:=by unfold crs;grind
theorem Px (a b:Ac):crs a a b=0:=by unfold crs;grind
theorem Ar (a b c:Ac):crs b a c = -crs a b c:=by unfold crs;grind
theorem Al (a b c:Ac):crs b c a=crs a b c:=by unfold crs;grind
theorem Aqz {a b c d:Ac} (ha:okP a) (hb:okP b) (hc:okP c) (hd:okP d) (h1:¬ Bm a c) (h2:¬ Bm a d) (h3:¬ Bm b c) (h4:¬ Bm b d):Pu a b c d=some (decide (legP a b c d)):=by
 unfold Pu
 rw [Aoj,if_pos ⟨ha,hb,hc,hd⟩,Ad]
 have e:(if crs a b c=0 then ((0:Int),(12:Int)) else (Int.sign (crs a b c)*Int.sign (inC a b c d),0)).1=Int.sign (crs a b c)*Int.sign (inC a b c d):=by
  split
  ·rename_i h;rw [h];simp
  ·rfl
 rw [e]
 by_cases h0:Int.sign (crs a b c)*Int.sign (inC a b c d)=0
 ·rw [if_pos h0,jn_d,Akp _ b c d (fun x y i=>?_),Ad]
  ·dsimp only
   rw [jn_d]
   have hl:=Aoc h1 h2 h3 h4
   by_cases hcc:Bm (Km (Km (Km a b) c) d) c
   ·have:legP a b c d:=.inr ⟨h0,hl.1 (.inl hcc)⟩
    rw [if_pos (by simpa [Bm] using hcc),decide_eq_true this]
   ·rw [if_neg (by simpa [Bm] using hcc)]
    congr 1
    rw [Bool.eq_iff_iff]
    simp only [Bool.and_true,Bool.and_eq_true,beq_iff_eq,decide_eq_true_eq]
    unfold legP
    constructor
    ·intro h;exact .inr ⟨h0,hl.1 (.inr h)⟩
    ·rintro (h | ⟨_,h⟩)
     ·omega
     ·exact (hl.2 h).resolve_left hcc
  ·unfold Sr
   simp only
   split
   ·refine congrArg (bnd _) (funext fun z=>?_)
    rw [Aqy,Ad]
    unfold Km
    by_cases hb:befP z ⟨x,y⟩
    ·rw [if_pos (by simpa using hb),if_pos hb]
    ·rw [if_neg (by simpa using hb),if_neg hb]
   ·rfl
 ·rw [if_neg h0]
  congr 1
  rw [Bool.eq_iff_iff]
  simp only [decide_eq_true_eq]
  unfold legP
  constructor
  ·intro h;exact .inl h
  ·rintro (h | ⟨h,_⟩)
   ·exact h
   ·exact absurd h h0
theorem Aa7 {x y:Int}:Int.sign x*Int.sign y = -1↔(x < 0/\0 < y)\/(0 < x/\y < 0):=by
 rcases Int.lt_trichotomy x 0 with h | h | h <;> rcases Int.lt_trichotomy y 0 with h' | h' | h'
 all_goals first
  | (rw [Int.sign_eq_neg_one_of_neg h];try rw [Int.sign_eq_neg_one_of_neg h'])
  | (rw [Int.sign_eq_one_of_pos h];try rw [Int.sign_eq_neg_one_of_neg h'])
  | (rw [h])
 all_goals try rw [Int.sign_eq_one_of_pos h']
 all_goals try rw [h']
 all_goals simp
 all_goals omega
theorem Sk {x y:Int}:w64 (Int.sign x*Int.sign y)=Int.sign x*Int.sign y:=by
 apply Ay
 ·rcases Int.sign_trichotomy x with h | h | h <;> rcases Int.sign_trichotomy y with h' | h' | h' <;> simp [h,h']
 ·rcases Int.sign_trichotomy x with h | h | h <;> rcases Int.sign_trichotomy y with h' | h' | h' <;> simp [h,h']
theorem Agz {x y:Int}:0<=Int.sign x*Int.sign y↔¬ Int.sign x*Int.sign y = -1:=by
 rcases Int.sign_trichotomy x with h | h | h <;> rcases Int.sign_trichotomy y with h' | h' | h' <;> simp [h,h']
theorem Ag0 {a b c d:Ac} (h:Int.sign (crs a b c)*Int.sign (crs a b d) = -1):¬ Bm a c/\¬ Bm a d/\¬ Bm b c/\¬ Bm b d:=by
 rw [Aa7] at h
 refine ⟨fun e=>?_,fun e=>?_,fun e=>?_,fun e=>?_⟩ <;> (have:=Zz e;subst this;simp only [Mk,Bi,Bb] at h;omega)
def Dt (ha hb hc hd:Int) (a b c d:Ac):Int:=ha*crs b c d+hb*crs c a d+hc*crs a b d-hd*crs a b c
def plt (ha hb hc:Int) (a b c x:Ac):Int:=ha*crs b c x+hb*crs c a x+hc*crs a b x
def sq (p:Ac):Int:=p.X*p.X+p.Y*p.Y
theorem Awj (a b c d:Ac):inC a b c d=Dt (sq a) (sq b) (sq c) (sq d) a b c d:=by unfold inC Dt lft sq crs;grind
theorem Aa8 (ha hb hc hd:Int) (a b c d:Ac):Dt ha hb hc hd a b c d=plt ha hb hc a b c d-hd*crs a b c:=rfl
theorem Nc (a b c d:Ac):crs a b c=crs b c d+crs c a d+crs a b d:=by unfold crs;grind
theorem Ag1 (a b c q r u:Ac):crs b c u*crs q r a+crs c a u*crs q r b+crs a b u*crs q r c=crs a b c*crs q r u:=by unfold crs;grind
theorem Ys (hp hq hr:Int) (a b c p q r u:Ac):crs b c u*plt hp hq hr p q r a+crs c a u*plt hp hq hr p q r b+crs a b u*plt hp hq hr p q r c=crs a b c*plt hp hq hr p q r u:=by
 have h1:=Ag1 a b c q r u
 have h2:=Ag1 a b c r p u
 have h3:=Ag1 a b c p q u
 unfold plt
 grind
theorem Ok (ha hb hc hd:Int) (a b c d x:Ac):plt hb ha hd b a d x*crs a b c-plt ha hb hc a b c x*crs b a d=Dt ha hb hc hd a b c d*crs a b x:=by
 unfold plt Dt crs;grind
theorem Atv (ha hb hc hd:Int) (a b c d:Ac):Dt hb ha hc hd b a c d = -Dt ha hb hc hd a b c d:=by unfold Dt crs;grind
theorem Awk (ha hb hc hd:Int) (a b c d:Ac):Dt hb hc ha hd b c a d=Dt ha hb hc hd a b c d:=by unfold Dt crs;grind
theorem Ain (ha hb hc hd:Int) (a b c d:Ac):Dt ha hb hd hc a b d c = -Dt ha hb hc hd a b c d:=by unfold Dt crs;grind
theorem Aaa (ha hb hc:Int) (a b c x:Ac):plt hb hc ha b c a x=plt ha hb hc a b c x:=by unfold plt;grind
theorem Aq0 (ha hb hc:Int) (a b c:Ac):plt ha hb hc a b c a=ha*crs a b c:=by unfold plt crs;grind
theorem Al6 (ha hb hc:Int) (a b c:Ac):plt ha hb hc a b c b=hb*crs a b c:=by unfold plt crs;grind
theorem Al7 (ha hb hc:Int) (a b c:Ac):plt ha hb hc a b c c=hc*crs a b c:=by unfold plt crs;grind
theorem Awl (a b c d:Ac):inC a b c d=lft a b*crs b c d+lft c b*crs a b d-lft d b*crs a b c:=by unfold inC lft crs;grind
theorem Ag2 {p q:Ac} (h:¬ Bm p q):0 < lft p q:=by
 unfold lft
 have h1:0<=(p.X-q.X)*(p.X-q.X):=by rw [<- Int.natAbs_mul_self];omega
 have h2:0<=(p.Y-q.Y)*(p.Y-q.Y):=by rw [<- Int.natAbs_mul_self];omega
 by_cases hx:p.X=q.X
 ·have hy:p.Y-q.Y≠0:=fun e=>h ⟨hx,by omega⟩
  have:0 < (p.Y-q.Y)*(p.Y-q.Y):=by
   rcases Int.lt_or_gt_of_ne hy with g | g
   ·exact Int.mul_pos_of_neg_of_neg g g
   ·exact Int.mul_pos g g
  omega
 ·have hx':p.X-q.X≠0:=by omega
  have:0 < (p.X-q.X)*(p.X-q.X):=by
   rcases Int.lt_or_gt_of_ne hx' with g | g
   ·exact Int.mul_pos_of_neg_of_neg g g
   ·exact Int.mul_pos g g
  omega
theorem Uq (p q:Ac):0<=lft p q:=by
 unfold lft
 have h1:0<=(p.X-q.X)*(p.X-q.X):=by rw [<- Int.natAbs_mul_self];omega
 have h2:0<=(p.Y-q.Y)*(p.Y-q.Y):=by rw [<- Int.natAbs_mul_self];omega
 omega
theorem Ad5 {a b c d:Ac} (h1:0 < crs a b c) (h2:crs a b d < 0) (h3:crs b c d<=0):inC a b c d < 0:=by
 have hd:¬ Bm d b:=fun e=>by
  have:=Zz e
  subst this
  simp only [Bb] at h2
  omega
 rw [Awl]
 have e1:lft a b*crs b c d<=0:=Int.mul_nonpos_of_nonneg_of_nonpos (Uq a b) h3
 have e2:lft c b*crs a b d<=0:=Int.mul_nonpos_of_nonneg_of_nonpos (Uq c b) (by omega)
 have e3:0 < lft d b*crs a b c:=Int.mul_pos (Ag2 hd) h1
 omega
theorem Vy {a b c d:Ac} (h1:0 < crs a b c) (h2:crs a b d < 0) (h3:crs c a d<=0):inC a b c d < 0:=by
 have e:inC a b c d=lft b a*crs c a d+lft c a*crs a b d-lft d a*crs a b c:=by unfold inC lft crs;grind
 have hd:¬ Bm d a:=fun e=>by
  have:=Zz e
  subst this
  simp only [Bi] at h2
  omega
 rw [e]
 have e1:lft b a*crs c a d<=0:=Int.mul_nonpos_of_nonneg_of_nonpos (Uq b a) h3
 have e2:lft c a*crs a b d<=0:=Int.mul_nonpos_of_nonneg_of_nonpos (Uq c a) (by omega)
 have e3:0 < lft d a*crs a b c:=Int.mul_pos (Ag2 hd) h1
 omega
end Go.Proofs.YtjfndjmabhbicaaGreat
