/- Walks of the program, with their plain functions: the references on places. -/
import Derived.Test.YtgfiafnelibjgaaGreatD5
namespace Go.Proofs.YtgfiafnelibjgaaGreat
open Go Go.RowKit
theorem Aq6:Hv Tryz.prog 30 35 3:=.mk Tryz.underlying30 (show Tryz.prog.info? 35=some Tryz.t35 from by kernel_rfl) (by kernel_rfl)
instance:Lz Tryz.prog 30 35 3:=⟨Aq6⟩
theorem Ama:Na Tryz.prog 35 3:=.arr Tryz.underlying35 (show Tryz.prog.info? 35=some Tryz.t35 from by kernel_rfl) (by kernel_rfl)
instance:AggI Tryz.prog 35 3:=⟨Ama⟩
theorem Atg (a0:Int) (a1:Int) (a2:Int) (b0:Int) (b1:Int) (b2:Int):∀ w,(Op.equalIn 10000 35 (.agg #[.int .i64 (a0),.int .i64 (a1),.int .i64 (a2)]) (.agg #[.int .i64 (b0),.int .i64 (b1),.int .i64 (b2)])).run Tryz.prog w = .ok ((((a0) == (b0)) && (((a1) == (b1)) && (((a2) == (b2)) && true)))) w :=
 EqI.array (c:=1) Tryz.underlying35 (show Tryz.prog.info? 3=some Tryz.t3 from by kernel_rfl) (by kernel_rfl) (.cons (fun w=>by kernel_rfl) (fun w=>by kernel_rfl) (fun w=>run_equalIn_int w 9998 3 .i64 .i64 _ _ Tryz.underlying3) (.cons (fun w=>by kernel_rfl) (fun w=>by kernel_rfl) (fun w=>run_equalIn_int w 9998 3 .i64 .i64 _ _ Tryz.underlying3) (.cons (fun w=>by kernel_rfl) (fun w=>by kernel_rfl) (fun w=>run_equalIn_int w 9998 3 .i64 .i64 _ _ Tryz.underlying3) (EqI.nil))))
instance (a0:Int) (a1:Int) (a2:Int) (b0:Int) (b1:Int) (b2:Int):EqSI Tryz.prog 35 [.int .i64 (a0),.int .i64 (a1),.int .i64 (a2)] [.int .i64 (b0),.int .i64 (b1),.int .i64 (b2)] ((((a0) == (b0)) && (((a1) == (b1)) && (((a2) == (b2)) && true)))):=⟨Atg _ _ _ _ _ _,by kernel_rfl⟩
theorem Aq7 (a0:Int) (a1:Int) (b0:Int) (b1:Int):∀ w,(Op.equalIn 10000 48 (.agg #[.int .i64 (a0),.int .i64 (a1)]) (.agg #[.int .i64 (b0),.int .i64 (b1)])).run Tryz.prog w = .ok ((((a0) == (b0)) && (((a1) == (b1)) && true))) w :=
 EqI.array (c:=1) Tryz.underlying48 (show Tryz.prog.info? 3=some Tryz.t3 from by kernel_rfl) (by kernel_rfl) (.cons (fun w=>by kernel_rfl) (fun w=>by kernel_rfl) (fun w=>run_equalIn_int w 9998 3 .i64 .i64 _ _ Tryz.underlying3) (.cons (fun w=>by kernel_rfl) (fun w=>by kernel_rfl) (fun w=>run_equalIn_int w 9998 3 .i64 .i64 _ _ Tryz.underlying3) (EqI.nil)))
instance (a0:Int) (a1:Int) (b0:Int) (b1:Int):EqSI Tryz.prog 48 [.int .i64 (a0),.int .i64 (a1)] [.int .i64 (b0),.int .i64 (b1)] ((((a0) == (b0)) && (((a1) == (b1)) && true))):=⟨Aq7 _ _ _ _,by kernel_rfl⟩
theorem Aa6:Fe Tryz.prog 32 0 0:=.mk Tryz.underlying32 rfl rfl (show Tryz.prog.info? 22=some Tryz.t22 from by kernel_rfl) (show Tryz.t22.size=1 from by kernel_rfl) rfl
instance:Iy Tryz.prog 32 0 0:=⟨Aa6⟩
theorem Ad9:Fe Tryz.prog 32 2 2:=.mk Tryz.underlying32 rfl rfl (show Tryz.prog.info? 23=some Tryz.t23 from by kernel_rfl) (show Tryz.t23.size=1 from by kernel_rfl) rfl
instance:Iy Tryz.prog 32 2 2:=⟨Ad9⟩
theorem Zy:Oc Tryz.prog 23:=.mk Tryz.underlying23 rfl (show Tryz.prog.info? 23=some Tryz.t23 from by kernel_rfl) (by kernel_rfl)
instance:OneI Tryz.prog 23:=⟨Zy⟩
theorem Xl:Fe Tryz.prog 32 1 1:=.mk Tryz.underlying32 rfl rfl (show Tryz.prog.info? 30=some Tryz.t30 from by kernel_rfl) (show Tryz.t30.size=1 from by kernel_rfl) rfl
instance:Iy Tryz.prog 32 1 1:=⟨Xl⟩
theorem Afv:Oc Tryz.prog 30:=.mk Tryz.underlying30 rfl (show Tryz.prog.info? 30=some Tryz.t30 from by kernel_rfl) (by kernel_rfl)
instance:OneI Tryz.prog 30:=⟨Afv⟩
theorem Aru:Mr Tryz.prog 111 [.int .i64 (0),.int .i64 (0),.int .i64 (0)]:=⟨_,Tryz.zeroValue111,rfl⟩
instance:Wd Tryz.prog 111 [.int .i64 (0),.int .i64 (0),.int .i64 (0)]:=⟨Aru⟩
theorem Amb:Fe Tryz.prog 111 0 0:=.mk Tryz.underlying111 rfl rfl (show Tryz.prog.info? 3=some Tryz.t3 from by kernel_rfl) (show Tryz.t3.size=1 from by kernel_rfl) rfl
instance:Iy Tryz.prog 111 0 0:=⟨Amb⟩
theorem Amc:Fe Tryz.prog 111 1 1:=.mk Tryz.underlying111 rfl rfl (show Tryz.prog.info? 3=some Tryz.t3 from by kernel_rfl) (show Tryz.t3.size=1 from by kernel_rfl) rfl
instance:Iy Tryz.prog 111 1 1:=⟨Amc⟩
theorem Amd:Fe Tryz.prog 111 2 2:=.mk Tryz.underlying111 rfl rfl (show Tryz.prog.info? 3=some Tryz.t3 from by kernel_rfl) (show Tryz.t3.size=1 from by kernel_rfl) rfl
instance:Iy Tryz.prog 111 2 2:=⟨Amd⟩
theorem Vs (x0:Int) (x1:Int) (x2:Int):Km Tryz.prog 111 [(0,.int .i64 x0),(1,.int .i64 x1),(2,.int .i64 x2)] [.int .i64 x0,.int .i64 x1,.int .i64 x2]:=fun w=>by kernel_rfl
instance (x0:Int) (x1:Int) (x2:Int):Nt Tryz.prog 111 [(0,.int .i64 x0),(1,.int .i64 x1),(2,.int .i64 x2)] [.int .i64 x0,.int .i64 x1,.int .i64 x2]:=⟨Vs _ _ _⟩
theorem Arv:Na Tryz.prog 111 3:=.mk Tryz.underlying111 rfl (show Tryz.prog.info? 111=some Tryz.t111 from by kernel_rfl) (by kernel_rfl)
instance:AggI Tryz.prog 111 3:=⟨Arv⟩
instance:UndI Tryz.prog 30 (.slice 35):=⟨Tryz.underlying30⟩
noncomputable def Cc (p0:List Aj) (p1:List Aj):Int→Option (Sum Int (Sum Unit Bool)):=fun s0 =>
 if s0 < ((((p0).length:Nat):Int)) then (bnd (idx p0 s0) fun x0 =>
 bnd (idx p1 s0) fun x1 =>
 if ((((x0.a0) == (x1.a0)) && (((x0.a1) == (x1.a1)) && (((x0.a2) == (x1.a2)) && true))))=true then (some (.inl (w64 (s0+1))))
 else (some (.inr (.inr (false)))))
 else (some (.inr (.inl ())))
noncomputable def Cz (p0:List Aj) (p1:List Aj):Option Bool :=
 if ((((p0).length:Nat):Int))=((((p1).length:Nat):Int)) then (jn (fun (s5:Unit) =>
 some true)
 (fun j5=>bnd (lfix (Cc p0 p1) 0) fun t0 =>
 (match t0 with
 | (.inl z0)=>j5 z0
 | (.inr (z0))=>some z0
 )))
 else (some false)
noncomputable def Cd (p0:List Aa) (p1:List Aa):Int→Option (Sum Int (Sum Unit Bool)):=fun s0 =>
 if s0 < ((((p0).length:Nat):Int)) then (bnd (idx p0 s0) fun x0 =>
 bnd (idx p1 s0) fun x1 =>
 if ((((x0.a0) == (x1.a0)) && (((x0.a1) == (x1.a1)) && true)))=true then (some (.inl (w64 (s0+1))))
 else (some (.inr (.inr (false)))))
 else (some (.inr (.inl ())))
noncomputable def Da (p0:List Aa) (p1:List Aa):Option Bool :=
 if ((((p0).length:Nat):Int))=((((p1).length:Nat):Int)) then (jn (fun (s5:Unit) =>
 some true)
 (fun j5=>bnd (lfix (Cd p0 p1) 0) fun t0 =>
 (match t0 with
 | (.inl z0)=>j5 z0
 | (.inr (z0))=>some z0
 )))
 else (some false)
noncomputable def Ld (p0:Ax):Option Int :=
 bnd (Bw p0.V p0.Lines) fun r2 =>
 jn (fun (s4:Bool) =>
 if s4=true then (some 64)
 else (some 0))
 (fun j4=>if r2.2=0 then (bnd (Cz r2.1.T p0.T) fun r0 =>
 if r0=true then (bnd (Da r2.1.Lines p0.Lines) fun r1 =>
 j4 (!(r1)))
 else (j4 true))
 else (j4 true))
noncomputable def Cl (p0:Ab):Option Ac :=
 some (⟨p0.X,p0.Y⟩:Ac)
noncomputable def Gn (p0:Ac):Option Bool :=
 jn (fun (s2:Bool) =>
 some s2)
 (fun j2=>if (-268435456)≤p0.X then (if p0.X≤268435456 then (if (-268435456)≤p0.Y then (j2 (decide (p0.Y≤268435456)))
 else (j2 false))
 else (j2 false))
 else (j2 false))
noncomputable def Fv (p0:Ab):Option Bool :=
 jn (fun (s2:Bool) =>
 some s2)
 (fun j2=>bnd (Cl (⟨p0.X,p0.Y,(⟨p0.Z.Lo,p0.Z.Hi⟩:Aq)⟩:Ab)) fun r2 =>
 bnd (Gn r2) fun r5 =>
 if r5=true then (if (-268435456)≤p0.Z.Lo then (if p0.Z.Lo≤p0.Z.Hi then (j2 (decide (p0.Z.Hi≤268435456)))
 else (j2 false))
 else (j2 false))
 else (j2 false))
noncomputable def Lq (p0:Ac) (p1:Ac) (p2:Ac):Option Int :=
 some (w64 ((w64 ((w64 (p1.X-p0.X))*(w64 (p2.Y-p0.Y))))-(w64 ((w64 (p1.Y-p0.Y))*(w64 (p2.X-p0.X))))))
noncomputable def Ko (p0:Int):Option Int :=
 if p0 < 0 then (some (-1))
 else (if 0 < p0 then (some 1)
 else (some 0))
noncomputable def Fa (p0:Ac) (p1:Ac) (p2:Ac):Option Int :=
 bnd (Lq p0 p1 p2) fun r4 =>
 bnd (Ko r4) fun r7 =>
 some r7
structure Qu where
 high:Int
 middle:Int
 low:Int
set_option maxHeartbeats 1000000 in
set_option maxRecDepth 100000 in
instance slices_Equal____3_int__3_int__c (p0:List Aj) (p1:List Aj):Con (Cz p0 p1) Tryz.prog 70 (fun K vs=>∃ (A0_0:Option Addr) (c0_0:Nat) (A0_1:Option Addr) (c0_1:Nat),vs=[.slice (A0_0) ((p0).length) (c0_0),.slice (A0_1) ((p1).length) (c0_1)]∧Has K A0_0 (p0).length c0_0 3 Ak (p0)∧Has K A0_1 (p1).length c0_1 3 Ak (p1)∧True) (fun _ r=>fun v Ln=>v = .bool (r)∧Ln=[]∧True):=⟨by
 rintro K _ r ⟨A0_0,c0_0,A0_1,c0_1,rfl,ha0,ha1,-⟩ hx w hK;replace ha0:=Has.lo ha0 hK;replace ha1:=Has.lo ha1 hK;unfold Cz at hx;have:=dl 6 [0,0,0,1,0,0,0,1,0] [0,1,2,3,4,5,6,7,8];refine CtS Tryz.ntmps70 Tryz.results70 ?_;refine pre ?_;intros;rename_i hx
 refine Cq2 (s:=10) hx rfl (fun _ hx=>?_) (fun _ hx=>?_)
 ·exact au
 ·refine pre ?_;intros;rename_i hx
  apply Jr (γ:=Unit) hx [] (fun s5 y5 f=>f) [999] (fun s5 y5 l=>l);exact kk
  ·intro s5 y5 hx;exact au
  ·intro _ hx;refine pre ?_;intros;rename_i hx
   apply Lr (γ:=Unit) hx [0,1,12] (fun s33 y33 f=>(13,.int .i64 (s33))::f) [999] (fun s33 y33 l=>l) ();exact kk;exact sk;intro s33 y33 x33 hx _;unfold Cc at hx
   exact au⟩
set_option maxHeartbeats 1000000 in
set_option maxRecDepth 100000 in
instance slices_Equal____2_int__2_int__c (p0:List Aa) (p1:List Aa):Con (Da p0 p1) Tryz.prog 71 (fun K vs=>∃ (A0_0:Option Addr) (c0_0:Nat) (A0_1:Option Addr) (c0_1:Nat),vs=[.slice (A0_0) ((p0).length) (c0_0),.slice (A0_1) ((p1).length) (c0_1)]∧Has K A0_0 (p0).length c0_0 2 Af (p0)∧Has K A0_1 (p1).length c0_1 2 Af (p1)∧True) (fun _ r=>fun v Ln=>v = .bool (r)∧Ln=[]∧True):=⟨by
 rintro K _ r ⟨A0_0,c0_0,A0_1,c0_1,rfl,ha0,ha1,-⟩ hx w hK;replace ha0:=Has.lo ha0 hK;replace ha1:=Has.lo ha1 hK;unfold Da at hx;have:=dl 6 [0,0,0,1,0,0,0,1,0] [0,1,2,3,4,5,6,7,8];refine CtS Tryz.ntmps71 Tryz.results71 ?_;refine pre ?_;intros;rename_i hx
 refine Cq2 (s:=10) hx rfl (fun _ hx=>?_) (fun _ hx=>?_)
 ·exact au
 ·refine pre ?_;intros;rename_i hx
  apply Jr (γ:=Unit) hx [] (fun s5 y5 f=>f) [999] (fun s5 y5 l=>l);exact kk
  ·intro s5 y5 hx;exact au
  ·intro _ hx;refine pre ?_;intros;rename_i hx
   apply Lr (γ:=Unit) hx [0,1,12] (fun s33 y33 f=>(13,.int .i64 (s33))::f) [999] (fun s33 y33 l=>l) ();exact kk;exact sk;intro s33 y33 x33 hx _;unfold Cd at hx
   exact au⟩
set_option maxHeartbeats 1000000 in
set_option maxRecDepth 100000 in
instance Aea (p0:Ax):Con (Ld p0) Tryz.prog 27 (fun K vs=>∃ (A0_0:Option Addr) (c0_0:Nat) (A0_1:Option Addr) (c0_1:Nat) (A0_2:Option Addr) (c0_2:Nat),vs=[.agg #[.slice (A0_0) ((p0.V).length) (c0_0),.slice (A0_1) ((p0.T).length) (c0_1),.slice (A0_2) ((p0.Lines).length) (c0_2)]]∧Has K A0_0 (p0.V).length c0_0 4 Ad (p0.V)∧Has K A0_1 (p0.T).length c0_1 3 Ak (p0.T)∧Has K A0_2 (p0.Lines).length c0_2 2 Af (p0.Lines)∧True) (fun _ r=>fun v Ln=>v = .int .i64 (r)∧Ln=[]∧True):=⟨by
 rintro K _ r ⟨A0_0,c0_0,A0_1,c0_1,A0_2,c0_2,rfl,ha0,ha1,ha2,-⟩ hx w hK;replace ha0:=Has.lo ha0 hK;replace ha1:=Has.lo ha1 hK;replace ha2:=Has.lo ha2 hK;unfold Ld at hx;refine CtS Tryz.ntmps27 Tryz.results27 ?_;refine pre ?_;intros;rename_i hx
 refine Ob ?_;refine pre ?_;intros;rename_i hx
 apply Jr (γ:=Unit) hx [] (fun s4 y4 f=>(30,.bool (s4))::f) [999] (fun s4 y4 l=>l);exact kk
 ·intro s4 y4 hx;exact au
 ·intro _ hx;exact au⟩
theorem Vy (p0:Ax) {K:List Ent} {A0_0:Option Addr} {c0_0:Nat} {A0_1:Option Addr} {c0_1:Nat} {A0_2:Option Addr} {c0_2:Nat} (ha0:Has K A0_0 (p0.V).length c0_0 4 Ad (p0.V)) (ha1:Has K A0_1 (p0.T).length c0_1 3 Ak (p0.T)) (ha2:Has K A0_2 (p0.Lines).length c0_2 2 Af (p0.Lines)) {r:Int} (hx:Ld p0=some r) (w:World) (hK:∀ e∈K,Ent.ok w e):CtL Tryz.prog 27 [.agg #[.slice (A0_0) ((p0.V).length) (c0_0),.slice (A0_1) ((p0.T).length) (c0_1),.slice (A0_2) ((p0.Lines).length) (c0_2)]] w fun v Ln=>v = .int .i64 (r)∧Ln=[]∧True:=(Aea p0).h K _ _ ⟨_,_,_,_,_,_,rfl,ha0,ha1,ha2,trivial⟩ hx w hK
set_option maxRecDepth 100000 in
instance Wl (p0:Ab):Con (Cl p0) Tryz.prog 14 (fun _ vs=>vs=[.agg #[.int .i64 (p0.X),.int .i64 (p0.Y),.int .i64 (p0.Z.Lo),.int .i64 (p0.Z.Hi)]]) (fun _ r=>fun v Ln=>v = .agg #[.int .i64 (r.X),.int .i64 (r.Y)]∧Ln=[]∧True):=⟨by
 rintro _ _ r rfl hx w hK;unfold Cl at hx;refine CtS Tryz.ntmps14 Tryz.results14 ?_;exact au⟩
theorem Hh (p0:Ab)  {r:Ac} (hx:Cl p0=some r) (w:World):CtL Tryz.prog 14 [.agg #[.int .i64 (p0.X),.int .i64 (p0.Y),.int .i64 (p0.Z.Lo),.int .i64 (p0.Z.Hi)]] w fun v Ln=>v = .agg #[.int .i64 (r.X),.int .i64 (r.Y)]∧Ln=[]∧True:=(Wl p0).h [] _ _ rfl hx w (fun _ h=>absurd h List.not_mem_nil)
set_option maxRecDepth 100000 in
instance lidarref06_ValidPlace_c (p0:Ac):Con (Gn p0) Tryz.prog 100 (fun _ vs=>vs=[.agg #[.int .i64 (p0.X),.int .i64 (p0.Y)]]) (fun _ r=>fun v Ln=>v = .bool (r)∧Ln=[]∧True):=⟨by
 rintro _ _ r rfl hx w hK;unfold Gn at hx;refine CtS Tryz.ntmps100 Tryz.results100 ?_;exact au⟩
set_option maxHeartbeats 1000000 in
set_option maxRecDepth 100000 in
instance lidarref06_validVertex_c (p0:Ab):Con (Fv p0) Tryz.prog 107 (fun _ vs=>vs=[.agg #[.int .i64 (p0.X),.int .i64 (p0.Y),.int .i64 (p0.Z.Lo),.int .i64 (p0.Z.Hi)]]) (fun _ r=>fun v Ln=>v = .bool (r)∧Ln=[]∧True):=⟨by
 rintro _ _ r rfl hx w hK;unfold Fv at hx;refine CtS Tryz.ntmps107 Tryz.results107 ?_;exact au⟩
set_option maxRecDepth 100000 in
instance lidarref06_Twice_c (p0:Ac) (p1:Ac) (p2:Ac):Con (Lq p0 p1 p2) Tryz.prog 15 (fun _ vs=>vs=[.agg #[.int .i64 (p0.X),.int .i64 (p0.Y)],.agg #[.int .i64 (p1.X),.int .i64 (p1.Y)],.agg #[.int .i64 (p2.X),.int .i64 (p2.Y)]]) (fun _ r=>fun v Ln=>v = .int .i64 (r)∧Ln=[]∧True):=⟨by
 rintro _ _ r rfl hx w hK;unfold Lq at hx;refine CtS Tryz.ntmps15 Tryz.results15 ?_;exact au⟩
set_option maxRecDepth 100000 in
instance lidarref06_sign_c (p0:Int):Con (Ko p0) Tryz.prog 127 (fun _ vs=>vs=[.int .i64 (p0)]) (fun _ r=>fun v Ln=>v = .int .i64 (r)∧Ln=[]∧True):=⟨by
 rintro _ _ r rfl hx w hK;unfold Ko at hx;refine CtS Tryz.ntmps127 Tryz.results127 ?_;exact au⟩
set_option maxRecDepth 100000 in
instance lidarref06_Turn_c (p0:Ac) (p1:Ac) (p2:Ac):Con (Fa p0 p1 p2) Tryz.prog 62 (fun _ vs=>vs=[.agg #[.int .i64 (p0.X),.int .i64 (p0.Y)],.agg #[.int .i64 (p1.X),.int .i64 (p1.Y)],.agg #[.int .i64 (p2.X),.int .i64 (p2.Y)]]) (fun _ r=>fun v Ln=>v = .int .i64 (r)∧Ln=[]∧True):=⟨by
 rintro _ _ r rfl hx w hK;unfold Fa at hx;refine CtS Tryz.ntmps62 Tryz.results62 ?_;exact au⟩
end Go.Proofs.YtgfiafnelibjgaaGreat
