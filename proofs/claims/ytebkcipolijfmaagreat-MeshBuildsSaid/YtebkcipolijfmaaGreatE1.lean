/- Walks of the program, with their plain functions: the references on places. -/
import Derived.Test.YtebkcipolijfmaaGreatD5
namespace Go.Proofs.YtebkcipolijfmaaGreat
open Go Go.RowKit
theorem Adz:Kq Tryz.prog 30 35 3:=.mk Tryz.underlying30 (show Tryz.prog.info? 35=some Tryz.t35 from by kernel_rfl) (by kernel_rfl)
instance:Ng Tryz.prog 30 35 3:=⟨Adz⟩
theorem Zv:Oa Tryz.prog 35 3:=.arr Tryz.underlying35 (show Tryz.prog.info? 35=some Tryz.t35 from by kernel_rfl) (by kernel_rfl)
instance:AggI Tryz.prog 35 3:=⟨Zv⟩
theorem Aup (a0:Int) (a1:Int) (a2:Int) (b0:Int) (b1:Int) (b2:Int):∀ w,(Op.equalIn 10000 35 (.agg #[.int .i64 (a0),.int .i64 (a1),.int .i64 (a2)]) (.agg #[.int .i64 (b0),.int .i64 (b1),.int .i64 (b2)])).run Tryz.prog w = .ok ((((a0) == (b0)) && (((a1) == (b1)) && (((a2) == (b2)) && true)))) w :=
 EqI.array (c:=1) Tryz.underlying35 (show Tryz.prog.info? 3=some Tryz.t3 from by kernel_rfl) (by kernel_rfl) (.cons (fun w=>by kernel_rfl) (fun w=>by kernel_rfl) (fun w=>run_equalIn_int w 9998 3 .i64 .i64 _ _ Tryz.underlying3) (.cons (fun w=>by kernel_rfl) (fun w=>by kernel_rfl) (fun w=>run_equalIn_int w 9998 3 .i64 .i64 _ _ Tryz.underlying3) (.cons (fun w=>by kernel_rfl) (fun w=>by kernel_rfl) (fun w=>run_equalIn_int w 9998 3 .i64 .i64 _ _ Tryz.underlying3) (EqI.nil))))
instance (a0:Int) (a1:Int) (a2:Int) (b0:Int) (b1:Int) (b2:Int):EqSI Tryz.prog 35 [.int .i64 (a0),.int .i64 (a1),.int .i64 (a2)] [.int .i64 (b0),.int .i64 (b1),.int .i64 (b2)] ((((a0) == (b0)) && (((a1) == (b1)) && (((a2) == (b2)) && true)))):=⟨Aup _ _ _ _ _ _,by kernel_rfl⟩
theorem Ar8 (a0:Int) (a1:Int) (b0:Int) (b1:Int):∀ w,(Op.equalIn 10000 48 (.agg #[.int .i64 (a0),.int .i64 (a1)]) (.agg #[.int .i64 (b0),.int .i64 (b1)])).run Tryz.prog w = .ok ((((a0) == (b0)) && (((a1) == (b1)) && true))) w :=
 EqI.array (c:=1) Tryz.underlying48 (show Tryz.prog.info? 3=some Tryz.t3 from by kernel_rfl) (by kernel_rfl) (.cons (fun w=>by kernel_rfl) (fun w=>by kernel_rfl) (fun w=>run_equalIn_int w 9998 3 .i64 .i64 _ _ Tryz.underlying3) (.cons (fun w=>by kernel_rfl) (fun w=>by kernel_rfl) (fun w=>run_equalIn_int w 9998 3 .i64 .i64 _ _ Tryz.underlying3) (EqI.nil)))
instance (a0:Int) (a1:Int) (b0:Int) (b1:Int):EqSI Tryz.prog 48 [.int .i64 (a0),.int .i64 (a1)] [.int .i64 (b0),.int .i64 (b1)] ((((a0) == (b0)) && (((a1) == (b1)) && true))):=⟨Ar8 _ _ _ _,by kernel_rfl⟩
theorem Arl:Fh Tryz.prog 32 0 0:=.mk Tryz.underlying32 rfl rfl (show Tryz.prog.info? 22=some Tryz.t22 from by kernel_rfl) (show Tryz.t22.size=1 from by kernel_rfl) rfl
instance:Jo Tryz.prog 32 0 0:=⟨Arl⟩
theorem Arm:Fh Tryz.prog 32 2 2:=.mk Tryz.underlying32 rfl rfl (show Tryz.prog.info? 23=some Tryz.t23 from by kernel_rfl) (show Tryz.t23.size=1 from by kernel_rfl) rfl
instance:Jo Tryz.prog 32 2 2:=⟨Arm⟩
theorem Auq:Pf Tryz.prog 23:=.mk Tryz.underlying23 rfl (show Tryz.prog.info? 23=some Tryz.t23 from by kernel_rfl) (by kernel_rfl)
instance:OneI Tryz.prog 23:=⟨Auq⟩
theorem Arn:Fh Tryz.prog 32 1 1:=.mk Tryz.underlying32 rfl rfl (show Tryz.prog.info? 30=some Tryz.t30 from by kernel_rfl) (show Tryz.t30.size=1 from by kernel_rfl) rfl
instance:Jo Tryz.prog 32 1 1:=⟨Arn⟩
theorem Aur:Pf Tryz.prog 30:=.mk Tryz.underlying30 rfl (show Tryz.prog.info? 30=some Tryz.t30 from by kernel_rfl) (by kernel_rfl)
instance:OneI Tryz.prog 30:=⟨Aur⟩
theorem Atv:Nv Tryz.prog 127 [.int .i64 (0),.int .i64 (0),.int .i64 (0)]:=⟨_,Tryz.zeroValue127,rfl⟩
instance:Xq Tryz.prog 127 [.int .i64 (0),.int .i64 (0),.int .i64 (0)]:=⟨Atv⟩
theorem Apg:Fh Tryz.prog 127 0 0:=.mk Tryz.underlying127 rfl rfl (show Tryz.prog.info? 3=some Tryz.t3 from by kernel_rfl) (show Tryz.t3.size=1 from by kernel_rfl) rfl
instance:Jo Tryz.prog 127 0 0:=⟨Apg⟩
theorem Aph:Fh Tryz.prog 127 1 1:=.mk Tryz.underlying127 rfl rfl (show Tryz.prog.info? 3=some Tryz.t3 from by kernel_rfl) (show Tryz.t3.size=1 from by kernel_rfl) rfl
instance:Jo Tryz.prog 127 1 1:=⟨Aph⟩
theorem Api:Fh Tryz.prog 127 2 2:=.mk Tryz.underlying127 rfl rfl (show Tryz.prog.info? 3=some Tryz.t3 from by kernel_rfl) (show Tryz.t3.size=1 from by kernel_rfl) rfl
instance:Jo Tryz.prog 127 2 2:=⟨Api⟩
theorem Xd (x0:Int) (x1:Int) (x2:Int):Le Tryz.prog 127 [(0,.int .i64 x0),(1,.int .i64 x1),(2,.int .i64 x2)] [.int .i64 x0,.int .i64 x1,.int .i64 x2]:=fun w=>by kernel_rfl
instance (x0:Int) (x1:Int) (x2:Int):Oz Tryz.prog 127 [(0,.int .i64 x0),(1,.int .i64 x1),(2,.int .i64 x2)] [.int .i64 x0,.int .i64 x1,.int .i64 x2]:=⟨Xd _ _ _⟩
theorem Atw:Oa Tryz.prog 127 3:=.mk Tryz.underlying127 rfl (show Tryz.prog.info? 127=some Tryz.t127 from by kernel_rfl) (by kernel_rfl)
instance:AggI Tryz.prog 127 3:=⟨Atw⟩
instance:UndI Tryz.prog 30 (.slice 35):=⟨Tryz.underlying30⟩
noncomputable def Cg (p0:List Ah) (p1:List Ah):Int→Option (Sum Int (Sum Unit Bool)):=fun s0 =>
 if s0 < ((((p0).length:Nat):Int)) then (bnd (idx p0 s0) fun x0 =>
 bnd (idx p1 s0) fun x1 =>
 if ((((x0.a0) == (x1.a0)) && (((x0.a1) == (x1.a1)) && (((x0.a2) == (x1.a2)) && true))))=true then (some (.inl (w64 (s0+1))))
 else (some (.inr (.inr (false)))))
 else (some (.inr (.inl ())))
noncomputable def Dj (p0:List Ah) (p1:List Ah):Option Bool :=
 if ((((p0).length:Nat):Int))=((((p1).length:Nat):Int)) then (jn (fun (s5:Unit) =>
 some true)
 (fun j5=>bnd (lfix (Cg p0 p1) 0) fun t0 =>
 (match t0 with
 | (.inl z0)=>j5 z0
 | (.inr (z0))=>some z0
 )))
 else (some false)
noncomputable def Ch (p0:List Aa) (p1:List Aa):Int→Option (Sum Int (Sum Unit Bool)):=fun s0 =>
 if s0 < ((((p0).length:Nat):Int)) then (bnd (idx p0 s0) fun x0 =>
 bnd (idx p1 s0) fun x1 =>
 if ((((x0.a0) == (x1.a0)) && (((x0.a1) == (x1.a1)) && true)))=true then (some (.inl (w64 (s0+1))))
 else (some (.inr (.inr (false)))))
 else (some (.inr (.inl ())))
noncomputable def Dk (p0:List Aa) (p1:List Aa):Option Bool :=
 if ((((p0).length:Nat):Int))=((((p1).length:Nat):Int)) then (jn (fun (s5:Unit) =>
 some true)
 (fun j5=>bnd (lfix (Ch p0 p1) 0) fun t0 =>
 (match t0 with
 | (.inl z0)=>j5 z0
 | (.inr (z0))=>some z0
 )))
 else (some false)
noncomputable def Rn (p0:Cx):Option Int :=
 bnd (Ew p0.V p0.Lines) fun r2 =>
 jn (fun (s4:Bool) =>
 if s4=true then (some 64)
 else (some 0))
 (fun j4=>if r2.2=0 then (bnd (Dj r2.1.T p0.T) fun r0 =>
 if r0=true then (bnd (Dk r2.1.Lines p0.Lines) fun r1 =>
 j4 (!(r1)))
 else (j4 true))
 else (j4 true))
noncomputable def Am (p0:Ab):Option Ac :=
 some (⟨p0.X,p0.Y⟩:Ac)
noncomputable def Gs (p0:Ac):Option Bool :=
 jn (fun (s2:Bool) =>
 some s2)
 (fun j2=>if (-268435456)≤p0.X then (if p0.X≤268435456 then (if (-268435456)≤p0.Y then (j2 (decide (p0.Y≤268435456)))
 else (j2 false))
 else (j2 false))
 else (j2 false))
noncomputable def Gb (p0:Ab):Option Bool :=
 jn (fun (s2:Bool) =>
 some s2)
 (fun j2=>bnd (Am (⟨p0.X,p0.Y,(⟨p0.Z.Lo,p0.Z.Hi⟩:Ak)⟩:Ab)) fun r2 =>
 bnd (Gs r2) fun r5 =>
 if r5=true then (if (-268435456)≤p0.Z.Lo then (if p0.Z.Lo≤p0.Z.Hi then (j2 (decide (p0.Z.Hi≤268435456)))
 else (j2 false))
 else (j2 false))
 else (j2 false))
noncomputable def Gc (p0:Ac) (p1:Ac):Option Bool :=
 jn (fun (s2:Bool) =>
 some s2)
 (fun j2=>if p0.X < p1.X then (j2 true)
 else (if p0.X=p1.X then (j2 (decide (p0.Y < p1.Y)))
 else (j2 false)))
noncomputable def Na (p0:Ac) (p1:Ac) (p2:Ac):Option Int :=
 some (w64 ((w64 ((w64 (p1.X-p0.X))*(w64 (p2.Y-p0.Y))))-(w64 ((w64 (p1.Y-p0.Y))*(w64 (p2.X-p0.X))))))
noncomputable def Hy (p0:Int):Option Int :=
 if p0 < 0 then (some (-1))
 else (if 0 < p0 then (some 1)
 else (some 0))
noncomputable def Cl (p0:Ac) (p1:Ac) (p2:Ac):Option Int :=
 bnd (Na p0 p1 p2) fun r4 =>
 bnd (Hy r4) fun r7 =>
 some r7
structure Cv where
 high:Int
 middle:Int
 low:Int
noncomputable def Ex (p0:Cv) (p1:Int) (p2:Int):Option Cv :=
 some (⟨w64 (p0.high+(w64 ((shr_ .i64 p1 30)*(shr_ .i64 p2 30)))),w64 ((w64 (p0.middle+(w64 ((shr_ .i64 p1 30)*(Nq .i64 p2 1073741823)))))+(w64 ((Nq .i64 p1 1073741823)*(shr_ .i64 p2 30)))),w64 (p0.low+(w64 ((Nq .i64 p1 1073741823)*(Nq .i64 p2 1073741823))))⟩:Cv)
noncomputable def Hn (p0:Cv):Option Int :=
 if (w64 (p0.high+(shr_ .i64 (w64 (p0.middle+(shr_ .i64 p0.low 30))) 30)))=0 then (bnd (Hy (w64 ((Nq .i64 (w64 (p0.middle+(shr_ .i64 p0.low 30))) 1073741823)+(Nq .i64 p0.low 1073741823)))) fun r8 =>
 some r8)
 else (bnd (Hy (w64 (p0.high+(shr_ .i64 (w64 (p0.middle+(shr_ .i64 p0.low 30))) 30)))) fun r4 =>
 some r4)
noncomputable def Hr (p0:Ac) (p1:Ac) (p2:Ac) (p3:Ac):Option Int :=
 bnd (Ex (⟨0,0,0⟩:Cv) (w64 ((w64 ((w64 (p0.X-p3.X))*(w64 (p0.X-p3.X))))+(w64 ((w64 (p0.Y-p3.Y))*(w64 (p0.Y-p3.Y)))))) (w64 ((w64 ((w64 (p1.X-p3.X))*(w64 (p2.Y-p3.Y))))-(w64 ((w64 (p1.Y-p3.Y))*(w64 (p2.X-p3.X))))))) fun r6 =>
 bnd (Ex r6 (w64 ((w64 ((w64 (p1.X-p3.X))*(w64 (p1.X-p3.X))))+(w64 ((w64 (p1.Y-p3.Y))*(w64 (p1.Y-p3.Y)))))) (w64 ((w64 ((w64 (p2.X-p3.X))*(w64 (p0.Y-p3.Y))))-(w64 ((w64 (p2.Y-p3.Y))*(w64 (p0.X-p3.X))))))) fun r9 =>
 bnd (Ex r9 (w64 ((w64 ((w64 (p2.X-p3.X))*(w64 (p2.X-p3.X))))+(w64 ((w64 (p2.Y-p3.Y))*(w64 (p2.Y-p3.Y)))))) (w64 ((w64 ((w64 (p0.X-p3.X))*(w64 (p1.Y-p3.Y))))-(w64 ((w64 (p0.Y-p3.Y))*(w64 (p1.X-p3.X))))))) fun r0 =>
 bnd (Hn r0) fun r1 =>
 some r1
set_option maxHeartbeats 1000000 in
set_option maxRecDepth 100000 in
instance slices_Equal____3_int__3_int__c (p0:List Ah) (p1:List Ah):Con (Dj p0 p1) Tryz.prog 72 (fun K vs=>∃ (A0_0:Option Addr) (c0_0:Nat) (A0_1:Option Addr) (c0_1:Nat),vs=[.slice (A0_0) ((p0).length) (c0_0),.slice (A0_1) ((p1).length) (c0_1)]∧Has K A0_0 (p0).length c0_0 3 Ay (p0)∧Has K A0_1 (p1).length c0_1 3 Ay (p1)∧True) (fun _ r=>fun v Ln=>v = .bool (r)∧Ln=[]∧True):=⟨by
 rintro K _ r ⟨A0_0,c0_0,A0_1,c0_1,rfl,ha0,ha1,-⟩ hx w hK;replace ha0:=Has.lo ha0 hK;replace ha1:=Has.lo ha1 hK;unfold Dj at hx;have:=dl 6 [0,0,0,1,0,0,0,1,0] [0,1,2,3,4,5,6,7,8];refine CtS Tryz.ntmps72 Tryz.results72 ?_;refine pre ?_;intros;rename_i hx
 refine Cq2 (s:=10) hx rfl (fun _ hx=>?_) (fun _ hx=>?_)
 ·exact au
 ·refine pre ?_;intros;rename_i hx
  apply Jr (γ:=Unit) hx [] (fun s5 y5 f=>f) [999] (fun s5 y5 l=>l);exact kk
  ·intro s5 y5 hx;exact au
  ·intro _ hx;refine pre ?_;intros;rename_i hx
   apply Lr (γ:=Unit) hx [0,1,12] (fun s33 y33 f=>(13,.int .i64 (s33))::f) [999] (fun s33 y33 l=>l) ();exact kk;exact sk;intro s33 y33 x33 hx _;unfold Cg at hx
   exact au⟩
set_option maxHeartbeats 1000000 in
set_option maxRecDepth 100000 in
instance slices_Equal____2_int__2_int__c (p0:List Aa) (p1:List Aa):Con (Dk p0 p1) Tryz.prog 73 (fun K vs=>∃ (A0_0:Option Addr) (c0_0:Nat) (A0_1:Option Addr) (c0_1:Nat),vs=[.slice (A0_0) ((p0).length) (c0_0),.slice (A0_1) ((p1).length) (c0_1)]∧Has K A0_0 (p0).length c0_0 2 Ai (p0)∧Has K A0_1 (p1).length c0_1 2 Ai (p1)∧True) (fun _ r=>fun v Ln=>v = .bool (r)∧Ln=[]∧True):=⟨by
 rintro K _ r ⟨A0_0,c0_0,A0_1,c0_1,rfl,ha0,ha1,-⟩ hx w hK;replace ha0:=Has.lo ha0 hK;replace ha1:=Has.lo ha1 hK;unfold Dk at hx;have:=dl 6 [0,0,0,1,0,0,0,1,0] [0,1,2,3,4,5,6,7,8];refine CtS Tryz.ntmps73 Tryz.results73 ?_;refine pre ?_;intros;rename_i hx
 refine Cq2 (s:=10) hx rfl (fun _ hx=>?_) (fun _ hx=>?_)
 ·exact au
 ·refine pre ?_;intros;rename_i hx
  apply Jr (γ:=Unit) hx [] (fun s5 y5 f=>f) [999] (fun s5 y5 l=>l);exact kk
  ·intro s5 y5 hx;exact au
  ·intro _ hx;refine pre ?_;intros;rename_i hx
   apply Lr (γ:=Unit) hx [0,1,12] (fun s33 y33 f=>(13,.int .i64 (s33))::f) [999] (fun s33 y33 l=>l) ();exact kk;exact sk;intro s33 y33 x33 hx _;unfold Ch at hx
   exact au⟩
set_option maxHeartbeats 1000000 in
set_option maxRecDepth 100000 in
instance mesh_Check_c (p0:Cx):Con (Rn p0) Tryz.prog 22 (fun K vs=>∃ (A0_0:Option Addr) (c0_0:Nat) (A0_1:Option Addr) (c0_1:Nat) (A0_2:Option Addr) (c0_2:Nat),vs=[.agg #[.slice (A0_0) ((p0.V).length) (c0_0),.slice (A0_1) ((p0.T).length) (c0_1),.slice (A0_2) ((p0.Lines).length) (c0_2)]]∧Has K A0_0 (p0.V).length c0_0 4 Aj (p0.V)∧Has K A0_1 (p0.T).length c0_1 3 Ay (p0.T)∧Has K A0_2 (p0.Lines).length c0_2 2 Ai (p0.Lines)∧True) (fun _ r=>fun v Ln=>v = .int .i64 (r)∧Ln=[]∧True):=⟨by
 rintro K _ r ⟨A0_0,c0_0,A0_1,c0_1,A0_2,c0_2,rfl,ha0,ha1,ha2,-⟩ hx w hK;replace ha0:=Has.lo ha0 hK;replace ha1:=Has.lo ha1 hK;replace ha2:=Has.lo ha2 hK;unfold Rn at hx;refine CtS Tryz.ntmps22 Tryz.results22 ?_;refine pre ?_;intros;rename_i hx
 refine Lc ?_;refine pre ?_;intros;rename_i hx
 apply Jr (γ:=Unit) hx [] (fun s4 y4 f=>(30,.bool (s4))::f) [999] (fun s4 y4 l=>l);exact kk
 ·intro s4 y4 hx;exact au
 ·intro _ hx;exact au⟩
set_option maxRecDepth 100000 in
instance Yj (p0:Ab):Con (Am p0) Tryz.prog 14 (fun _ vs=>vs=[.agg #[.int .i64 (p0.X),.int .i64 (p0.Y),.int .i64 (p0.Z.Lo),.int .i64 (p0.Z.Hi)]]) (fun _ r=>fun v Ln=>v = .agg #[.int .i64 (r.X),.int .i64 (r.Y)]∧Ln=[]∧True):=⟨by
 rintro _ _ r rfl hx w hK;unfold Am at hx;refine CtS Tryz.ntmps14 Tryz.results14 ?_;exact au⟩
theorem Bd (p0:Ab)  {r:Ac} (hx:Am p0=some r) (w:World):CtL Tryz.prog 14 [.agg #[.int .i64 (p0.X),.int .i64 (p0.Y),.int .i64 (p0.Z.Lo),.int .i64 (p0.Z.Hi)]] w fun v Ln=>v = .agg #[.int .i64 (r.X),.int .i64 (r.Y)]∧Ln=[]∧True:=(Yj p0).h [] _ _ rfl hx w (fun _ h=>absurd h List.not_mem_nil)
set_option maxRecDepth 100000 in
instance lidarref06_ValidPlace_c (p0:Ac):Con (Gs p0) Tryz.prog 31 (fun _ vs=>vs=[.agg #[.int .i64 (p0.X),.int .i64 (p0.Y)]]) (fun _ r=>fun v Ln=>v = .bool (r)∧Ln=[]∧True):=⟨by
 rintro _ _ r rfl hx w hK;unfold Gs at hx;refine CtS Tryz.ntmps31 Tryz.results31 ?_;exact au⟩
set_option maxHeartbeats 1000000 in
set_option maxRecDepth 100000 in
instance lidarref06_validVertex_c (p0:Ab):Con (Gb p0) Tryz.prog 116 (fun _ vs=>vs=[.agg #[.int .i64 (p0.X),.int .i64 (p0.Y),.int .i64 (p0.Z.Lo),.int .i64 (p0.Z.Hi)]]) (fun _ r=>fun v Ln=>v = .bool (r)∧Ln=[]∧True):=⟨by
 rintro _ _ r rfl hx w hK;unfold Gb at hx;refine CtS Tryz.ntmps116 Tryz.results116 ?_;exact au⟩
set_option maxRecDepth 100000 in
instance Xe (p0:Ac) (p1:Ac):Con (Gc p0 p1) Tryz.prog 139 (fun _ vs=>vs=[.agg #[.int .i64 (p0.X),.int .i64 (p0.Y)],.agg #[.int .i64 (p1.X),.int .i64 (p1.Y)]]) (fun _ r=>fun v Ln=>v = .bool (r)∧Ln=[]∧True):=⟨by
 rintro _ _ r rfl hx w hK;unfold Gc at hx;refine CtS Tryz.ntmps139 Tryz.results139 ?_;exact au⟩
theorem Vt (p0:Ac) (p1:Ac)  {r:Bool} (hx:Gc p0 p1=some r) (w:World):CtL Tryz.prog 139 [.agg #[.int .i64 (p0.X),.int .i64 (p0.Y)],.agg #[.int .i64 (p1.X),.int .i64 (p1.Y)]] w fun v Ln=>v = .bool (r)∧Ln=[]∧True:=(Xe p0 p1).h [] _ _ rfl hx w (fun _ h=>absurd h List.not_mem_nil)
set_option maxRecDepth 100000 in
instance lidarref06_Twice_c (p0:Ac) (p1:Ac) (p2:Ac):Con (Na p0 p1 p2) Tryz.prog 15 (fun _ vs=>vs=[.agg #[.int .i64 (p0.X),.int .i64 (p0.Y)],.agg #[.int .i64 (p1.X),.int .i64 (p1.Y)],.agg #[.int .i64 (p2.X),.int .i64 (p2.Y)]]) (fun _ r=>fun v Ln=>v = .int .i64 (r)∧Ln=[]∧True):=⟨by
 rintro _ _ r rfl hx w hK;unfold Na at hx;refine CtS Tryz.ntmps15 Tryz.results15 ?_;exact au⟩
set_option maxRecDepth 100000 in
instance lidarref06_sign_c (p0:Int):Con (Hy p0) Tryz.prog 138 (fun _ vs=>vs=[.int .i64 (p0)]) (fun _ r=>fun v Ln=>v = .int .i64 (r)∧Ln=[]∧True):=⟨by
 rintro _ _ r rfl hx w hK;unfold Hy at hx;refine CtS Tryz.ntmps138 Tryz.results138 ?_;exact au⟩
set_option maxRecDepth 100000 in
instance Zw (p0:Ac) (p1:Ac) (p2:Ac):Con (Cl p0 p1 p2) Tryz.prog 65 (fun _ vs=>vs=[.agg #[.int .i64 (p0.X),.int .i64 (p0.Y)],.agg #[.int .i64 (p1.X),.int .i64 (p1.Y)],.agg #[.int .i64 (p2.X),.int .i64 (p2.Y)]]) (fun _ r=>fun v Ln=>v = .int .i64 (r)∧Ln=[]∧True):=⟨by
 rintro _ _ r rfl hx w hK;unfold Cl at hx;refine CtS Tryz.ntmps65 Tryz.results65 ?_;exact au⟩
theorem Rq (p0:Ac) (p1:Ac) (p2:Ac)  {r:Int} (hx:Cl p0 p1 p2=some r) (w:World):CtL Tryz.prog 65 [.agg #[.int .i64 (p0.X),.int .i64 (p0.Y)],.agg #[.int .i64 (p1.X),.int .i64 (p1.Y)],.agg #[.int .i64 (p2.X),.int .i64 (p2.Y)]] w fun v Ln=>v = .int .i64 (r)∧Ln=[]∧True:=(Zw p0 p1 p2).h [] _ _ rfl hx w (fun _ h=>absurd h List.not_mem_nil)
set_option maxRecDepth 100000 in
instance lidarref06_wide_add_c (p0:Cv) (p1:Int) (p2:Int):Con (Ex p0 p1 p2) Tryz.prog 66 (fun _ vs=>vs=[.agg #[.int .i64 (p0.high),.int .i64 (p0.middle),.int .i64 (p0.low)],.int .i64 (p1),.int .i64 (p2)]) (fun _ r=>fun v Ln=>v = .agg #[.int .i64 (r.high),.int .i64 (r.middle),.int .i64 (r.low)]∧Ln=[]∧True):=⟨by
 rintro _ _ r rfl hx w hK;unfold Ex at hx;refine CtS Tryz.ntmps66 Tryz.results66 ?_;exact au⟩
set_option maxHeartbeats 1000000 in
set_option maxRecDepth 100000 in
instance lidarref06_wide_sign_c (p0:Cv):Con (Hn p0) Tryz.prog 67 (fun _ vs=>vs=[.agg #[.int .i64 (p0.high),.int .i64 (p0.middle),.int .i64 (p0.low)]]) (fun _ r=>fun v Ln=>v = .int .i64 (r)∧Ln=[]∧True):=⟨by
 rintro _ _ r rfl hx w hK;unfold Hn at hx;refine CtS Tryz.ntmps67 Tryz.results67 ?_;exact au⟩
set_option maxHeartbeats 1000000 in
set_option maxRecDepth 100000 in
instance Xf (p0:Ac) (p1:Ac) (p2:Ac) (p3:Ac):Con (Hr p0 p1 p2 p3) Tryz.prog 16 (fun _ vs=>vs=[.agg #[.int .i64 (p0.X),.int .i64 (p0.Y)],.agg #[.int .i64 (p1.X),.int .i64 (p1.Y)],.agg #[.int .i64 (p2.X),.int .i64 (p2.Y)],.agg #[.int .i64 (p3.X),.int .i64 (p3.Y)]]) (fun _ r=>fun v Ln=>v = .int .i64 (r)∧Ln=[]∧True):=⟨by
 rintro _ _ r rfl hx w hK;unfold Hr at hx;have:=dl 1 [0,1,0,1,0,0,1,0,1,0,0,1,0,1,0,0,1,0,1,0,0,1,0,1,0,0,1,0,1,0,2,2,2,2,2,2] [0,1,2,3,4,5,6,7,8,9,10,11,12,13,14,15,16,17,18,19,20,21,22,23,24,25,26,27,28,29,30,31,32,33,34,35];refine CtS Tryz.ntmps16 Tryz.results16 ?_;exact au⟩
theorem Vu (p0:Ac) (p1:Ac) (p2:Ac) (p3:Ac)  {r:Int} (hx:Hr p0 p1 p2 p3=some r) (w:World):CtL Tryz.prog 16 [.agg #[.int .i64 (p0.X),.int .i64 (p0.Y)],.agg #[.int .i64 (p1.X),.int .i64 (p1.Y)],.agg #[.int .i64 (p2.X),.int .i64 (p2.Y)],.agg #[.int .i64 (p3.X),.int .i64 (p3.Y)]] w fun v Ln=>v = .int .i64 (r)∧Ln=[]∧True:=(Xf p0 p1 p2 p3).h [] _ _ rfl hx w (fun _ h=>absurd h List.not_mem_nil)
end Go.Proofs.YtebkcipolijfmaaGreat
