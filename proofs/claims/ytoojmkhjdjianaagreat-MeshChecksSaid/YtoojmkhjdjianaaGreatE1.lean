/- Walks of the program, with their plain functions: the references on places. -/
import Derived.Test.YtoojmkhjdjianaaGreatD5
namespace Go.Proofs.YtoojmkhjdjianaaGreat
open Go Go.RowKit
theorem Ace:Jc Tryz.prog 30 94 3:=.mk Tryz.underlying30 (show Tryz.prog.info? 94=some Tryz.t94 from by kernel_rfl) (by kernel_rfl)
instance:Kv Tryz.prog 30 94 3:=⟨Ace⟩
theorem Acf:Nm Tryz.prog 94 3:=.arr Tryz.underlying94 (show Tryz.prog.info? 94=some Tryz.t94 from by kernel_rfl) (by kernel_rfl)
instance:AggI Tryz.prog 94 3:=⟨Acf⟩
theorem Av7 (a0:Int) (a1:Int) (a2:Int) (b0:Int) (b1:Int) (b2:Int):∀ w,(Op.equalIn 10000 94 (.agg #[.int .i64 (a0),.int .i64 (a1),.int .i64 (a2)]) (.agg #[.int .i64 (b0),.int .i64 (b1),.int .i64 (b2)])).run Tryz.prog w = .ok ((((a0) == (b0)) && (((a1) == (b1)) && (((a2) == (b2)) && true)))) w :=
 EqI.array (c:=1) Tryz.underlying94 (show Tryz.prog.info? 3=some Tryz.t3 from by kernel_rfl) (by kernel_rfl) (.cons (fun w=>by kernel_rfl) (fun w=>by kernel_rfl) (fun w=>run_equalIn_int w 9998 3 .i64 .i64 _ _ Tryz.underlying3) (.cons (fun w=>by kernel_rfl) (fun w=>by kernel_rfl) (fun w=>run_equalIn_int w 9998 3 .i64 .i64 _ _ Tryz.underlying3) (.cons (fun w=>by kernel_rfl) (fun w=>by kernel_rfl) (fun w=>run_equalIn_int w 9998 3 .i64 .i64 _ _ Tryz.underlying3) (EqI.nil))))
instance (a0:Int) (a1:Int) (a2:Int) (b0:Int) (b1:Int) (b2:Int):EqSI Tryz.prog 94 [.int .i64 (a0),.int .i64 (a1),.int .i64 (a2)] [.int .i64 (b0),.int .i64 (b1),.int .i64 (b2)] ((((a0) == (b0)) && (((a1) == (b1)) && (((a2) == (b2)) && true)))):=⟨Av7 _ _ _ _ _ _,by kernel_rfl⟩
theorem Av8 (a0:Int) (a1:Int) (b0:Int) (b1:Int):∀ w,(Op.equalIn 10000 62 (.agg #[.int .i64 (a0),.int .i64 (a1)]) (.agg #[.int .i64 (b0),.int .i64 (b1)])).run Tryz.prog w = .ok ((((a0) == (b0)) && (((a1) == (b1)) && true))) w :=
 EqI.array (c:=1) Tryz.underlying62 (show Tryz.prog.info? 3=some Tryz.t3 from by kernel_rfl) (by kernel_rfl) (.cons (fun w=>by kernel_rfl) (fun w=>by kernel_rfl) (fun w=>run_equalIn_int w 9998 3 .i64 .i64 _ _ Tryz.underlying3) (.cons (fun w=>by kernel_rfl) (fun w=>by kernel_rfl) (fun w=>run_equalIn_int w 9998 3 .i64 .i64 _ _ Tryz.underlying3) (EqI.nil)))
instance (a0:Int) (a1:Int) (b0:Int) (b1:Int):EqSI Tryz.prog 62 [.int .i64 (a0),.int .i64 (a1)] [.int .i64 (b0),.int .i64 (b1)] ((((a0) == (b0)) && (((a1) == (b1)) && true))):=⟨Av8 _ _ _ _,by kernel_rfl⟩
theorem Are:Dg Tryz.prog 32 0 0:=.mk Tryz.underlying32 rfl rfl (show Tryz.prog.info? 22=some Tryz.t22 from by kernel_rfl) (show Tryz.t22.size=1 from by kernel_rfl) rfl
instance:Gs Tryz.prog 32 0 0:=⟨Are⟩
theorem Arf:Dg Tryz.prog 32 2 2:=.mk Tryz.underlying32 rfl rfl (show Tryz.prog.info? 23=some Tryz.t23 from by kernel_rfl) (show Tryz.t23.size=1 from by kernel_rfl) rfl
instance:Gs Tryz.prog 32 2 2:=⟨Arf⟩
theorem Av9:Nz Tryz.prog 23:=.mk Tryz.underlying23 rfl (show Tryz.prog.info? 23=some Tryz.t23 from by kernel_rfl) (by kernel_rfl)
instance:OneI Tryz.prog 23:=⟨Av9⟩
theorem Arg:Dg Tryz.prog 32 1 1:=.mk Tryz.underlying32 rfl rfl (show Tryz.prog.info? 30=some Tryz.t30 from by kernel_rfl) (show Tryz.t30.size=1 from by kernel_rfl) rfl
instance:Gs Tryz.prog 32 1 1:=⟨Arg⟩
theorem Awa:Nz Tryz.prog 30:=.mk Tryz.underlying30 rfl (show Tryz.prog.info? 30=some Tryz.t30 from by kernel_rfl) (by kernel_rfl)
instance:OneI Tryz.prog 30:=⟨Awa⟩
theorem At5:Lg Tryz.prog 274 [.int .i64 (0),.int .i64 (0),.int .i64 (0)]:=⟨_,Tryz.zeroValue274,rfl⟩
instance:Sr Tryz.prog 274 [.int .i64 (0),.int .i64 (0),.int .i64 (0)]:=⟨At5⟩
theorem Anp:Dg Tryz.prog 274 0 0:=.mk Tryz.underlying274 rfl rfl (show Tryz.prog.info? 3=some Tryz.t3 from by kernel_rfl) (show Tryz.t3.size=1 from by kernel_rfl) rfl
instance:Gs Tryz.prog 274 0 0:=⟨Anp⟩
theorem Anq:Dg Tryz.prog 274 1 1:=.mk Tryz.underlying274 rfl rfl (show Tryz.prog.info? 3=some Tryz.t3 from by kernel_rfl) (show Tryz.t3.size=1 from by kernel_rfl) rfl
instance:Gs Tryz.prog 274 1 1:=⟨Anq⟩
theorem Anr:Dg Tryz.prog 274 2 2:=.mk Tryz.underlying274 rfl rfl (show Tryz.prog.info? 3=some Tryz.t3 from by kernel_rfl) (show Tryz.t3.size=1 from by kernel_rfl) rfl
instance:Gs Tryz.prog 274 2 2:=⟨Anr⟩
theorem Xh (x0:Int) (x1:Int) (x2:Int):Hj Tryz.prog 274 [(0,.int .i64 x0),(1,.int .i64 x1),(2,.int .i64 x2)] [.int .i64 x0,.int .i64 x1,.int .i64 x2]:=fun w=>by kernel_rfl
instance (x0:Int) (x1:Int) (x2:Int):Lv Tryz.prog 274 [(0,.int .i64 x0),(1,.int .i64 x1),(2,.int .i64 x2)] [.int .i64 x0,.int .i64 x1,.int .i64 x2]:=⟨Xh _ _ _⟩
theorem At6:Nm Tryz.prog 274 3:=.mk Tryz.underlying274 rfl (show Tryz.prog.info? 274=some Tryz.t274 from by kernel_rfl) (by kernel_rfl)
instance:AggI Tryz.prog 274 3:=⟨At6⟩
instance:UndI Tryz.prog 30 (.slice 94):=⟨Tryz.underlying30⟩
noncomputable def Ba (p0:List Ah) (p1:List Ah):Int->Option (Sum Int (Sum Unit Bool)):=fun s0 =>
 if s0 < ((((p0).length:Nat):Int)) then (bnd (idx p0 s0) fun x0 =>
 bnd (idx p1 s0) fun x1 =>
 if ((((x0.a0) == (x1.a0)) && (((x0.a1) == (x1.a1)) && (((x0.a2) == (x1.a2)) && true))))=true then (some (.inl (w64 (s0+1))))
 else (some (.inr (.inr (false)))))
 else (some (.inr (.inl ())))
noncomputable def Bu (p0:List Ah) (p1:List Ah):Option Bool :=
 if ((((p0).length:Nat):Int))=((((p1).length:Nat):Int)) then (jn (fun (s5:Unit) =>
 some true)
 (fun j5=>bnd (lfix (Ba p0 p1) 0) fun t0 =>
 (match t0 with
 | (.inl z0)=>j5 z0
 | (.inr (z0))=>some z0
 )))
 else (some false)
noncomputable def Bb (p0:List Aa) (p1:List Aa):Int->Option (Sum Int (Sum Unit Bool)):=fun s0 =>
 if s0 < ((((p0).length:Nat):Int)) then (bnd (idx p0 s0) fun x0 =>
 bnd (idx p1 s0) fun x1 =>
 if ((((x0.a0) == (x1.a0)) && (((x0.a1) == (x1.a1)) && true)))=true then (some (.inl (w64 (s0+1))))
 else (some (.inr (.inr (false)))))
 else (some (.inr (.inl ())))
noncomputable def Bv (p0:List Aa) (p1:List Aa):Option Bool :=
 if ((((p0).length:Nat):Int))=((((p1).length:Nat):Int)) then (jn (fun (s5:Unit) =>
 some true)
 (fun j5=>bnd (lfix (Bb p0 p1) 0) fun t0 =>
 (match t0 with
 | (.inl z0)=>j5 z0
 | (.inr (z0))=>some z0
 )))
 else (some false)
noncomputable def Db (p0:Ao):Option Int :=
 bnd (Et p0.V p0.Lines) fun r2 =>
 jn (fun (s4:Bool) =>
 if s4=true then (some 64)
 else (some 0))
 (fun j4=>if r2.2=0 then (bnd (Bu r2.1.T p0.T) fun r0 =>
 if r0=true then (bnd (Bv r2.1.Lines p0.Lines) fun r1 =>
 j4 (!(r1)))
 else (j4 true))
 else (j4 true))
noncomputable def Ak (p0:Ab):Option Ac :=
 some (⟨p0.X,p0.Y⟩:Ac)
noncomputable def Fz (p0:Ac):Option Bool :=
 jn (fun (s2:Bool) =>
 some s2)
 (fun j2=>if (-268435456)<=p0.X then (if p0.X<=268435456 then (if (-268435456)<=p0.Y then (j2 (decide (p0.Y<=268435456)))
 else (j2 false))
 else (j2 false))
 else (j2 false))
noncomputable def Ff (p0:Ab):Option Bool :=
 jn (fun (s2:Bool) =>
 some s2)
 (fun j2=>bnd (Ak (⟨p0.X,p0.Y,(⟨p0.Z.Lo,p0.Z.Hi⟩:An)⟩:Ab)) fun r2 =>
 bnd (Fz r2) fun r5 =>
 if r5=true then (if (-268435456)<=p0.Z.Lo then (if p0.Z.Lo<=p0.Z.Hi then (j2 (decide (p0.Z.Hi<=268435456)))
 else (j2 false))
 else (j2 false))
 else (j2 false))
noncomputable def Fg (p0:Ac) (p1:Ac):Option Bool :=
 jn (fun (s2:Bool) =>
 some s2)
 (fun j2=>if p0.X < p1.X then (j2 true)
 else (if p0.X=p1.X then (j2 (decide (p0.Y < p1.Y)))
 else (j2 false)))
noncomputable def Nk (p0:Ac) (p1:Ac) (p2:Ac):Option Int :=
 some (w64 ((w64 ((w64 (p1.X-p0.X))*(w64 (p2.Y-p0.Y))))-(w64 ((w64 (p1.Y-p0.Y))*(w64 (p2.X-p0.X))))))
noncomputable def Hm (p0:Int):Option Int :=
 if p0 < 0 then (some (-1))
 else (if 0 < p0 then (some 1)
 else (some 0))
noncomputable def Co (p0:Ac) (p1:Ac) (p2:Ac):Option Int :=
 bnd (Nk p0 p1 p2) fun r4 =>
 bnd (Hm r4) fun r7 =>
 some r7
structure Cp where
 high:Int
 middle:Int
 low:Int
noncomputable def Ec (p0:Cp) (p1:Int) (p2:Int):Option Cp :=
 some (⟨w64 (p0.high+(w64 ((shr_ .i64 p1 30)*(shr_ .i64 p2 30)))),w64 ((w64 (p0.middle+(w64 ((shr_ .i64 p1 30)*(Og .i64 p2 1073741823)))))+(w64 ((Og .i64 p1 1073741823)*(shr_ .i64 p2 30)))),w64 (p0.low+(w64 ((Og .i64 p1 1073741823)*(Og .i64 p2 1073741823))))⟩:Cp)
noncomputable def Hb (p0:Cp):Option Int :=
 if (w64 (p0.high+(shr_ .i64 (w64 (p0.middle+(shr_ .i64 p0.low 30))) 30)))=0 then (bnd (Hm (w64 ((Og .i64 (w64 (p0.middle+(shr_ .i64 p0.low 30))) 1073741823)+(Og .i64 p0.low 1073741823)))) fun r8 =>
 some r8)
 else (bnd (Hm (w64 (p0.high+(shr_ .i64 (w64 (p0.middle+(shr_ .i64 p0.low 30))) 30)))) fun r4 =>
 some r4)
noncomputable def Jt (p0:Ac) (p1:Ac) (p2:Ac) (p3:Ac):Option Int :=
 bnd (Ec (⟨0,0,0⟩:Cp) (w64 ((w64 ((w64 (p0.X-p3.X))*(w64 (p0.X-p3.X))))+(w64 ((w64 (p0.Y-p3.Y))*(w64 (p0.Y-p3.Y)))))) (w64 ((w64 ((w64 (p1.X-p3.X))*(w64 (p2.Y-p3.Y))))-(w64 ((w64 (p1.Y-p3.Y))*(w64 (p2.X-p3.X))))))) fun r6 =>
 bnd (Ec r6 (w64 ((w64 ((w64 (p1.X-p3.X))*(w64 (p1.X-p3.X))))+(w64 ((w64 (p1.Y-p3.Y))*(w64 (p1.Y-p3.Y)))))) (w64 ((w64 ((w64 (p2.X-p3.X))*(w64 (p0.Y-p3.Y))))-(w64 ((w64 (p2.Y-p3.Y))*(w64 (p0.X-p3.X))))))) fun r9 =>
 bnd (Ec r9 (w64 ((w64 ((w64 (p2.X-p3.X))*(w64 (p2.X-p3.X))))+(w64 ((w64 (p2.Y-p3.Y))*(w64 (p2.Y-p3.Y)))))) (w64 ((w64 ((w64 (p0.X-p3.X))*(w64 (p1.Y-p3.Y))))-(w64 ((w64 (p0.Y-p3.Y))*(w64 (p1.X-p3.X))))))) fun r0 =>
 bnd (Hb r0) fun r1 =>
 some r1
set_option maxHeartbeats 1000000 in
set_option maxRecDepth 100000 in
instance slices_Equal____3_int__3_int__c (p0:List Ah) (p1:List Ah):Con (Bu p0 p1) Tryz.prog 91 (fun K vs=>∃ (A0_0:Option Addr) (c0_0:Nat) (A0_1:Option Addr) (c0_1:Nat),vs=[.slice (A0_0) ((p0).length) (c0_0),.slice (A0_1) ((p1).length) (c0_1)]/\Has K A0_0 (p0).length c0_0 3 Aq (p0)/\Has K A0_1 (p1).length c0_1 3 Aq (p1)/\True) (fun _ r=>fun v Ln=>v = .bool (r)/\Ln=[]/\True):=⟨by
 rintro K _ r ⟨A0_0,c0_0,A0_1,c0_1,rfl,ha0,ha1,-⟩ hx w hK;replace ha0:=Has.lo ha0 hK;replace ha1:=Has.lo ha1 hK;unfold Bu at hx;have:=dl 6 [0,0,0,1,0,0,0,1,0] [0,1,2,3,4,5,6,7,8];refine CtS Tryz.ntmps91 Tryz.results91 ?_;try (refine pre ?_;intros;rename_i hx)
 refine Cq2 (s:=10) hx rfl (fun _ hx=>?_) (fun _ hx=>?_)
 ·exact au
 ·try (refine pre ?_;intros;rename_i hx)
  apply Jr (γ:=Unit) hx [] (fun s5 y5 f=>f) [999] (fun s5 y5 l=>l);exact kk
  ·intro s5 y5 hx;exact au
  ·intro _ hx;try (refine pre ?_;intros;rename_i hx)
   apply Lr (γ:=Unit) hx [0,1,12] (fun s33 y33 f=>(13,.int .i64 (s33))::f) [999] (fun s33 y33 l=>l) ();exact kk;exact sk;intro s33 y33 x33 hx _;unfold Ba at hx
   exact au⟩
set_option maxHeartbeats 1000000 in
set_option maxRecDepth 100000 in
instance slices_Equal____2_int__2_int__c (p0:List Aa) (p1:List Aa):Con (Bv p0 p1) Tryz.prog 92 (fun K vs=>∃ (A0_0:Option Addr) (c0_0:Nat) (A0_1:Option Addr) (c0_1:Nat),vs=[.slice (A0_0) ((p0).length) (c0_0),.slice (A0_1) ((p1).length) (c0_1)]/\Has K A0_0 (p0).length c0_0 2 Ai (p0)/\Has K A0_1 (p1).length c0_1 2 Ai (p1)/\True) (fun _ r=>fun v Ln=>v = .bool (r)/\Ln=[]/\True):=⟨by
 rintro K _ r ⟨A0_0,c0_0,A0_1,c0_1,rfl,ha0,ha1,-⟩ hx w hK;replace ha0:=Has.lo ha0 hK;replace ha1:=Has.lo ha1 hK;unfold Bv at hx;have:=dl 6 [0,0,0,1,0,0,0,1,0] [0,1,2,3,4,5,6,7,8];refine CtS Tryz.ntmps92 Tryz.results92 ?_;try (refine pre ?_;intros;rename_i hx)
 refine Cq2 (s:=10) hx rfl (fun _ hx=>?_) (fun _ hx=>?_)
 ·exact au
 ·try (refine pre ?_;intros;rename_i hx)
  apply Jr (γ:=Unit) hx [] (fun s5 y5 f=>f) [999] (fun s5 y5 l=>l);exact kk
  ·intro s5 y5 hx;exact au
  ·intro _ hx;try (refine pre ?_;intros;rename_i hx)
   apply Lr (γ:=Unit) hx [0,1,12] (fun s33 y33 f=>(13,.int .i64 (s33))::f) [999] (fun s33 y33 l=>l) ();exact kk;exact sk;intro s33 y33 x33 hx _;unfold Bb at hx
   exact au⟩
set_option maxHeartbeats 1000000 in
set_option maxRecDepth 100000 in
instance Afr (p0:Ao):Con (Db p0) Tryz.prog 38 (fun K vs=>∃ (A0_0:Option Addr) (c0_0:Nat) (A0_1:Option Addr) (c0_1:Nat) (A0_2:Option Addr) (c0_2:Nat),vs=[.agg #[.slice (A0_0) ((p0.V).length) (c0_0),.slice (A0_1) ((p0.T).length) (c0_1),.slice (A0_2) ((p0.Lines).length) (c0_2)]]/\Has K A0_0 (p0.V).length c0_0 4 Af (p0.V)/\Has K A0_1 (p0.T).length c0_1 3 Aq (p0.T)/\Has K A0_2 (p0.Lines).length c0_2 2 Ai (p0.Lines)/\True) (fun _ r=>fun v Ln=>v = .int .i64 (r)/\Ln=[]/\True):=⟨by
 rintro K _ r ⟨A0_0,c0_0,A0_1,c0_1,A0_2,c0_2,rfl,ha0,ha1,ha2,-⟩ hx w hK;replace ha0:=Has.lo ha0 hK;replace ha1:=Has.lo ha1 hK;replace ha2:=Has.lo ha2 hK;unfold Db at hx;refine CtS Tryz.ntmps38 Tryz.results38 ?_;try (refine pre ?_;intros;rename_i hx)
 refine Ck ?_;try (refine pre ?_;intros;rename_i hx)
 apply Jr (γ:=Unit) hx [] (fun s4 y4 f=>(30,.bool (s4))::f) [999] (fun s4 y4 l=>l);exact kk
 ·intro s4 y4 hx;exact au
 ·intro _ hx;exact au⟩
theorem Xp (p0:Ao) {K:List Ent} {A0_0:Option Addr} {c0_0:Nat} {A0_1:Option Addr} {c0_1:Nat} {A0_2:Option Addr} {c0_2:Nat} (ha0:Has K A0_0 (p0.V).length c0_0 4 Af (p0.V)) (ha1:Has K A0_1 (p0.T).length c0_1 3 Aq (p0.T)) (ha2:Has K A0_2 (p0.Lines).length c0_2 2 Ai (p0.Lines)) {r:Int} (hx:Db p0=some r) (w:World) (hK:∀ e∈K,Ent.ok w e):CtL Tryz.prog 38 [.agg #[.slice (A0_0) ((p0.V).length) (c0_0),.slice (A0_1) ((p0.T).length) (c0_1),.slice (A0_2) ((p0.Lines).length) (c0_2)]] w fun v Ln=>v = .int .i64 (r)/\Ln=[]/\True:=(Afr p0).h K _ _ ⟨_,_,_,_,_,_,rfl,ha0,ha1,ha2,trivial⟩ hx w hK
set_option maxRecDepth 100000 in
instance Xy (p0:Ab):Con (Ak p0) Tryz.prog 67 (fun _ vs=>vs=[.agg #[.int .i64 (p0.X),.int .i64 (p0.Y),.int .i64 (p0.Z.Lo),.int .i64 (p0.Z.Hi)]]) (fun _ r=>fun v Ln=>v = .agg #[.int .i64 (r.X),.int .i64 (r.Y)]/\Ln=[]/\True):=⟨by
 rintro _ _ r rfl hx w hK;unfold Ak at hx;refine CtS Tryz.ntmps67 Tryz.results67 ?_;exact au⟩
theorem Qw (p0:Ab)  {r:Ac} (hx:Ak p0=some r) (w:World):CtL Tryz.prog 67 [.agg #[.int .i64 (p0.X),.int .i64 (p0.Y),.int .i64 (p0.Z.Lo),.int .i64 (p0.Z.Hi)]] w fun v Ln=>v = .agg #[.int .i64 (r.X),.int .i64 (r.Y)]/\Ln=[]/\True:=(Xy p0).h [] _ _ rfl hx w (fun _ h=>absurd h List.not_mem_nil)
set_option maxRecDepth 100000 in
instance lidarref06_ValidPlace_c (p0:Ac):Con (Fz p0) Tryz.prog 79 (fun _ vs=>vs=[.agg #[.int .i64 (p0.X),.int .i64 (p0.Y)]]) (fun _ r=>fun v Ln=>v = .bool (r)/\Ln=[]/\True):=⟨by
 rintro _ _ r rfl hx w hK;unfold Fz at hx;refine CtS Tryz.ntmps79 Tryz.results79 ?_;exact au⟩
set_option maxHeartbeats 1000000 in
set_option maxRecDepth 100000 in
instance lidarref06_validVertex_c (p0:Ab):Con (Ff p0) Tryz.prog 179 (fun _ vs=>vs=[.agg #[.int .i64 (p0.X),.int .i64 (p0.Y),.int .i64 (p0.Z.Lo),.int .i64 (p0.Z.Hi)]]) (fun _ r=>fun v Ln=>v = .bool (r)/\Ln=[]/\True):=⟨by
 rintro _ _ r rfl hx w hK;unfold Ff at hx;refine CtS Tryz.ntmps179 Tryz.results179 ?_;exact au⟩
set_option maxRecDepth 100000 in
instance Xi (p0:Ac) (p1:Ac):Con (Fg p0 p1) Tryz.prog 152 (fun _ vs=>vs=[.agg #[.int .i64 (p0.X),.int .i64 (p0.Y)],.agg #[.int .i64 (p1.X),.int .i64 (p1.Y)]]) (fun _ r=>fun v Ln=>v = .bool (r)/\Ln=[]/\True):=⟨by
 rintro _ _ r rfl hx w hK;unfold Fg at hx;refine CtS Tryz.ntmps152 Tryz.results152 ?_;exact au⟩
theorem Vl (p0:Ac) (p1:Ac)  {r:Bool} (hx:Fg p0 p1=some r) (w:World):CtL Tryz.prog 152 [.agg #[.int .i64 (p0.X),.int .i64 (p0.Y)],.agg #[.int .i64 (p1.X),.int .i64 (p1.Y)]] w fun v Ln=>v = .bool (r)/\Ln=[]/\True:=(Xi p0 p1).h [] _ _ rfl hx w (fun _ h=>absurd h List.not_mem_nil)
set_option maxRecDepth 100000 in
instance lidarref06_Twice_c (p0:Ac) (p1:Ac) (p2:Ac):Con (Nk p0 p1 p2) Tryz.prog 66 (fun _ vs=>vs=[.agg #[.int .i64 (p0.X),.int .i64 (p0.Y)],.agg #[.int .i64 (p1.X),.int .i64 (p1.Y)],.agg #[.int .i64 (p2.X),.int .i64 (p2.Y)]]) (fun _ r=>fun v Ln=>v = .int .i64 (r)/\Ln=[]/\True):=⟨by
 rintro _ _ r rfl hx w hK;unfold Nk at hx;refine CtS Tryz.ntmps66 Tryz.results66 ?_;exact au⟩
set_option maxRecDepth 100000 in
instance lidarref06_sign_c (p0:Int):Con (Hm p0) Tryz.prog 153 (fun _ vs=>vs=[.int .i64 (p0)]) (fun _ r=>fun v Ln=>v = .int .i64 (r)/\Ln=[]/\True):=⟨by
 rintro _ _ r rfl hx w hK;unfold Hm at hx;refine CtS Tryz.ntmps153 Tryz.results153 ?_;exact au⟩
set_option maxRecDepth 100000 in
instance lidarref06_Turn_c (p0:Ac) (p1:Ac) (p2:Ac):Con (Co p0 p1 p2) Tryz.prog 90 (fun _ vs=>vs=[.agg #[.int .i64 (p0.X),.int .i64 (p0.Y)],.agg #[.int .i64 (p1.X),.int .i64 (p1.Y)],.agg #[.int .i64 (p2.X),.int .i64 (p2.Y)]]) (fun _ r=>fun v Ln=>v = .int .i64 (r)/\Ln=[]/\True):=⟨by
 rintro _ _ r rfl hx w hK;unfold Co at hx;refine CtS Tryz.ntmps90 Tryz.results90 ?_;exact au⟩
set_option maxRecDepth 100000 in
instance lidarref06_wide_add_c (p0:Cp) (p1:Int) (p2:Int):Con (Ec p0 p1 p2) Tryz.prog 243 (fun _ vs=>vs=[.agg #[.int .i64 (p0.high),.int .i64 (p0.middle),.int .i64 (p0.low)],.int .i64 (p1),.int .i64 (p2)]) (fun _ r=>fun v Ln=>v = .agg #[.int .i64 (r.high),.int .i64 (r.middle),.int .i64 (r.low)]/\Ln=[]/\True):=⟨by
 rintro _ _ r rfl hx w hK;unfold Ec at hx;refine CtS Tryz.ntmps243 Tryz.results243 ?_;exact au⟩
set_option maxHeartbeats 1000000 in
set_option maxRecDepth 100000 in
instance lidarref06_wide_sign_c (p0:Cp):Con (Hb p0) Tryz.prog 244 (fun _ vs=>vs=[.agg #[.int .i64 (p0.high),.int .i64 (p0.middle),.int .i64 (p0.low)]]) (fun _ r=>fun v Ln=>v = .int .i64 (r)/\Ln=[]/\True):=⟨by
 rintro _ _ r rfl hx w hK;unfold Hb at hx;refine CtS Tryz.ntmps244 Tryz.results244 ?_;exact au⟩
set_option maxHeartbeats 1000000 in
set_option maxRecDepth 100000 in
instance lidarref06_Circle_c (p0:Ac) (p1:Ac) (p2:Ac) (p3:Ac):Con (Jt p0 p1 p2 p3) Tryz.prog 183 (fun _ vs=>vs=[.agg #[.int .i64 (p0.X),.int .i64 (p0.Y)],.agg #[.int .i64 (p1.X),.int .i64 (p1.Y)],.agg #[.int .i64 (p2.X),.int .i64 (p2.Y)],.agg #[.int .i64 (p3.X),.int .i64 (p3.Y)]]) (fun _ r=>fun v Ln=>v = .int .i64 (r)/\Ln=[]/\True):=⟨by
 rintro _ _ r rfl hx w hK;unfold Jt at hx;have:=dl 1 [0,1,0,1,0,0,1,0,1,0,0,1,0,1,0,0,1,0,1,0,0,1,0,1,0,0,1,0,1,0,2,2,2,2,2,2] [0,1,2,3,4,5,6,7,8,9,10,11,12,13,14,15,16,17,18,19,20,21,22,23,24,25,26,27,28,29,30,31,32,33,34,35];refine CtS Tryz.ntmps183 Tryz.results183 ?_;exact au⟩
end Go.Proofs.YtoojmkhjdjianaaGreat
