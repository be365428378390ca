/- Walks of the program, with their plain functions: MeshSides. -/
import Derived.Test.YtjfndjmabhbicaaGreatS4
import Derived.Test.YtjfndjmabhbicaaGreatU24
import Derived.Test.YtjfndjmabhbicaaGreatE1b
import Derived.Test.YtjfndjmabhbicaaGreatFlow26
import Derived.Test.YtjfndjmabhbicaaGreatZ2
namespace Go.Proofs.YtjfndjmabhbicaaGreat
open Go Go.RowKit
theorem Atx:Eo Tryz.prog 25 0 0:=.mk Tryz.underlying25 rfl rfl (show Tryz.prog.info? 22=some Tryz.t22 from by kernel_rfl) (show Tryz.t22.size=1 from by kernel_rfl) rfl
instance:Jp Tryz.prog 25 0 0:=⟨Atx⟩
theorem Aty:Eo Tryz.prog 25 1 1:=.mk Tryz.underlying25 rfl rfl (show Tryz.prog.info? 23=some Tryz.t23 from by kernel_rfl) (show Tryz.t23.size=1 from by kernel_rfl) rfl
instance:Jp Tryz.prog 25 1 1:=⟨Aty⟩
theorem Awn  : Kq Tryz.prog 70 [] [.int .i64 (0),.int .i64 (0),.int .i64 (0),.int .i64 (0)]:=fun w=>by kernel_rfl
instance:Ol Tryz.prog 70 [] [.int .i64 (0),.int .i64 (0),.int .i64 (0),.int .i64 (0)]:=⟨Awn⟩
theorem Akq (x0:Int):Kq Tryz.prog 70 [(0,.int .i64 x0)] [.int .i64 x0,.int .i64 (0),.int .i64 (0),.int .i64 (0)]:=fun w=>by kernel_rfl
instance (x0:Int):Ol Tryz.prog 70 [(0,.int .i64 x0)] [.int .i64 x0,.int .i64 (0),.int .i64 (0),.int .i64 (0)]:=⟨Akq _⟩
theorem Akr (x0:Int):Kq Tryz.prog 70 [(1,.int .i64 x0)] [.int .i64 (0),.int .i64 x0,.int .i64 (0),.int .i64 (0)]:=fun w=>by kernel_rfl
instance (x0:Int):Ol Tryz.prog 70 [(1,.int .i64 x0)] [.int .i64 (0),.int .i64 x0,.int .i64 (0),.int .i64 (0)]:=⟨Akr _⟩
theorem Ad6 (x0:Int) (x1:Int):Kq Tryz.prog 70 [(0,.int .i64 x0),(1,.int .i64 x1)] [.int .i64 x0,.int .i64 x1,.int .i64 (0),.int .i64 (0)]:=fun w=>by kernel_rfl
instance (x0:Int) (x1:Int):Ol Tryz.prog 70 [(0,.int .i64 x0),(1,.int .i64 x1)] [.int .i64 x0,.int .i64 x1,.int .i64 (0),.int .i64 (0)]:=⟨Ad6 _ _⟩
theorem Fi (x0:Int) (x1:Int) (x2:Int) (x3:Int) (x4:Int) (x5:Int) (x6:Int) (x7:Int) (x8:Int) (x9:Int) (x10:Int) (x11:Int) (x12:Int) (x13:Int) (x14:Int) (x15:Int):Db Tryz.prog 22 4 [(0,.agg #[.int .i64 x0,.int .i64 x1,.int .i64 x2,.int .i64 x3]),(1,.agg #[.int .i64 x4,.int .i64 x5,.int .i64 x6,.int .i64 x7]),(2,.agg #[.int .i64 x8,.int .i64 x9,.int .i64 x10,.int .i64 x11]),(3,.agg #[.int .i64 x12,.int .i64 x13,.int .i64 x14,.int .i64 x15])] 70 [.int .i64 x0,.int .i64 x1,.int .i64 x2,.int .i64 x3,.int .i64 x4,.int .i64 x5,.int .i64 x6,.int .i64 x7,.int .i64 x8,.int .i64 x9,.int .i64 x10,.int .i64 x11,.int .i64 x12,.int .i64 x13,.int .i64 x14,.int .i64 x15]:=fun w=>by kernel_rfl
instance (x0:Int) (x1:Int) (x2:Int) (x3:Int) (x4:Int) (x5:Int) (x6:Int) (x7:Int) (x8:Int) (x9:Int) (x10:Int) (x11:Int) (x12:Int) (x13:Int) (x14:Int) (x15:Int):Nm Tryz.prog 22 4 [(0,.agg #[.int .i64 x0,.int .i64 x1,.int .i64 x2,.int .i64 x3]),(1,.agg #[.int .i64 x4,.int .i64 x5,.int .i64 x6,.int .i64 x7]),(2,.agg #[.int .i64 x8,.int .i64 x9,.int .i64 x10,.int .i64 x11]),(3,.agg #[.int .i64 x12,.int .i64 x13,.int .i64 x14,.int .i64 x15])] 70 [.int .i64 x0,.int .i64 x1,.int .i64 x2,.int .i64 x3,.int .i64 x4,.int .i64 x5,.int .i64 x6,.int .i64 x7,.int .i64 x8,.int .i64 x9,.int .i64 x10,.int .i64 x11,.int .i64 x12,.int .i64 x13,.int .i64 x14,.int .i64 x15]:=⟨Fi _ _ _ _ _ _ _ _ _ _ _ _ _ _ _ _⟩
theorem Ayp:Nu Tryz.prog 25 2:=.mk Tryz.underlying25 rfl (show Tryz.prog.info? 25=some Tryz.t25 from by kernel_rfl) (by kernel_rfl)
instance:AggI Tryz.prog 25 2:=⟨Ayp⟩
structure Dk where
 V:List Ab
 Lines:List Aa
noncomputable def Of (p0:Dk) (p1:Int) (p2:Int):Option Bool :=
 jn (fun (s2:Bool) =>
 some s2)
 (fun j2=>if p1 < ((((p0.V).length:Nat):Int)) then (j2 true)
 else (j2 (decide (p2 < ((((p0.Lines).length:Nat):Int))))))
noncomputable def Fb  : Option Bool :=
 bnd (Kn ([(⟨0,0,(⟨0,0⟩:Ak)⟩:Ab),(⟨2,0,(⟨0,0⟩:Ak)⟩:Ab),(⟨0,2,(⟨0,0⟩:Ak)⟩:Ab),(⟨2,2,(⟨0,0⟩:Ak)⟩:Ab)]) ([]:List Aa)) fun r3 =>
 jn (fun (s3:Bool) =>
 some s3)
 (fun j3=>if r3.2=0 then (if ((((r3.1.T).length:Nat):Int))=2 then (bnd (idx r3.1.T 0) fun x0 =>
 if ((((x0.a0) == (0)) && (((x0.a1) == (1)) && (((x0.a2) == (2)) && true))))=true then (bnd (idx r3.1.T 1) fun x1 =>
 j3 (((x1.a0) == (1)) && (((x1.a1) == (3)) && (((x1.a2) == (2)) && true))))
 else (j3 false))
 else (j3 false))
 else (j3 false))
noncomputable def Cv (r1:(List Int) × Int) (p0:List Ab):(Int × Int)->Option (Sum (Int × Int) Int):=fun s0 =>
 if s0.2 < ((((r1.1).length:Nat):Int)) then (bnd (idx r1.1 0) fun x0 =>
 bnd (idx p0 x0) fun x1 =>
 bnd (idx r1.1 (w64 (s0.2-1))) fun x2 =>
 bnd (idx p0 x2) fun x3 =>
 bnd (idx r1.1 s0.2) fun x4 =>
 bnd (idx p0 x4) fun x5 =>
 bnd (Aj (⟨x1.X,x1.Y,(⟨x1.Z.Lo,x1.Z.Hi⟩:Ak)⟩:Ab)) fun r0 =>
 bnd (Aj (⟨x3.X,x3.Y,(⟨x3.Z.Lo,x3.Z.Hi⟩:Ak)⟩:Ab)) fun r2 =>
 bnd (Aj (⟨x5.X,x5.Y,(⟨x5.Z.Lo,x5.Z.Hi⟩:Ak)⟩:Ab)) fun r3 =>
 bnd (Kz r0 r2 r3) fun r4 =>
 some (.inl (w64 (s0.1+r4),w64 (s0.2+1))))
 else (some (.inr s0.1))
noncomputable def Cz (p0:List Ab):Option Int :=
 bnd (Dd p0) fun r1 =>
 jn (fun (s4:Int) =>
 some s4)
 (fun j4=>bnd (lfix (Cv r1 p0) (0,2)) fun t0 =>
 j4 t0)
noncomputable def Fq (r1:(List Int) × Int) (p0:List Ab) (s0:Int × Int):(Bool × Int)->Option (Sum (Bool × Int) Bool):=fun s1 =>
 if s1.2 < ((((r1.1).length:Nat):Int)) then (jn (fun (s2:Bool) =>
 some (.inl (s2,w64 (s1.2+1))))
 (fun j0=>if s1.1=true then (j0 true)
 else (bnd (idx r1.1 s1.2) fun x0 =>
 bnd (idx p0 x0) fun x1 =>
 gd (((((r1.1).length:Nat):Int))≠0) <|
 bnd (idx r1.1 (Int.tmod (w64 (s1.2+1)) ((((r1.1).length:Nat):Int)))) fun x2 =>
 bnd (idx p0 x2) fun x3 =>
 bnd (idx p0 s0.2) fun x4 =>
 bnd (Aj (⟨x1.X,x1.Y,(⟨x1.Z.Lo,x1.Z.Hi⟩:Ak)⟩:Ab)) fun r0 =>
 bnd (Aj (⟨x3.X,x3.Y,(⟨x3.Z.Lo,x3.Z.Hi⟩:Ak)⟩:Ab)) fun r2 =>
 bnd (Aj (⟨x4.X,x4.Y,(⟨x4.Z.Lo,x4.Z.Hi⟩:Ak)⟩:Ab)) fun r3 =>
 bnd (By r0 r2 r3) fun r4 =>
 j0 (decide (r4=0)))))
 else (some (.inr s1.1))
noncomputable def Fs (p0:List Ab) (r1:(List Int) × Int):(Int × Int)->Option (Sum (Int × Int) Int):=fun s0 =>
 if s0.2 < ((((p0).length:Nat):Int)) then (jn (fun (s1:Int) =>
 some (.inl (s1,w64 (s0.2+1))))
 (fun j0=>jn (fun (s2:Bool) =>
 if s2=true then (j0 (w64 (s0.1+1)))
 else (j0 s0.1))
 (fun j1=>bnd (lfix (Fq r1 p0 s0) (false,0)) fun t0 =>
 j1 t0)))
 else (some (.inr s0.1))
noncomputable def Hu (p0:List Ab):Option Int :=
 bnd (Dd p0) fun r1 =>
 jn (fun (s4:Int) =>
 some s4)
 (fun j4=>bnd (lfix (Fs p0 r1) (0,0)) fun t0 =>
 j4 t0)
noncomputable def Du (p0:List Int) (p1:List Int):Int->Option (Sum Int (Sum Unit Bool)):=fun s0 =>
 if s0 < ((((p0).length:Nat):Int)) then (bnd (idx p0 s0) fun x0 =>
 bnd (idx p1 s0) fun x1 =>
 if x0=x1 then (some (.inl (w64 (s0+1))))
 else (some (.inr (.inr (false)))))
 else (some (.inr (.inl ())))
noncomputable def Hv (p0:List Int) (p1:List Int):Option Bool :=
 if ((((p0).length:Nat):Int))=((((p1).length:Nat):Int)) then (jn (fun (s5:Unit) =>
 some true)
 (fun j5=>bnd (lfix (Du p0 p1) 0) fun t0 =>
 (match t0 with
 | (.inl z0)=>j5 z0
 | (.inr (z0))=>some z0
 )))
 else (some false)
noncomputable def Dh (p0:List Aa) (p1:List Aa):Int->Option (Sum Int (Sum Unit Bool)):=fun s0 =>
 if s0 < ((((p0).length:Nat):Int)) then (bnd (idx p0 s0) fun x0 =>
 bnd (idx p1 s0) fun x1 =>
 if ((((x0.a0) == (x1.a0)) && (((x0.a1) == (x1.a1)) && true)))=true then (some (.inl (w64 (s0+1))))
 else (some (.inr (.inr (false)))))
 else (some (.inr (.inl ())))
noncomputable def Hd (p0:List Aa) (p1:List Aa):Option Bool :=
 if ((((p0).length:Nat):Int))=((((p1).length:Nat):Int)) then (jn (fun (s5:Unit) =>
 some true)
 (fun j5=>bnd (lfix (Dh p0 p1) 0) fun t0 =>
 (match t0 with
 | (.inl z0)=>j5 z0
 | (.inr (z0))=>some z0
 )))
 else (some false)
noncomputable def He (p0:Dk) (p1:Int):Option Bool :=
 bnd (Of p0 24 8) fun r2 =>
 if r2=true then (bnd (Fb) fun r7 =>
 some r7)
 else (bnd (Bx p0.V p0.Lines) fun r0 =>
 if r0.2=0 then (bnd (Rn r0.1) fun r1 =>
 bnd (Lb r0.1) fun r3 =>
 bnd (Ld r0.1 p1) fun r4 =>
 bnd (Eh r0.1 p1) fun r5 =>
 bnd (Tf r0.1) fun r6 =>
 jn (fun (s0:Bool) =>
 if s0=true then (some false)
 else (if 0 < ((((r0.1.T).length:Nat):Int)) then (bnd (Hu p0.V) fun r8 =>
 jn (fun (s1:Bool) =>
 some s1)
 (fun j0=>if ((((r0.1.T).length:Nat):Int))=(w64 ((w64 ((w64 (2*((((p0.V).length:Nat):Int))))-2))-r8)) then (if ((((r1.1).length:Nat):Int))=(w64 ((w64 ((w64 (3*((((p0.V).length:Nat):Int))))-3))-r8)) then (bnd (Fb) fun r9 =>
 j0 r9)
 else (j0 false))
 else (j0 false)))
 else (jn (fun (s2:Bool) =>
 some s2)
 (fun j1=>if ((((r1.1).length:Nat):Int))=0 then (bnd (Fb) fun r10 =>
 j1 r10)
 else (j1 false)))))
 (fun j2=>if r1.2=0 then (bnd (Hd r1.1 r3.1) fun r87 =>
 if r87=true then (if r4.2=r5.2 then (bnd (Hv r4.1 r5.1) fun r12 =>
 if r12=true then (if r6.2=0 then (bnd (Cz p0.V) fun r13 =>
 j2 (!(decide (r6.1=r13))))
 else (j2 true))
 else (j2 true))
 else (j2 true))
 else (j2 true))
 else (j2 true)))
 else (bnd (Fb) fun r23 =>
 some r23))
set_option maxRecDepth 100000 in
instance lidarlaw06_Wide_c (p0:Dk) (p1:Int) (p2:Int):Con (Of p0 p1 p2) Tryz.prog 9 (fun K vs=>∃ (A0_0:Option Addr) (c0_0:Nat) (A0_1:Option Addr) (c0_1:Nat),vs=[.agg #[.slice (A0_0) ((p0.V).length) (c0_0),.slice (A0_1) ((p0.Lines).length) (c0_1)],.int .i64 (p1),.int .i64 (p2)]/\Has K A0_0 (p0.V).length c0_0 4 Ah (p0.V)/\Has K A0_1 (p0.Lines).length c0_1 2 Ai (p0.Lines)/\True) (fun _ r=>fun v Ln=>v = .bool (r)/\Ln=[]/\True):=⟨by
 rintro K _ r ⟨A0_0,c0_0,A0_1,c0_1,rfl,ha0,ha1,-⟩ hx w hK;replace ha0:=Has.lo ha0 hK;replace ha1:=Has.lo ha1 hK;unfold Of at hx;refine CtS Tryz.ntmps9 Tryz.results9 ?_;exact au⟩
set_option maxHeartbeats 1000000 in
set_option maxRecDepth 100000 in
instance lidarlaw06_awake_c  : Con (Fb) Tryz.prog 10 (fun _ vs=>vs=[]) (fun _ r=>fun v Ln=>v = .bool (r)/\Ln=[]/\True):=⟨by
 rintro _ _ r rfl hx w hK;unfold Fb at hx;refine CtS Tryz.ntmps10 Tryz.results10 ?_;exact au⟩
set_option maxHeartbeats 1000000 in
set_option maxRecDepth 100000 in
instance lidarlaw06_hullArea_c (p0:List Ab):Con (Cz p0) Tryz.prog 35 (fun K vs=>∃ (A0_0:Option Addr) (c0_0:Nat),vs=[.slice (A0_0) ((p0).length) (c0_0)]/\Has K A0_0 (p0).length c0_0 4 Ah (p0)/\True) (fun _ r=>fun v Ln=>v = .int .i64 (r)/\Ln=[]/\True):=⟨by
 rintro K _ r ⟨A0_0,c0_0,rfl,ha0,-⟩ hx w hK;replace ha0:=Has.lo ha0 hK;unfold Cz at hx;have:=dl 6 [0,0,0,0,1,0,1,2,0,0,0,0,0,1,0,1,2,0,0,0,0,1,0,1,2,2,0,2] [0,1,2,3,4,5,6,8,9,10,11,12,13,14,15,17,18,19,20,21,22,23,7,16,24,25,26,27];refine CtS Tryz.ntmps35 Tryz.results35 ?_;try (refine pre ?_;intros;rename_i hx)
 refine Bw ?_;try (refine pre ?_;intros;rename_i hx)
 apply Jr (γ:=Unit) hx [] (fun s4 y4 f=>(5,.int .i64 (s4))::f) [999] (fun s4 y4 l=>l);exact kk
 ·intro s4 y4 hx;exact au
 ·intro _ hx;try (refine pre ?_;intros;rename_i hx)
  apply Lr (γ:=Unit) hx [0,3] (fun s0 y0 f=>(5,.int .i64 (s0.1))::(6,.int .i64 (s0.2))::f) [0,999] (fun s0 y0 l=>l) ();exact kk;exact sk;intro s0 y0 x0 hx _;unfold Cv at hx
  exact au⟩
set_option maxHeartbeats 1000000 in
set_option maxRecDepth 100000 in
instance lidarlaw06_onBorder_c (p0:List Ab):Con (Hu p0) Tryz.prog 36 (fun K vs=>∃ (A0_0:Option Addr) (c0_0:Nat),vs=[.slice (A0_0) ((p0).length) (c0_0)]/\Has K A0_0 (p0).length c0_0 4 Ah (p0)/\True) (fun _ r=>fun v Ln=>v = .int .i64 (r)/\Ln=[]/\True):=⟨by
 rintro K _ r ⟨A0_0,c0_0,rfl,ha0,-⟩ hx w hK;replace ha0:=Has.lo ha0 hK;unfold Hu at hx;have:=dl 10 [0,0,0,0,0,0,1,0,1,2,0,0,0,0,0,0,0,0,1,0,1,2,0,0,0,1,2,2,0,0,2] [0,1,2,3,4,5,6,7,8,10,11,12,13,14,15,16,17,18,19,20,22,23,24,25,9,21,26,27,28,29,30];refine CtS Tryz.ntmps36 Tryz.results36 ?_;try (refine pre ?_;intros;rename_i hx)
 refine Bw ?_;try (refine pre ?_;intros;rename_i hx)
 apply Jr (γ:=Unit) hx [] (fun s4 y4 f=>(5,.int .i64 (s4))::f) [999] (fun s4 y4 l=>l);exact kk
 ·intro s4 y4 hx;exact au
 ·intro _ hx;try (refine pre ?_;intros;rename_i hx)
  apply Lr (γ:=Unit) hx [0,3,15] (fun s0 y0 f=>(5,.int .i64 (s0.1))::(16,.int .i64 (s0.2))::f) [0,999] (fun s0 y0 l=>l) ();exact kk;exact sk;intro s0 y0 x0 hx _;unfold Fs at hx
  try (refine pre ?_;intros;rename_i hx)
  refine Cq1 (s:=17) hx rfl (fun _ hx=>?_) (fun _ hx=>?_)
  ·try (refine pre ?_;intros;rename_i hx)
   apply Jr (γ:=Unit) hx [0,3,15,16] (fun s1 y1 f=>(5,.int .i64 (s1))::f) [0,999] (fun s1 y1 l=>l);exact kk
   ·intro s1 y1 hx;exact au
   ·intro _ hx;try (refine pre ?_;intros;rename_i hx)
    refine Bw ?_;try (refine pre ?_;intros;rename_i hx)
    refine Bw ?_;try (refine pre ?_;intros;rename_i hx)
    apply Jr (γ:=Unit) hx [0,3,5,15,16] (fun s2 y2 f=>(7,.bool (s2))::f) [0,999] (fun s2 y2 l=>l);exact kk
    ·intro s2 y2 hx;exact au
    ·intro _ hx;try (refine pre ?_;intros;rename_i hx)
     apply Lr (γ:=Unit) hx [0,3,5,6,15,16,20] (fun s3 y3 f=>(7,.bool (s3.1))::(21,.int .i64 (s3.2))::f) [0,999] (fun s3 y3 l=>l) ();exact kk;exact sk;intro s3 y3 x1 hx _;unfold Fq at hx
     exact au
  ·exact au⟩
set_option maxHeartbeats 1000000 in
set_option maxRecDepth 100000 in
instance lidarlaw06_sameInts_c (p0:List Int) (p1:List Int):Con (Hv p0 p1) Tryz.prog 34 (fun K vs=>∃ (A0_0:Option Addr) (c0_0:Nat) (A0_1:Option Addr) (c0_1:Nat),vs=[.slice (A0_0) ((p0).length) (c0_0),.slice (A0_1) ((p1).length) (c0_1)]/\Has K A0_0 (p0).length c0_0 1 Bq (p0)/\Has K A0_1 (p1).length c0_1 1 Bq (p1)/\True) (fun _ r=>fun v Ln=>v = .bool (r)/\Ln=[]/\True):=⟨by
 rintro K _ r ⟨A0_0,c0_0,A0_1,c0_1,rfl,ha0,ha1,-⟩ hx w hK;replace ha0:=Has.lo ha0 hK;replace ha1:=Has.lo ha1 hK;unfold Hv at hx;have:=dl 6 [0,0,0,1,0,0,0,1,0] [0,1,2,3,4,5,6,7,8];refine CtS Tryz.ntmps34 Tryz.results34 ?_;try (refine pre ?_;intros;rename_i hx)
 refine Cq2 (s:=10) hx rfl (fun _ hx=>?_) (fun _ hx=>?_)
 ·exact au
 ·try (refine pre ?_;intros;rename_i hx)
  apply Jr (γ:=Unit) hx [] (fun s5 y5 f=>f) [999] (fun s5 y5 l=>l);exact kk
  ·intro s5 y5 hx;exact au
  ·intro _ hx;try (refine pre ?_;intros;rename_i hx)
   apply Lr (γ:=Unit) hx [0,1,12] (fun s33 y33 f=>(13,.int .i64 (s33))::f) [999] (fun s33 y33 l=>l) ();exact kk;exact sk;intro s33 y33 x33 hx _;unfold Du at hx
   exact au⟩
set_option maxHeartbeats 1000000 in
set_option maxRecDepth 100000 in
instance lidarlaw06_samePairs_c (p0:List Aa) (p1:List Aa):Con (Hd p0 p1) Tryz.prog 14 (fun K vs=>∃ (A0_0:Option Addr) (c0_0:Nat) (A0_1:Option Addr) (c0_1:Nat),vs=[.slice (A0_0) ((p0).length) (c0_0),.slice (A0_1) ((p1).length) (c0_1)]/\Has K A0_0 (p0).length c0_0 2 Ai (p0)/\Has K A0_1 (p1).length c0_1 2 Ai (p1)/\True) (fun _ r=>fun v Ln=>v = .bool (r)/\Ln=[]/\True):=⟨by
 rintro K _ r ⟨A0_0,c0_0,A0_1,c0_1,rfl,ha0,ha1,-⟩ hx w hK;replace ha0:=Has.lo ha0 hK;replace ha1:=Has.lo ha1 hK;unfold Hd at hx;have:=dl 6 [0,0,0,1,0,0,0,1,0] [0,1,2,3,4,5,6,7,8];refine CtS Tryz.ntmps14 Tryz.results14 ?_;try (refine pre ?_;intros;rename_i hx)
 refine Cq2 (s:=10) hx rfl (fun _ hx=>?_) (fun _ hx=>?_)
 ·exact au
 ·try (refine pre ?_;intros;rename_i hx)
  apply Jr (γ:=Unit) hx [] (fun s5 y5 f=>f) [999] (fun s5 y5 l=>l);exact kk
  ·intro s5 y5 hx;exact au
  ·intro _ hx;try (refine pre ?_;intros;rename_i hx)
   apply Lr (γ:=Unit) hx [0,1,12] (fun s33 y33 f=>(13,.int .i64 (s33))::f) [999] (fun s33 y33 l=>l) ();exact kk;exact sk;intro s33 y33 x33 hx _;unfold Dh at hx
   exact au⟩
set_option maxHeartbeats 1000000 in
set_option maxRecDepth 100000 in
instance Ur (p0:Dk) (p1:Int):Con (He p0 p1) Tryz.prog 7 (fun K vs=>∃ (A0_0:Option Addr) (c0_0:Nat) (A0_1:Option Addr) (c0_1:Nat),vs=[.agg #[.slice (A0_0) ((p0.V).length) (c0_0),.slice (A0_1) ((p0.Lines).length) (c0_1)],.int .i64 (p1)]/\Has K A0_0 (p0.V).length c0_0 4 Ah (p0.V)/\Has K A0_1 (p0.Lines).length c0_1 2 Ai (p0.Lines)/\True) (fun _ r=>fun v Ln=>v = .bool (r)/\Ln=[]/\True):=⟨by
 rintro K _ r ⟨A0_0,c0_0,A0_1,c0_1,rfl,ha0,ha1,-⟩ hx w hK;replace ha0:=Has.lo ha0 hK;replace ha1:=Has.lo ha1 hK;unfold He at hx;refine CtS Tryz.ntmps7 Tryz.results7 ?_;try (refine pre ?_;intros;rename_i hx)
 refine Cq3 (s:=18) hx rfl (fun _ hx=>?_) (fun _ hx=>?_)
 ·exact au
 ·try (refine pre ?_;intros;rename_i hx)
  refine Cq2 (s:=29) hx rfl (fun _ hx=>?_) (fun _ hx=>?_)
  ·exact au
  ·try (refine pre ?_;intros;rename_i hx)
   refine Bw ?_;try (refine pre ?_;intros;rename_i hx)
   apply Jr (γ:=Unit) hx [2,5,7] (fun s0 y0 f=>(87,.bool (s0))::f) [3,4,5,6,7,8,999] (fun s0 y0 l=>l);exact kk
   ·intro s0 y0 hx;exact au
   ·intro _ hx;exact au⟩
theorem Tp (p0:Dk) (p1:Int) {K:List Ent} {A0_0:Option Addr} {c0_0:Nat} {A0_1:Option Addr} {c0_1:Nat} (ha0:Has K A0_0 (p0.V).length c0_0 4 Ah (p0.V)) (ha1:Has K A0_1 (p0.Lines).length c0_1 2 Ai (p0.Lines)) {r:Bool} (hx:He p0 p1=some r) (w:World) (hK:∀ e∈K,Ent.ok w e):CtL Tryz.prog 7 [.agg #[.slice (A0_0) ((p0.V).length) (c0_0),.slice (A0_1) ((p0.Lines).length) (c0_1)],.int .i64 (p1)] w fun v Ln=>v = .bool (r)/\Ln=[]/\True:=(Ur p0 p1).h K _ _ ⟨_,_,_,_,rfl,ha0,ha1,trivial⟩ hx w hK
section
variable {v:List Ab} {m:Mp} {L:List Aa} {T:List Ae}
theorem Aab (h:Ja v=0) (hfl:¬ Nv v):∃ f g X Y,Dd v=some (f::X++g::Y,0)/\(f::X++g::Y).length<=4096/\(∀ x∈f::X++g::Y,inN v.length x)/\Ih (SupV (plV v) (inN v.length) lexA 1) (f::X++[g])/\Ih (SupV (plV v) (inN v.length) (-lexA) (-1)) (g::Y++[f])/\inN v.length f/\(∀ k,inN v.length k->k=f\/befP (plV v f) (plV v k))/\inN v.length g/\(∀ k,inN v.length k->k=g\/befP (plV v k) (plV v g))/\Ih (Nx v) (f::X++g::Y++[f]):=by
 obtain ⟨hn,_,hv⟩:=Ii h
 obtain ⟨l,hl,hr⟩:=Vn hv hn
 have hlen:=hr.len
 have h3:2<=l.length:=by
  refine Classical.byContradiction fun c=>hfl fun i j k hi hj hk=>?_
  unfold inN at hi hj hk
  have:i=j:=by omega
  subst this
  exact Px _ _
 obtain ⟨f,g,X,Y,e1,e2,W,ne1,ne2,hf,low,hg,high⟩:=Ah1 hv hr h3
 have hord:l.Pairwise fun i j=>ph lexA 1 (plV v i) < ph lexA 1 (plV v j):=by
  refine hr.ord.imp_of_mem fun {a b} ha hb h=>?_
  exact (Uh (hv.ok _ (hr.val.1 ha)) (hv.ok _ (hr.val.1 hb))).2 h
 have hord':l.reverse.Pairwise fun i j=>ph (-lexA) (-1) (plV v i) < ph (-lexA) (-1) (plV v j):=by
  rw [List.pairwise_reverse]
  refine hr.ord.imp_of_mem fun {a b} ha hb h=>?_
  exact (Adk (hv.ok _ (hr.val.1 hb)) (hv.ok _ (hr.val.1 ha))).2 h
 have hne:l≠[]:=by rintro rfl;simp at h3
 obtain ⟨_,_,a2,_⟩:=Zi l hord hne
 obtain ⟨_,_,b2,_⟩:=Zi l.reverse hord' (by simpa using hne)
 have L1:=Wp a2.edge
 have L2:=Wp b2.edge
 have in1:∀ x∈(Mv (plV v) l).reverse,inN v.length x:=fun x hx=>hr.val.1 (a2.sub x (List.mem_reverse.1 hx))
 have in2:∀ x∈(Mv (plV v) l.reverse).reverse,inN v.length x:=fun x hx=>hr.val.1 (List.mem_reverse.1 (b2.sub x (List.mem_reverse.1 hx)))
 have S1:=Wq (R:=SupV (plV v) (inN v.length) lexA 1) (fun a b ha hb (h:Sup (plV v) lexA 1 l a b)=>⟨in1 a ha,in1 b hb,h.1,fun k hk=>by rcases h.2 k (hr.val.2 hk) with g | g <;> omega⟩) L1
 have S2:=Wq (R:=SupV (plV v) (inN v.length) (-lexA) (-1)) (fun a b ha hb (h:Sup (plV v) (-lexA) (-1) l.reverse a b)=>⟨in2 a ha,in2 b hb,h.1,fun k hk=>by rcases h.2 k (List.mem_reverse.2 (hr.val.2 hk)) with g | g <;> omega⟩) L2
 rw [e1] at S1 in1
 rw [e2] at S2 in2
 have len1:=Ac8 (P:=plV v) (l:=l)
 have len2:=Ac8 (P:=plV v) (l:=l.reverse)
 have len3:=congrArg List.length e1
 have len4:=congrArg List.length e2
 simp only [List.length_reverse,List.length_append,List.length_cons,List.length_nil] at len1 len2 len3 len4
 refine ⟨f,g,X,Y,?_,by simp only [List.length_append,List.length_cons];omega,fun x hx=>?_,S1,S2,hf,low,hg,high,W⟩
 ·obtain ⟨b,hb,hb2⟩:=Acv hv hn
  have c:¬ b=true:=fun c=>by
   have v0:inN v.length 0:=⟨by omega,by omega⟩
   have v1:inN v.length 1:=⟨by omega,by omega⟩
   have n01:=Cp hv v0 v1 (by omega)
   have all:∀ k,inN v.length k->crs (plV v 0) (plV v 1) (plV v k)=0:=fun k hk=>by
    have:=hk.1
    by_cases k0:k=0
    ·rw [k0];unfold crs;grind
    ·by_cases k1:k=1
     ·rw [k1];unfold crs;grind
     ·exact hb2.1 c k (by omega) hk
   exact hfl fun a b c ha hb hc=>Th n01 (all a ha) (all b hb) (all c hc)
  have hW:Nx v f ((X++g::Y++[f]).headD f)/\Ih (Nx v) (X++g::Y++[f]):=by
   cases X with
   | nil=>exact ⟨W.1,W.2⟩
   | cons x X=>exact ⟨W.1,W.2⟩
  unfold Dd
  rw [Oe,h,Ad,if_pos rfl,if_neg (by omega),Adl hn hf low,Ad,hb,Ad,if_neg c,jn_d,Afg hv hn hW.1,Ad]
  have:=Ane hv hn (X++g::Y) [f] (by simp only [List.length_append,List.length_cons,List.length_nil];omega) ne1 hW.2
  rw [this,Ad]
  rfl
 ·simp only [List.cons_append,List.mem_cons,List.mem_append] at hx
  rcases hx with e | hx | e | hx
  ·rw [e];exact hf
  ·exact in1 x (by simp [hx])
  ·rw [e];exact hg
  ·exact in2 x (by simp [hx])
theorem Air (h:Ja v=0) (hfl:¬ Nv v):∃ f g X Y,Dd v=some (f::X++g::Y,0)/\(f::X++g::Y).length<=4096/\(∀ x∈f::X++g::Y,inN v.length x)/\Ih (SupV (plV v) (inN v.length) lexA 1) (f::X++[g])/\Ih (SupV (plV v) (inN v.length) (-lexA) (-1)) (g::Y++[f])/\inN v.length f/\(∀ k,inN v.length k->k=f\/befP (plV v f) (plV v k))/\inN v.length g/\(∀ k,inN v.length k->k=g\/befP (plV v k) (plV v g)):=by
 obtain ⟨f,g,X,Y,h1,h2,h3,h4,h5,h6,h7,h8,h9,_⟩:=Aab h hfl
 exact ⟨f,g,X,Y,h1,h2,h3,h4,h5,h6,h7,h8,h9⟩
def fan (P:Int->Ac) (f:Int):List Int->Int
 | a::b::r=>crs (P f) (P a) (P b)+fan P f (b::r)
 | _=>0
theorem Ag5 (P:Int->Ac) (f:Int):∀ (r:List Int) (a:Int),fan P f (a::r)=xp (P f) (P a)+clen P (a::r++[f])
 | [],a=>by
  show (0:Int)=xp (P f) (P a)+(xp (P a) (P f)+0)
  rw [Aco (P a) (P f)];omega
 | b::r,a=>by
  have ih:=Ag5 P f r b
  show crs (P f) (P a) (P b)+fan P f (b::r)=xp (P f) (P a)+(xp (P a) (P b)+clen P (b::r++[f]))
  have:=Aj3 (P f) (P a) (P b)
  have:=Aco (P b) (P f)
  omega
theorem Afw (P:Int->Ac) (g:Int) (Z:List Int):∀ (X:List Int) (c:Int),clen P (c::X++g::Z)=clen P (c::X++[g])+clen P (g::Z)
 | [],c=>by
  show xp (P c) (P g)+clen P (g::Z)=xp (P c) (P g)+0+clen P (g::Z)
  omega
 | x::X,c=>by
  have ih:=Afw P g Z X x
  show xp (P c) (P x)+clen P (x::X++g::Z)=xp (P c) (P x)+clen P (x::X++[g])+clen P (g::Z)
  omega
theorem Aq2 (P:Int->Ac) (f g:Int) (X Y:List Int):fan P f (X++g::Y)=clen P (f::X++[g])+clen P (g::Y++[f]):=by
 have h:=Afw P g (Y++[f]) X f
 have e:clen P (f::X++g::(Y++[f]))=fan P f (X++g::Y):=by
  cases X with
  | nil=>exact (Ag5 P f Y g).symm
  | cons x X =>
   have:=Ag5 P f (X++g::Y) x
   show xp (P f) (P x)+clen P (x::(X++g::(Y++[f])))=fan P f (x::(X++g::Y))
   rw [this]
   simp
 rw [<- e,h]
 rfl
theorem Aq3 (a b:Int):w64 (w64 a+b)=w64 (a+b):=by rw [Ahk,Ahk,Ahk];omega
theorem Aq4 (hv:Be v) {f:Int} {r:List Int} (hl:(f::r).length<=4096) (hin:∀ x∈f::r,inN v.length x) (e:Int):lfix (Cv (f::r,e) v) (0,2)=some (w64 (fan (plV v) f r)):=by
 obtain ⟨t,h1,h2⟩:=Bk (B:=Cv (f::r,e) v) (fun s=>(f::r).length-s.2.toNat)
  (fun s=>∃ (k:Nat) (S:Int),s=(w64 S,((k+2:Nat):Int))/\S+fan (plV v) f (r.drop k)=fan (plV v) f r)
  (fun t=>t=w64 (fan (plV v) f r)) (by
   rintro s ⟨k,S,rfl,hS⟩
   unfold Cv
   dsimp only
   by_cases hk:k+2 < (f::r).length
   ·left
    have k1:k+1 < r.length:=by simp at hk;omega
    have h0:idx (f::r) 0=some f:=As (l:=f::r) (j:=0) (by simp)
    have ha:idx (f::r) ((k+1:Nat):Int)=some r[k]:=by rw [As (by omega)];simp
    have hb:idx (f::r) ((k+2:Nat):Int)=some r[k+1]:=by rw [As hk];simp
    have vf:=hin f (by simp)
    have va:=hin r[k] (List.mem_cons_of_mem _ (List.getElem_mem _))
    have vb:=hin r[k+1] (List.mem_cons_of_mem _ (List.getElem_mem _))
    obtain ⟨x0,i0,e0⟩:=Ek vf
    obtain ⟨x1,i1,e1⟩:=Ek va
    obtain ⟨x2,i2,e2⟩:=Ek vb
    have w1:w64 (((k+2:Nat):Int)-1)=((k+1:Nat):Int):=by rw [Ay (by omega) (by omega)];omega
    rw [if_pos (by omega),h0,Ad,i0,Ad,w1,ha,Ad,i1,Ad,hb,Ad,i2,Ad]
    unfold Aj
    rw [Ad,Ad,Ad]
    dsimp only
    rw [e0,e1,e2,Afv (hv.ok _ vf) (hv.ok _ va) (hv.ok _ vb),Ad,Aq3,Au (by omega)]
    refine ⟨_,rfl,⟨k+1,_,rfl,?_⟩,by dsimp only;omega⟩
    rw [List.drop_eq_getElem_cons (show k < r.length by omega),List.drop_eq_getElem_cons k1] at hS
    rw [List.drop_eq_getElem_cons k1]
    have hS':S+(crs (plV v f) (plV v r[k]) (plV v r[k+1])+fan (plV v) f (r[k+1]::r.drop (k+1+1)))=fan (plV v) f r:=hS
    omega
   ·right
    rw [if_neg (by omega)]
    refine ⟨_,rfl,?_⟩
    have:fan (plV v) f (r.drop k)=0:=by
     rcases hd:r.drop k with _ | ⟨x,_ | ⟨y,z⟩⟩
     ·rfl
     ·rfl
     ·have:=congrArg List.length hd
      simp at this hk
      omega
    rw [this,Int.add_zero] at hS
    rw [hS])
  (0,2) ⟨0,0,by simp [Ay],by simp⟩
 rw [h1,h2]
theorem Ais (h:Ja v=0) (hfl:¬ Nv v) (hM:Mesh v L m) (hT:Ix v m T):Cz v=some (w64 (tot (fun t:Ae=>crs (plV v t.a0) (plV v t.a1) (plV v t.a2)) T)):=by
 obtain ⟨hn,_,hv⟩:=Ii h
 obtain ⟨f,g,X,Y,h1,h2,h3,Lo,Up,hf,low,hg,high⟩:=Air h hfl
 unfold Cz
 rw [h1,Ad,jn_d,show f::X++g::Y=f::(X++g::Y) from rfl,Aq4 hv (r:=X++g::Y) h2 h3,Ad,Aq2,Ang hv hn hM hT hfl Lo Up hf low hg high]
end
def sqv:List Ab:=[⟨0,0,⟨0,0⟩⟩,⟨2,0,⟨0,0⟩⟩,⟨0,2,⟨0,0⟩⟩,⟨2,2,⟨0,0⟩⟩]
theorem Avi:Ja sqv=0:=by
 unfold Ja sqv Ey Qh Le okP pP
 simp
theorem Al8:∀ a∈([0,1,2,3]:List Int),∀ b∈([0,1,2,3]:List Int),∀ c∈([0,1,2,3]:List Int),
  ((a < b/\a < c/\0 < crs (plV sqv a) (plV sqv b) (plV sqv c)/\∀ d∈([0,1,2,3]:List Int),d≠a->d≠b->d≠c->DH (plV sqv) (hV sqv) a b c d < 0)↔((a=0/\b=1/\c=2)\/(a=1/\b=3/\c=2))):=by
 decide +kernel
theorem in4 {i:Int}:inN sqv.length i↔i∈([0,1,2,3]:List Int):=by
 unfold inN sqv
 simp
 omega
theorem Aq5:Aio sqv [⟨0,1,2⟩,⟨1,3,2⟩]:=by
 refine ⟨by simp [cmp3,cmpI],by simp,fun t=>?_⟩
 obtain ⟨a,b,c⟩:=t
 have key:∀ a b c,Del sqv a b c↔a∈([0,1,2,3]:List Int)/\b∈([0,1,2,3]:List Int)/\c∈([0,1,2,3]:List Int)/\0 < crs (plV sqv a) (plV sqv b) (plV sqv c)/\∀ d∈([0,1,2,3]:List Int),d≠a->d≠b->d≠c->DH (plV sqv) (hV sqv) a b c d < 0:=fun a b c=>by
  unfold Del
  simp only [in4]
 dsimp only
 rw [key]
 constructor
 ·intro h
  have e:(a=0/\b=1/\c=2)\/(a=1/\b=3/\c=2):=by simpa using h
  have ha:a∈([0,1,2,3]:List Int):=by rcases e with ⟨rfl,_,_⟩ | ⟨rfl,_,_⟩ <;> simp
  have hb:b∈([0,1,2,3]:List Int):=by rcases e with ⟨_,rfl,_⟩ | ⟨_,rfl,_⟩ <;> simp
  have hc:c∈([0,1,2,3]:List Int):=by rcases e with ⟨_,_,rfl⟩ | ⟨_,_,rfl⟩ <;> simp
  obtain ⟨h1,h2,h3,h4⟩:=(Al8 a ha b hb c hc).2 e
  exact ⟨h1,h2,ha,hb,hc,h3,h4⟩
 ·rintro ⟨h1,h2,ha,hb,hc,h3,h4⟩
  have e:=(Al8 a ha b hb c hc).1 ⟨h1,h2,h3,h4⟩
  simpa using e
section
variable {v:List Ab} {l:List Aa} {m:Mp} {T:List Ae}
theorem Sm:Mq v l=0↔Lin1 v l/\Lin2 v l:=by
 unfold Mq
 by_cases c1:Lin1 v l
 ·rw [if_pos c1]
  by_cases c2:Lin2 v l
  ·rw [if_pos c2];exact ⟨fun _=>⟨c1,c2⟩,fun _=>rfl⟩
  ·rw [if_neg c2];exact ⟨fun h=>(by cases h),fun h=>absurd h.2 c2⟩
 ·rw [if_neg c1];exact ⟨fun h=>(by cases h),fun h=>absurd h.1 c1⟩
theorem Awo {s:Aa} (h:s.a0<=s.a1):prL s=s:=by
 obtain ⟨x,y⟩:=s
 unfold prL pr2
 dsimp only at h ⊢
 rw [Int.min_eq_left h,Int.max_eq_right h]
theorem Al9 {L:List Aa} (h:∀ s∈L,s.a0<=s.a1):L.map prL=L:=by
 induction L with
 | nil=>rfl
 | cons x r ih=>rw [List.map_cons,Awo (h x (by simp)),ih (fun s hs=>h s (by simp [hs]))]
theorem Ait (hv:Be v) (hn:v.length<=1024) (h:Mq v l=0):Mq v (An cmp2 (l.map prL))=0/\An cmp2 ((An cmp2 (l.map prL)).map prL)=An cmp2 (l.map prL)/\(An cmp2 (l.map prL)).length=l.length:=by
 obtain ⟨h1,h2⟩:=Sm.1 h
 have hL:=Aez hv h1 h2
 have hm:=Al9 (fun s hs=>(hL.ok s hs).2)
 have sm:∀ s∈An cmp2 (l.map prL),Ia s:=fun s hs=>by
  obtain ⟨⟨k1,k2,_⟩,_⟩:=hL.ok s hs
  exact Xc hn k1 k2
 have sm':∀ s∈l.map prL,Ia s:=fun s hs=>sm s (Et.2 hs)
 refine ⟨Sm.2 ⟨⟨fun s hs=>(hL.ok s hs).1,by rw [hm];exact hL.nd⟩,fun s hs k hk g=>?_,?_⟩,?_,by rw [(Cg _ _).length_eq,List.length_map]⟩
 ·exact hL.free s hs k hk (fun e=>g.2.1 (by rw [e];exact ⟨rfl,rfl⟩)) (fun e=>g.2.2 (by rw [e];exact ⟨rfl,rfl⟩)) g.1
 ·exact List.Pairwise.imp_of_mem (fun {a b} ha hb hne=>hL.apart a ha b hb hne) hL.nd
 ·rw [hm]
  exact Tk tot2 (fun s hs=>sm s (Et.1 hs)) (Gz tot2 sm) (Gz tot2 sm') (Cg _ _)
theorem Aod {T:List Ae} (h:T.length<=100000000):Cq T T=some true:=by
 have e:lfix (Bs T T) 0=some (.inl ()):=by
  rw [Rx (β:=Unit) (γ:=Bool) T (fun _=>true) (Bs T T) () false (fun j hj=>?_) ?_]
  ·simp
  ·unfold Bs
   rw [if_neg (by omega)]
  ·unfold Bs
   rw [if_pos (by omega),As hj,Ad,Ad,if_pos (by simp),if_pos rfl,Au (by omega)]
 unfold Cq
 rw [if_pos rfl,jn_d,e,Ad]
theorem Aoe {L:List Aa} (h:L.length<=100000000):Cs L L=some true:=by
 have e:lfix (Bt L L) 0=some (.inl ()):=by
  rw [Rx (β:=Unit) (γ:=Bool) L (fun _=>true) (Bt L L) () false (fun j hj=>?_) ?_]
  ·simp
  ·unfold Bt
   rw [if_neg (by omega)]
  ·unfold Bt
   rw [if_pos (by omega),As hj,Ad,Ad,if_pos (by simp),if_pos rfl,Au (by omega)]
 unfold Cs
 rw [if_pos rfl,jn_d,e,Ad]
theorem Aiu {m:Aw} (h1:m.V.length<=100000000) (h2:m.T.length<=100000000) (h3:m.Lines.length<=100000000):Hr m m=some true:=by
 have e1:lfix (Dq m m) 0=some (.inl ()):=by
  rw [Rx (β:=Unit) (γ:=Bool) m.V (fun _=>true) (Dq m m) () false (fun j hj=>?_) ?_]
  ·simp
  ·unfold Dq
   rw [if_neg (by omega)]
  ·unfold Dq
   rw [if_pos (by omega),As hj,Ad,Ad,if_pos (by simp),if_pos rfl,Au (by omega)]
 have e2:lfix (De m m) 0=some (.inl ()):=by
  rw [Rx (β:=Unit) (γ:=Bool) m.T (fun _=>true) (De m m) () false (fun j hj=>?_) ?_]
  ·simp
  ·unfold De
   rw [if_neg (by omega)]
  ·unfold De
   rw [if_pos (by omega),As hj,Ad,Ad,if_pos (by simp),if_pos rfl,Au (by omega)]
 have e3:lfix (Df m m) 0=some (.inl ()):=by
  rw [Rx (β:=Unit) (γ:=Bool) m.Lines (fun _=>true) (Df m m) () false (fun j hj=>?_) ?_]
  ·simp
  ·unfold Df
   rw [if_neg (by omega)]
  ·unfold Df
   rw [if_pos (by omega),As hj,Ad,Ad,if_pos (by simp),if_pos rfl,Au (by omega)]
 unfold Hr
 rw [jn_d,if_pos rfl,if_pos rfl,decide_eq_true rfl]
 dsimp only
 rw [if_neg (by simp),jn_d,e1,Ad]
 dsimp only
 rw [jn_d,e2,Ad]
 dsimp only
 rw [jn_d,e3,Ad]
theorem Ix.len (hn:v.length<=1024) {L:List Aa} (hM:Mesh v L m) (h:Ix v m T):T.length<=1048576:=by
 have hsq:=Xw hn
 have:=Abq hM.tri (fun t ht=>(h.mem t).1 ht) h.nd
 omega
theorem Aiv (h:Ja v=0) (hl:l.length<=1000000) (h1:Mq v l=0) :
  ∃ T,Kn v l=some (⟨v,T,An cmp2 (l.map prL)⟩,0)/\Bx v l=some (⟨v,T,An cmp2 (l.map prL)⟩,0)/\T.length<=1048576/\Kk ⟨v,T,An cmp2 (l.map prL)⟩=some 0/\Kn v (An cmp2 (l.map prL))=some (⟨v,T,An cmp2 (l.map prL)⟩,0)/\Bx v (An cmp2 (l.map prL))=some (⟨v,T,An cmp2 (l.map prL)⟩,0)/\((Nv v/\T=[])\/(¬ Nv v/\∃ m,Mesh v (An cmp2 (l.map prL)) m/\Ix v m T)):=by
 obtain ⟨hn,_,hv⟩:=Ii h
 obtain ⟨g1,g2,g3⟩:=Ait hv hn h1
 obtain ⟨T,e1,e2,e3,e4⟩:=Vc h hl h1
 obtain ⟨T',f1,f2,f3,_⟩:=Vc (l:=An cmp2 (l.map prL)) h (by omega) g1
 rw [g2] at f1 f2 f3
 have:T'=T:=Option.some.inj (f3.symm.trans e3)
 subst this
 have hT:T'.length<=1048576:=by
  rcases e4 with ⟨_,rfl⟩ | ⟨_,m,hM,hT⟩
  ·simp
  ·exact hT.len hn hM
 refine ⟨T',e1,e2,hT,?_,f1,f2,e4⟩
 unfold Kk
 dsimp only
 rw [f1,Ad,jn_d]
 dsimp only
 rw [if_pos rfl,Aod (by omega),Ad,if_pos rfl,Aoe (by omega),Ad]
 rfl
theorem Aks:Mq v []=0:=Sm.2 ⟨⟨fun s hs=>(by cases hs),List.Pairwise.nil⟩,fun s hs=>(by cases hs),List.Pairwise.nil⟩
theorem Akt:Kn sqv []=some (⟨sqv,[⟨0,1,2⟩,⟨1,3,2⟩],[]⟩,0):=by
 obtain ⟨_,_,hv⟩:=Ii Avi
 have hE:=Sm.1 (Aks (v:=sqv))
 obtain ⟨T,h1,h2⟩:=Acf Avi (l:=[]) (by simp) hE.1 hE.2
 have e:An cmp2 (([]:List Aa).map prL)=[]:=by simp [An]
 rw [e] at h1 h2
 rcases h2 with ⟨f,_⟩ | ⟨_,m,hM,rfl⟩
 ·have:=f 0 1 2 (in4.2 (by simp)) (in4.2 (by simp)) (in4.2 (by simp))
  exact absurd this (by decide)
 ·have hd:=Aip hv hM.map hM.tri hM.cov (fun i j k l hk hl=>(hM.leg i j k l hk hl).resolve_left (by simp)) hM.ne
  rw [h1,(Atw hM.map hd).unique Aq5]
theorem Aba:Fb=some true:=by
 unfold Fb
 refine Eq.trans (congrArg (fun z=>bnd z _) Akt) ?_
 show bnd (some _) _=_
 rw [Ad,jn_d]
 rfl
end
end Go.Proofs.YtjfndjmabhbicaaGreat
