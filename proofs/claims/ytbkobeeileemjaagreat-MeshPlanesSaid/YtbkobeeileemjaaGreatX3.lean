/- Walks of the program, with their plain functions: heights. -/
import Derived.Test.YtbkobeeileemjaaGreatX2
namespace Go.Proofs.YtbkobeeileemjaaGreat
open Go Go.RowKit
theorem Arh (a0:Int) (a1:Int) (b0:Int) (b1:Int):∀ w,(Op.equalIn 10000 97 (.agg #[.int .i64 (a0),.int .i64 (a1)]) (.agg #[.int .i64 (b0),.int .i64 (b1)])).run Tryz.prog w = .ok ((((a0) == (b0)) && (((a1) == (b1)) && true))) w :=
 EqI.array (c:=1) Tryz.underlying97 (show Tryz.prog.info? 3=some Tryz.t3 from by kernel_rfl) (by kernel_rfl) (.cons (fun w=>by kernel_rfl) (fun w=>by kernel_rfl) (fun w=>run_equalIn_int w 9998 3 .i64 .i64 _ _ Tryz.underlying3) (.cons (fun w=>by kernel_rfl) (fun w=>by kernel_rfl) (fun w=>run_equalIn_int w 9998 3 .i64 .i64 _ _ Tryz.underlying3) (EqI.nil)))
instance (a0:Int) (a1:Int) (b0:Int) (b1:Int):EqSI Tryz.prog 97 [.int .i64 (a0),.int .i64 (a1)] [.int .i64 (b0),.int .i64 (b1)] ((((a0) == (b0)) && (((a1) == (b1)) && true))):=⟨Arh _ _ _ _,by kernel_rfl⟩
theorem An4:Ek Tryz.prog 40 0 0:=.mk Tryz.underlying40 rfl rfl (show Tryz.prog.info? 22=some Tryz.t22 from by kernel_rfl) (show Tryz.t22.size=1 from by kernel_rfl) rfl
instance:Hz Tryz.prog 40 0 0:=⟨An4⟩
theorem An5:Ek Tryz.prog 40 2 2:=.mk Tryz.underlying40 rfl rfl (show Tryz.prog.info? 23=some Tryz.t23 from by kernel_rfl) (show Tryz.t23.size=1 from by kernel_rfl) rfl
instance:Hz Tryz.prog 40 2 2:=⟨An5⟩
theorem Ag7:Kj Tryz.prog 156 [.int .i64 (0),.int .i64 (0),.int .i64 (0),.int .i64 (0),.int .i64 (0),.int .i64 (0),.int .i64 (0),.int .i64 (0),.int .i64 (0),.int .i64 (0),.int .i64 (0),.int .i64 (0)]:=⟨_,Tryz.zeroValue156,rfl⟩
instance:Qy Tryz.prog 156 [.int .i64 (0),.int .i64 (0),.int .i64 (0),.int .i64 (0),.int .i64 (0),.int .i64 (0),.int .i64 (0),.int .i64 (0),.int .i64 (0),.int .i64 (0),.int .i64 (0),.int .i64 (0)]:=⟨Ag7⟩
theorem Hv (x0:Int) (x1:Int) (x2:Int) (x3:Int) (x4:Int) (x5:Int) (x6:Int) (x7:Int) (x8:Int) (x9:Int) (x10:Int) (x11:Int):Gv Tryz.prog 156 [(0,.agg #[.int .i64 x0,.int .i64 x1,.int .i64 x2,.int .i64 x3]),(1,.agg #[.int .i64 x4,.int .i64 x5,.int .i64 x6,.int .i64 x7]),(2,.agg #[.int .i64 x8,.int .i64 x9,.int .i64 x10,.int .i64 x11])] [.int .i64 x0,.int .i64 x1,.int .i64 x2,.int .i64 x3,.int .i64 x4,.int .i64 x5,.int .i64 x6,.int .i64 x7,.int .i64 x8,.int .i64 x9,.int .i64 x10,.int .i64 x11]:=fun w=>by kernel_rfl
instance (x0:Int) (x1:Int) (x2:Int) (x3:Int) (x4:Int) (x5:Int) (x6:Int) (x7:Int) (x8:Int) (x9:Int) (x10:Int) (x11:Int):Kk Tryz.prog 156 [(0,.agg #[.int .i64 x0,.int .i64 x1,.int .i64 x2,.int .i64 x3]),(1,.agg #[.int .i64 x4,.int .i64 x5,.int .i64 x6,.int .i64 x7]),(2,.agg #[.int .i64 x8,.int .i64 x9,.int .i64 x10,.int .i64 x11])] [.int .i64 x0,.int .i64 x1,.int .i64 x2,.int .i64 x3,.int .i64 x4,.int .i64 x5,.int .i64 x6,.int .i64 x7,.int .i64 x8,.int .i64 x9,.int .i64 x10,.int .i64 x11]:=⟨Hv _ _ _ _ _ _ _ _ _ _ _ _⟩
theorem Abf:Lb Tryz.prog 156 12:=.arr Tryz.underlying156 (show Tryz.prog.info? 156=some Tryz.t156 from by kernel_rfl) (by kernel_rfl)
instance:AggI Tryz.prog 156 12:=⟨Abf⟩
theorem Ag8:Zr Tryz.prog 156 3 4:=.mk Tryz.underlying156 (show Tryz.prog.info? 34=some Tryz.t34 from by kernel_rfl) (by kernel_rfl)
instance:ArrI Tryz.prog 156 3 4:=⟨Ag8⟩
theorem Ari:Kj Tryz.prog 26 [.int .i64 (0),.int .i64 (0),.int .i64 (0)]:=⟨_,Tryz.zeroValue26,rfl⟩
instance:Qy Tryz.prog 26 [.int .i64 (0),.int .i64 (0),.int .i64 (0)]:=⟨Ari⟩
theorem Ap4:Kj Tryz.prog 218 []:=⟨_,Tryz.zeroValue218,rfl⟩
instance:Qy Tryz.prog 218 []:=⟨Ap4⟩
theorem Ap5:Lb Tryz.prog 218 0:=.mk Tryz.underlying218 rfl (show Tryz.prog.info? 218=some Tryz.t218 from by kernel_rfl) (by kernel_rfl)
instance:AggI Tryz.prog 218 0:=⟨Ap5⟩
noncomputable def Cp (p0:List Aq) (p1:List Aq):Int→Option (Sum Int (Sum Unit Bool)):=fun s0 =>
 if s0 < ((((p0).length:Nat):Int)) then (bnd (idx p0 s0) fun x0 =>
 bnd (idx p1 s0) fun x1 =>
 if ((((x0.a0) == (x1.a0)) && (((x0.a1) == (x1.a1)) && (((x0.a2) == (x1.a2)) && true))))=true then (some (.inl (w64 (s0+1))))
 else (some (.inr (.inr (false)))))
 else (some (.inr (.inl ())))
noncomputable def Ct (p0:List Aq) (p1:List Aq):Option Bool :=
 if ((((p0).length:Nat):Int))=((((p1).length:Nat):Int)) then (jn (fun (s5:Unit) =>
 some true)
 (fun j5=>bnd (lfix (Cp p0 p1) 0) fun t0 =>
 (match t0 with
 | (.inl z0)=>j5 z0
 | (.inr (z0))=>some z0
 )))
 else (some false)
noncomputable def De (p0:List Aa) (p1:List Aa):Int→Option (Sum Int (Sum Unit Bool)):=fun s0 =>
 if s0 < ((((p0).length:Nat):Int)) then (bnd (idx p0 s0) fun x0 =>
 bnd (idx p1 s0) fun x1 =>
 if ((((x0.a0) == (x1.a0)) && (((x0.a1) == (x1.a1)) && true)))=true then (some (.inl (w64 (s0+1))))
 else (some (.inr (.inr (false)))))
 else (some (.inr (.inl ())))
noncomputable def Cu (p0:List Aa) (p1:List Aa):Option Bool :=
 if ((((p0).length:Nat):Int))=((((p1).length:Nat):Int)) then (jn (fun (s5:Unit) =>
 some true)
 (fun j5=>bnd (lfix (De p0 p1) 0) fun t0 =>
 (match t0 with
 | (.inl z0)=>j5 z0
 | (.inr (z0))=>some z0
 )))
 else (some false)
noncomputable def Pq (p0:Ci):Option Int :=
 bnd (Fb p0.V p0.Lines) fun r2 =>
 jn (fun (s4:Bool) =>
 if s4=true then (some 64)
 else (some 0))
 (fun j4=>if r2.2=0 then (bnd (Ct r2.1.T p0.T) fun r0 =>
 if r0=true then (bnd (Cu r2.1.Lines p0.Lines) fun r1 =>
 j4 (!(r1)))
 else (j4 true))
 else (j4 true))
structure Bq where
 a0:Ab
 a1:Ab
 a2:Ab
noncomputable def Ju (p0:Ci) (p1:Aq):Option Bq :=
 bnd (idx p0.V p1.a0) fun x4 =>
 bnd (idx p0.V p1.a1) fun x0 =>
 bnd (idx p0.V p1.a2) fun x1 =>
 some (⟨x4,x0,x1⟩:Bq)
noncomputable def Ed (p0:Bq) (p1:Ac):Int→Option (Sum Int (Sum Unit Bool)):=fun s0 =>
 if s0 < 3 then (bnd (idx [(⟨p0.a0.X,p0.a0.Y,p0.a0.Z⟩:Ab),(⟨p0.a1.X,p0.a1.Y,p0.a1.Z⟩:Ab),(⟨p0.a2.X,p0.a2.Y,p0.a2.Z⟩:Ab)] s0) fun x0 =>
 bnd (idx [(⟨p0.a0.X,p0.a0.Y,p0.a0.Z⟩:Ab),(⟨p0.a1.X,p0.a1.Y,p0.a1.Z⟩:Ab),(⟨p0.a2.X,p0.a2.Y,p0.a2.Z⟩:Ab)] (Int.tmod (w64 (s0+1)) 3)) fun x1 =>
 bnd (Ej x0) fun r0 =>
 bnd (Ej x1) fun r1 =>
 bnd (Gk r0 r1 p1) fun r2 =>
 if r2 < 0 then (some (.inr (.inr (false))))
 else (some (.inl (w64 (s0+1)))))
 else (some (.inr (.inl ())))
noncomputable def Ky (p0:Bq) (p1:Ac):Option Bool :=
 jn (fun (s2:Unit) =>
 some true)
 (fun j2=>bnd (lfix (Ed p0 p1) 0) fun t0 =>
 (match t0 with
 | (.inl z0)=>j2 z0
 | (.inr (z0))=>some z0
 ))
noncomputable def Nf (p0:Ci) (p1:Ac):Int→Option (Sum Int (Sum Unit Int)):=fun s0 =>
 if s0 < ((((p0.T).length:Nat):Int)) then (bnd (idx p0.T s0) fun x0 =>
 bnd (Ju p0 x0) fun r0 =>
 bnd (Ky (⟨(⟨r0.a0.X,r0.a0.Y,r0.a0.Z⟩:Ab),(⟨r0.a1.X,r0.a1.Y,r0.a1.Z⟩:Ab),(⟨r0.a2.X,r0.a2.Y,r0.a2.Z⟩:Ab)⟩:Bq) p1) fun r1 =>
 if r1=true then (some (.inr (.inr (s0))))
 else (some (.inl (w64 (s0+1)))))
 else (some (.inr (.inl ())))
noncomputable def Rj (p0:Ci) (p1:Ac):Option Int :=
 jn (fun (s2:Unit) =>
 some (-1))
 (fun j2=>bnd (lfix (Nf p0 p1) 0) fun t0 =>
 (match t0 with
 | (.inl z0)=>j2 z0
 | (.inr (z0))=>some z0
 ))
noncomputable def Pb (p0:Ci) (p1:Ac):Option (Int × Int) :=
 bnd (Pq p0) fun r3 =>
 if r3=0 then (bnd (Mg p1 p1 p1) fun r9 =>
 if r9.2=0 then (bnd (Rj p0 p1) fun r0 =>
 if r0 < 0 then (some (0,65))
 else (some (r0,0)))
 else (some (0,r9.2)))
 else (some (0,r3))
structure Bb where
noncomputable def Iw (p0:Bb) (p1:Am) (p2:Am):Option Am :=
 bnd (Qt p1 p2) fun r5 =>
 some r5.1
noncomputable def Ha (p0:Bb) (p1:Am) (p2:Am):Option Am :=
 bnd (Qu p1 p2) fun r5 =>
 some r5.1
noncomputable def Et (p0:Bb) (p1:Am) (p2:Am):Option Am :=
 bnd (Qv p1 p2) fun r5 =>
 some r5.1
noncomputable def Lv (p0:Bb) (p1:Am) (p2:Am):Option Am :=
 bnd (Qw p1 p2) fun r5 =>
 some r5.1
noncomputable def Cs (p0:Bb) (p1:Int):Option Am :=
 bnd (Gx p1) fun r3 =>
 some r3
noncomputable def Up (p0:Ac) (p1:Ac) (p2:Ac):Option Int :=
 some (w64 ((w64 ((w64 (p1.X-p0.X))*(w64 (p2.Y-p0.Y))))-(w64 ((w64 (p1.Y-p0.Y))*(w64 (p2.X-p0.X))))))
noncomputable def Mk (p0:Ab) (p1:Bool):Option Int :=
 if p1=true then (some p0.Z.Hi)
 else (some p0.Z.Lo)
noncomputable def Jv (p0:Bq) (p1:Am) (p2:Am) (p3:Bool):Option Am :=
 bnd (Ej (⟨p0.a0.X,p0.a0.Y,p0.a0.Z⟩:Ab)) fun r6 =>
 bnd (Ej (⟨p0.a1.X,p0.a1.Y,p0.a1.Z⟩:Ab)) fun r9 =>
 bnd (Ej (⟨p0.a2.X,p0.a2.Y,p0.a2.Z⟩:Ab)) fun r0 =>
 bnd (Up r6 r9 r0) fun r1 =>
 bnd (Cs (⟨⟩:Bb) r1) fun r2 =>
 bnd (Cs (⟨⟩:Bb) r6.X) fun r3 =>
 bnd (Ha (⟨⟩:Bb) p1 r3) fun r4 =>
 bnd (Cs (⟨⟩:Bb) r6.Y) fun r5 =>
 bnd (Ha (⟨⟩:Bb) p2 r5) fun r7 =>
 bnd (Cs (⟨⟩:Bb) (w64 (r0.Y-r6.Y))) fun r8 =>
 bnd (Et (⟨⟩:Bb) r4 r8) fun r82 =>
 bnd (Cs (⟨⟩:Bb) (w64 (r0.X-r6.X))) fun r89 =>
 bnd (Et (⟨⟩:Bb) r7 r89) fun r10 =>
 bnd (Ha (⟨⟩:Bb) r82 r10) fun r11 =>
 bnd (Cs (⟨⟩:Bb) (w64 (r9.X-r6.X))) fun r13 =>
 bnd (Et (⟨⟩:Bb) r13 r7) fun r14 =>
 bnd (Cs (⟨⟩:Bb) (w64 (r9.Y-r6.Y))) fun r15 =>
 bnd (Et (⟨⟩:Bb) r15 r4) fun r16 =>
 bnd (Ha (⟨⟩:Bb) r14 r16) fun r17 =>
 bnd (Mk (⟨p0.a0.X,p0.a0.Y,p0.a0.Z⟩:Ab) p3) fun r19 =>
 bnd (Mk (⟨p0.a1.X,p0.a1.Y,p0.a1.Z⟩:Ab) p3) fun r20 =>
 bnd (Cs (⟨⟩:Bb) (w64 (r20-r19))) fun r22 =>
 bnd (Et (⟨⟩:Bb) r11 r22) fun r23 =>
 bnd (Mk (⟨p0.a2.X,p0.a2.Y,p0.a2.Z⟩:Ab) p3) fun r24 =>
 bnd (Cs (⟨⟩:Bb) (w64 (r24-r19))) fun r25 =>
 bnd (Et (⟨⟩:Bb) r17 r25) fun r26 =>
 bnd (Iw (⟨⟩:Bb) r23 r26) fun r27 =>
 bnd (Cs (⟨⟩:Bb) r19) fun r28 =>
 bnd (Lv (⟨⟩:Bb) r27 r2) fun r30 =>
 bnd (Iw (⟨⟩:Bb) r28 r30) fun r31 =>
 some r31
noncomputable def Og (p0:Ci) (p1:Ac):Option (Am × Am × Int) :=
 bnd (Pb p0 p1) fun r5 =>
 if r5.2=0 then (jn (fun (s6:Int × Int × Int × Int × Int × Int × Int × Int × Int × Int × Int × Int) =>
 jn (fun (s7:Bool × (List Int) × (List Int) × Bool × (List Int) × (List Int)) =>
 bnd (Jv (⟨(⟨s6.1,s6.2.1,(⟨s6.2.2.1,s6.2.2.2.1⟩:Be)⟩:Ab),(⟨s6.2.2.2.2.1,s6.2.2.2.2.2.1,(⟨s6.2.2.2.2.2.2.1,s6.2.2.2.2.2.2.2.1⟩:Be)⟩:Ab),(⟨s6.2.2.2.2.2.2.2.2.1,s6.2.2.2.2.2.2.2.2.2.1,(⟨s6.2.2.2.2.2.2.2.2.2.2.1,s6.2.2.2.2.2.2.2.2.2.2.2⟩:Be)⟩:Ab)⟩:Bq) (⟨s7.1,s7.2.1,s7.2.2.1⟩:Am) (⟨s7.2.2.2.1,s7.2.2.2.2.1,s7.2.2.2.2.2⟩:Am) false) fun r0 =>
 bnd (Jv (⟨(⟨s6.1,s6.2.1,(⟨s6.2.2.1,s6.2.2.2.1⟩:Be)⟩:Ab),(⟨s6.2.2.2.2.1,s6.2.2.2.2.2.1,(⟨s6.2.2.2.2.2.2.1,s6.2.2.2.2.2.2.2.1⟩:Be)⟩:Ab),(⟨s6.2.2.2.2.2.2.2.2.1,s6.2.2.2.2.2.2.2.2.2.1,(⟨s6.2.2.2.2.2.2.2.2.2.2.1,s6.2.2.2.2.2.2.2.2.2.2.2⟩:Be)⟩:Ab)⟩:Bq) (⟨s7.1,s7.2.1,s7.2.2.1⟩:Am) (⟨s7.2.2.2.1,s7.2.2.2.2.1,s7.2.2.2.2.2⟩:Am) true) fun r1 =>
 some (r0,r1,0))
 (fun j7=>bnd (Gx p1.X) fun r2 =>
 bnd (Gx p1.Y) fun r3 =>
 j7 (r2.Neg,r2.Num,r2.Den,r3.Neg,r3.Num,r3.Den)))
 (fun j6=>bnd (idx p0.T r5.1) fun x0 =>
 bnd (Ju p0 x0) fun r4 =>
 j6 (r4.a0.X,r4.a0.Y,r4.a0.Z.Lo,r4.a0.Z.Hi,r4.a1.X,r4.a1.Y,r4.a1.Z.Lo,r4.a1.Z.Hi,r4.a2.X,r4.a2.Y,r4.a2.Z.Lo,r4.a2.Z.Hi)))
 else (some ((⟨false,([]:List Int),([]:List Int)⟩:Am),(⟨false,([]:List Int),([]:List Int)⟩:Am),r5.2))
noncomputable def Jn (p0:Ci) (p1:Ac):Option (Be × Int) :=
 bnd (Og p0 p1) fun r4 =>
 if r4.2.2=0 then (bnd (Ms r4.1 r4.2.1) fun r0 =>
 some (r0.1,r0.2))
 else (some ((⟨0,0⟩:Be),r4.2.2))
set_option maxHeartbeats 1000000 in
set_option maxRecDepth 100000 in
instance slices_Equal____3_int__3_int__c (p0:List Aq) (p1:List Aq):Con (Ct p0 p1) Tryz.prog 158 (fun K vs=>∃ (A0_0:Option Addr) (c0_0:Nat) (A0_1:Option Addr) (c0_1:Nat),vs=[.slice (A0_0) ((p0).length) (c0_0),.slice (A0_1) ((p1).length) (c0_1)]∧Has K A0_0 (p0).length c0_0 3 Bl (p0)∧Has K A0_1 (p1).length c0_1 3 Bl (p1)∧True) (fun _ r=>fun v Ln=>v = .bool (r)∧Ln=[]∧True):=⟨by
 rintro K _ r ⟨A0_0,c0_0,A0_1,c0_1,rfl,ha0,ha1,-⟩ hx w hK;replace ha0:=Has.lo ha0 hK;replace ha1:=Has.lo ha1 hK;unfold Ct at hx;have:=dl 6 [0,0,0,1,0,0,0,1,0] [0,1,2,3,4,5,6,7,8];refine CtS Tryz.ntmps158 Tryz.results158 ?_;refine pre ?_;intros;rename_i hx
 refine Cq2 (s:=10) hx rfl (fun _ hx=>?_) (fun _ hx=>?_)
 ·exact au
 ·refine pre ?_;intros;rename_i hx
  apply Jr (γ:=Unit) hx [] (fun s5 y5 f=>f) [999] (fun s5 y5 l=>l);exact kk
  ·intro s5 y5 hx;exact au
  ·intro _ hx;refine pre ?_;intros;rename_i hx
   apply Lr (γ:=Unit) hx [0,1,12] (fun s33 y33 f=>(13,.int .i64 (s33))::f) [999] (fun s33 y33 l=>l) ();exact kk;exact sk;intro s33 y33 x33 hx _;unfold Cp at hx
   exact au⟩
set_option maxHeartbeats 1000000 in
set_option maxRecDepth 100000 in
instance slices_Equal____2_int__2_int__c (p0:List Aa) (p1:List Aa):Con (Cu p0 p1) Tryz.prog 159 (fun K vs=>∃ (A0_0:Option Addr) (c0_0:Nat) (A0_1:Option Addr) (c0_1:Nat),vs=[.slice (A0_0) ((p0).length) (c0_0),.slice (A0_1) ((p1).length) (c0_1)]∧Has K A0_0 (p0).length c0_0 2 Aw (p0)∧Has K A0_1 (p1).length c0_1 2 Aw (p1)∧True) (fun _ r=>fun v Ln=>v = .bool (r)∧Ln=[]∧True):=⟨by
 rintro K _ r ⟨A0_0,c0_0,A0_1,c0_1,rfl,ha0,ha1,-⟩ hx w hK;replace ha0:=Has.lo ha0 hK;replace ha1:=Has.lo ha1 hK;unfold Cu at hx;have:=dl 6 [0,0,0,1,0,0,0,1,0] [0,1,2,3,4,5,6,7,8];refine CtS Tryz.ntmps159 Tryz.results159 ?_;refine pre ?_;intros;rename_i hx
 refine Cq2 (s:=10) hx rfl (fun _ hx=>?_) (fun _ hx=>?_)
 ·exact au
 ·refine pre ?_;intros;rename_i hx
  apply Jr (γ:=Unit) hx [] (fun s5 y5 f=>f) [999] (fun s5 y5 l=>l);exact kk
  ·intro s5 y5 hx;exact au
  ·intro _ hx;refine pre ?_;intros;rename_i hx
   apply Lr (γ:=Unit) hx [0,1,12] (fun s33 y33 f=>(13,.int .i64 (s33))::f) [999] (fun s33 y33 l=>l) ();exact kk;exact sk;intro s33 y33 x33 hx _;unfold De at hx
   exact au⟩
set_option maxHeartbeats 1000000 in
set_option maxRecDepth 100000 in
instance mesh_Check_c (p0:Ci):Con (Pq p0) Tryz.prog 84 (fun K vs=>∃ (A0_0:Option Addr) (c0_0:Nat) (A0_1:Option Addr) (c0_1:Nat) (A0_2:Option Addr) (c0_2:Nat),vs=[.agg #[.slice (A0_0) ((p0.V).length) (c0_0),.slice (A0_1) ((p0.T).length) (c0_1),.slice (A0_2) ((p0.Lines).length) (c0_2)]]∧Has K A0_0 (p0.V).length c0_0 4 Ao (p0.V)∧Has K A0_1 (p0.T).length c0_1 3 Bl (p0.T)∧Has K A0_2 (p0.Lines).length c0_2 2 Aw (p0.Lines)∧True) (fun _ r=>fun v Ln=>v = .int .i64 (r)∧Ln=[]∧True):=⟨by
 rintro K _ r ⟨A0_0,c0_0,A0_1,c0_1,A0_2,c0_2,rfl,ha0,ha1,ha2,-⟩ hx w hK;replace ha0:=Has.lo ha0 hK;replace ha1:=Has.lo ha1 hK;replace ha2:=Has.lo ha2 hK;unfold Pq at hx;refine CtS Tryz.ntmps84 Tryz.results84 ?_;refine pre ?_;intros;rename_i hx
 refine Gh ?_;refine pre ?_;intros;rename_i hx
 apply Jr (γ:=Unit) hx [] (fun s4 y4 f=>(30,.bool (s4))::f) [999] (fun s4 y4 l=>l);exact kk
 ·intro s4 y4 hx;exact au
 ·intro _ hx;exact au⟩
set_option maxRecDepth 100000 in
instance Abg (p0:Ci) (p1:Aq):Con (Ju p0 p1) Tryz.prog 121 (fun K vs=>∃ (A0_0:Option Addr) (c0_0:Nat) (A0_1:Option Addr) (c0_1:Nat) (A0_2:Option Addr) (c0_2:Nat),vs=[.agg #[.slice (A0_0) ((p0.V).length) (c0_0),.slice (A0_1) ((p0.T).length) (c0_1),.slice (A0_2) ((p0.Lines).length) (c0_2)],.agg #[.int .i64 (p1.a0),.int .i64 (p1.a1),.int .i64 (p1.a2)]]∧Has K A0_0 (p0.V).length c0_0 4 Ao (p0.V)∧Has K A0_1 (p0.T).length c0_1 3 Bl (p0.T)∧Has K A0_2 (p0.Lines).length c0_2 2 Aw (p0.Lines)∧True) (fun _ r=>fun v Ln=>v = .agg #[.int .i64 (r.a0.X),.int .i64 (r.a0.Y),.int .i64 (r.a0.Z.Lo),.int .i64 (r.a0.Z.Hi),.int .i64 (r.a1.X),.int .i64 (r.a1.Y),.int .i64 (r.a1.Z.Lo),.int .i64 (r.a1.Z.Hi),.int .i64 (r.a2.X),.int .i64 (r.a2.Y),.int .i64 (r.a2.Z.Lo),.int .i64 (r.a2.Z.Hi)]∧Ln=[]∧True):=⟨by
 rintro K _ r ⟨A0_0,c0_0,A0_1,c0_1,A0_2,c0_2,rfl,ha0,ha1,ha2,-⟩ hx w hK;replace ha0:=Has.lo ha0 hK;replace ha1:=Has.lo ha1 hK;replace ha2:=Has.lo ha2 hK;unfold Ju at hx;have:=dl 1 [0,1,0,1,0,1,0,1,0,1,0,1,0,1,0,1,0,1,0,3] [0,1,2,3,4,5,6,7,8,9,10,11,12,13,14,15,16,17,18,19];refine CtS Tryz.ntmps121 Tryz.results121 ?_;exact au⟩
theorem St (p0:Ci) (p1:Aq) {K:List Ent} {A0_0:Option Addr} {c0_0:Nat} {A0_1:Option Addr} {c0_1:Nat} {A0_2:Option Addr} {c0_2:Nat} (ha0:Has K A0_0 (p0.V).length c0_0 4 Ao (p0.V)) (ha1:Has K A0_1 (p0.T).length c0_1 3 Bl (p0.T)) (ha2:Has K A0_2 (p0.Lines).length c0_2 2 Aw (p0.Lines)) {r:Bq} (hx:Ju p0 p1=some r) (w:World) (hK:∀ e∈K,Ent.ok w e):CtL Tryz.prog 121 [.agg #[.slice (A0_0) ((p0.V).length) (c0_0),.slice (A0_1) ((p0.T).length) (c0_1),.slice (A0_2) ((p0.Lines).length) (c0_2)],.agg #[.int .i64 (p1.a0),.int .i64 (p1.a1),.int .i64 (p1.a2)]] w fun v Ln=>v = .agg #[.int .i64 (r.a0.X),.int .i64 (r.a0.Y),.int .i64 (r.a0.Z.Lo),.int .i64 (r.a0.Z.Hi),.int .i64 (r.a1.X),.int .i64 (r.a1.Y),.int .i64 (r.a1.Z.Lo),.int .i64 (r.a1.Z.Hi),.int .i64 (r.a2.X),.int .i64 (r.a2.Y),.int .i64 (r.a2.Z.Lo),.int .i64 (r.a2.Z.Hi)]∧Ln=[]∧True:=(Abg p0 p1).h K _ _ ⟨_,_,_,_,_,_,rfl,ha0,ha1,ha2,trivial⟩ hx w hK
set_option maxRecDepth 100000 in
theorem Abh (p0:Bq) (p1:Ac)  {r:Bool} (hx:Ky p0 p1=some r) (w:World):CtL Tryz.prog 274 [.agg #[.int .i64 (p0.a0.X),.int .i64 (p0.a0.Y),.int .i64 (p0.a0.Z.Lo),.int .i64 (p0.a0.Z.Hi),.int .i64 (p0.a1.X),.int .i64 (p0.a1.Y),.int .i64 (p0.a1.Z.Lo),.int .i64 (p0.a1.Z.Hi),.int .i64 (p0.a2.X),.int .i64 (p0.a2.Y),.int .i64 (p0.a2.Z.Lo),.int .i64 (p0.a2.Z.Hi)],.agg #[.int .i64 (p1.X),.int .i64 (p1.Y)]] w fun v Ln=>v = .bool (r)∧Ln=[]∧True:=by
 refine CtL.mk 23 Tryz.func274 rfl Tryz.ntmps274 (by kernel_rfl) rfl ?_;show T 23 _ [(0,.agg #[.int .i64 (p0.a0.X),.int .i64 (p0.a0.Y),.int .i64 (p0.a0.Z.Lo),.int .i64 (p0.a0.Z.Hi),.int .i64 (p0.a1.X),.int .i64 (p0.a1.Y),.int .i64 (p0.a1.Z.Lo),.int .i64 (p0.a1.Z.Hi),.int .i64 (p0.a2.X),.int .i64 (p0.a2.Y),.int .i64 (p0.a2.Z.Lo),.int .i64 (p0.a2.Z.Hi)]),(1,.agg #[.int .i64 (p1.X),.int .i64 (p1.Y)])] _;unfold Ky at hx;refine Y2 ?_;refine T_x (Di rfl rfl rfl (fun g1=>?_));refine T_x (Di rfl rfl rfl (fun g2=>?_));refine Y3 ?_;refine Tj (γ:=Unit) hx (fun s2 y2=>[]) (fun s2 y2=>[]++[.old w]) (fun s2 y2=>True) (fun s2 y2 hx0 hG0=>?_) (fun j2 hx=>?_)
 ·refine Y6 ?_;obtain rfl:=Option.some.inj hx0;exact Bz (rs:=[.tmp 4]) Tryz.results274 (.tmp rfl (.nil)) (Ln:=[]) ⟨rfl,rfl,trivial⟩ (Bp) (by exact .refl)
 ·refine Y6 ?_;obtain ⟨t0,hl0,ho0⟩:=Ae hx;refine Lp (σ:=Int) (γ:=Unit) hl0 (fun s0 y0=>[(2,.pointer (some ⟨g1,0,none⟩)),(3,.pointer (some ⟨g2,0,none⟩)),(6,.int .i64 (s0))]) (fun s0 y0=>[.m g2 28 [.int .i64 (p1.X),.int .i64 (p1.Y)],.m g1 156 [.int .i64 (p0.a0.X),.int .i64 (p0.a0.Y),.int .i64 (p0.a0.Z.Lo),.int .i64 (p0.a0.Z.Hi),.int .i64 (p0.a1.X),.int .i64 (p0.a1.Y),.int .i64 (p0.a1.Z.Lo),.int .i64 (p0.a1.Z.Hi),.int .i64 (p0.a2.X),.int .i64 (p0.a2.Y),.int .i64 (p0.a2.Z.Lo),.int .i64 (p0.a2.Z.Hi)]]++[.old w]) (fun s0 y0=>True) () trivial (by exact .pick 0 rfl (.pick 0 rfl (.refl))) ?_;intro s0 y0 hG1 x0 hx1 ht0;unfold Ed at hx1;refine Y6 ?_;refine Ti hx1 (s:=7) rfl (fun h0 hx2=>?_) (fun h0 hx3=>?_)
  ·refine Y12 ?_;refine T_dr [0,0,1,2,0,0,0,0,1,2,1,2,0] (.q 0 (.q 1 (.q 2 (.q 4 (.q 5 (.q 6 (.q 7 (.q 8 (.q 10 (.e 3 (.e 9 (.e 11 (.q 12 (.done)) (.stop)) (.stop)) (.stop))))))))))) mixed (by kernel_rfl) (by kernel_rfl) ?_;refine Y ?_;obtain ⟨x1,h1,hx4⟩:=Ae hx2;refine P_p rfl rfl (Bs rfl rfl Ag8 (Uu h1).1 (Uu h1).2 rfl) rfl ?_;refine P_q rfl rfl (Ada Ao (o:=0) rfl (i:=1) rfl h1 rfl (fun _=>rfl) rfl Yv) rfl ?_;refine Y2 ?_;refine P_p rfl rfl (Aey rfl rfl (by decide)) rfl ?_;obtain ⟨x2,h2,hx5⟩:=Ae hx4;refine P_p rfl rfl (Bs rfl rfl Ag8 (Uu h2).1 (Uu h2).2 rfl) rfl ?_;refine P_q rfl rfl (Ada Ao (o:=0) rfl (i:=1) rfl h2 rfl (fun _=>rfl) rfl Yv) rfl ?_;refine P_q rfl rfl (Bg rfl (i:=0) rfl rfl Afq) rfl ?_;obtain ⟨r0,h3,hx6⟩:=Ae hx5;refine Pc (fun w1 hw1=>Mj x1  h3 w1) ?_;obtain ⟨r1,h4,hx7⟩:=Ae hx6;refine Pc (fun w1 hw1=>Mj x2  h4 w1) ?_;obtain ⟨r2,h5,hx8⟩:=Ae hx7;refine Pc (fun w1 hw1=>Lg r0 r1 p1  h5 w1) ?_;refine Y3 ?_;refine Ti hx8 (s:=21) rfl (fun h6 hx9=>?_) (fun h6 hx46=>?_)
   ·refine Y9 ?_;obtain rfl:=Gl ht0 hx9;refine Y3 ?_;obtain rfl:=Option.some.inj ho0;exact Bz (rs:=[.tmp 4]) Tryz.results274 (.tmp rfl (.nil)) (Ln:=[]) ⟨rfl,rfl,trivial⟩ (Bp) (by exact .drop 0 rfl (.drop 0 rfl (.refl)))
   ·refine Y8 ?_;exact Rp (w64 (s0+1)) () hx46 trivial (by exact .pick 0 rfl (.pick 0 rfl (.refl)))
  ·refine Y3 ?_;obtain rfl:=Gl ht0 hx3;refine Y2 ?_;exact Mt () () ho0 trivial (by exact .drop 0 rfl (.drop 0 rfl (.refl)))
set_option maxHeartbeats 1000000 in
set_option maxRecDepth 100000 in
instance mesh_covers_c (p0:Bq) (p1:Ac):Con (Ky p0 p1) Tryz.prog 274 (fun _ vs=>vs=[.agg #[.int .i64 (p0.a0.X),.int .i64 (p0.a0.Y),.int .i64 (p0.a0.Z.Lo),.int .i64 (p0.a0.Z.Hi),.int .i64 (p0.a1.X),.int .i64 (p0.a1.Y),.int .i64 (p0.a1.Z.Lo),.int .i64 (p0.a1.Z.Hi),.int .i64 (p0.a2.X),.int .i64 (p0.a2.Y),.int .i64 (p0.a2.Z.Lo),.int .i64 (p0.a2.Z.Hi)],.agg #[.int .i64 (p1.X),.int .i64 (p1.Y)]]) (fun _ r=>fun v Ln=>v = .bool (r)∧Ln=[]∧True):=⟨by
 rintro _ _ r rfl hx w hK;exact Abh p0 p1 hx w⟩
set_option maxHeartbeats 1000000 in
set_option maxRecDepth 100000 in
instance mesh_find_c (p0:Ci) (p1:Ac):Con (Rj p0 p1) Tryz.prog 188 (fun K vs=>∃ (A0_0:Option Addr) (c0_0:Nat) (A0_1:Option Addr) (c0_1:Nat) (A0_2:Option Addr) (c0_2:Nat),vs=[.agg #[.slice (A0_0) ((p0.V).length) (c0_0),.slice (A0_1) ((p0.T).length) (c0_1),.slice (A0_2) ((p0.Lines).length) (c0_2)],.agg #[.int .i64 (p1.X),.int .i64 (p1.Y)]]∧Has K A0_0 (p0.V).length c0_0 4 Ao (p0.V)∧Has K A0_1 (p0.T).length c0_1 3 Bl (p0.T)∧Has K A0_2 (p0.Lines).length c0_2 2 Aw (p0.Lines)∧True) (fun _ r=>fun v Ln=>v = .int .i64 (r)∧Ln=[]∧True):=⟨by
 rintro K _ r ⟨A0_0,c0_0,A0_1,c0_1,A0_2,c0_2,rfl,ha0,ha1,ha2,-⟩ hx w hK;replace ha0:=Has.lo ha0 hK;replace ha1:=Has.lo ha1 hK;replace ha2:=Has.lo ha2 hK;unfold Rj at hx;have:=dl 4 [1,1,2,1,2] [0,1,3,2,4];refine CtS Tryz.ntmps188 Tryz.results188 ?_;refine pre ?_;intros;rename_i hx
 refine Gh ?_;refine pre ?_;intros;rename_i hx
 apply Jr (γ:=Unit) hx [] (fun s2 y2 f=>f) [999] (fun s2 y2 l=>l);exact kk
 ·intro s2 y2 hx;exact au
 ·intro _ hx;refine pre ?_;intros;rename_i hx
  apply Lr (γ:=Unit) hx [2,3,8,9] (fun s0 y0 f=>(10,.int .i64 (s0))::f) [0,1,999] (fun s0 y0 l=>l) ();exact kk;exact sk;intro s0 y0 x0 hx _;unfold Nf at hx
  exact au⟩
set_option maxHeartbeats 1000000 in
set_option maxRecDepth 100000 in
instance Afw (p0:Ci) (p1:Ac):Con (Pb p0 p1) Tryz.prog 120 (fun K vs=>∃ (A0_0:Option Addr) (c0_0:Nat) (A0_1:Option Addr) (c0_1:Nat) (A0_2:Option Addr) (c0_2:Nat),vs=[.agg #[.slice (A0_0) ((p0.V).length) (c0_0),.slice (A0_1) ((p0.T).length) (c0_1),.slice (A0_2) ((p0.Lines).length) (c0_2)],.agg #[.int .i64 (p1.X),.int .i64 (p1.Y)]]∧Has K A0_0 (p0.V).length c0_0 4 Ao (p0.V)∧Has K A0_1 (p0.T).length c0_1 3 Bl (p0.T)∧Has K A0_2 (p0.Lines).length c0_2 2 Aw (p0.Lines)∧True) (fun _ r=>fun v Ln=>v = .tuple #[.int .i64 (r.1),.int .i64 (r.2)]∧Ln=[]∧True):=⟨by
 rintro K _ r ⟨A0_0,c0_0,A0_1,c0_1,A0_2,c0_2,rfl,ha0,ha1,ha2,-⟩ hx w hK;replace ha0:=Has.lo ha0 hK;replace ha1:=Has.lo ha1 hK;replace ha2:=Has.lo ha2 hK;unfold Pb at hx;refine CtS Tryz.ntmps120 Tryz.results120 ?_;exact au⟩
theorem Ad3 (p0:Ci) (p1:Ac) {K:List Ent} {A0_0:Option Addr} {c0_0:Nat} {A0_1:Option Addr} {c0_1:Nat} {A0_2:Option Addr} {c0_2:Nat} (ha0:Has K A0_0 (p0.V).length c0_0 4 Ao (p0.V)) (ha1:Has K A0_1 (p0.T).length c0_1 3 Bl (p0.T)) (ha2:Has K A0_2 (p0.Lines).length c0_2 2 Aw (p0.Lines)) {r:Int × Int} (hx:Pb p0 p1=some r) (w:World) (hK:∀ e∈K,Ent.ok w e):CtL Tryz.prog 120 [.agg #[.slice (A0_0) ((p0.V).length) (c0_0),.slice (A0_1) ((p0.T).length) (c0_1),.slice (A0_2) ((p0.Lines).length) (c0_2)],.agg #[.int .i64 (p1.X),.int .i64 (p1.Y)]] w fun v Ln=>v = .tuple #[.int .i64 (r.1),.int .i64 (r.2)]∧Ln=[]∧True:=(Afw p0 p1).h K _ _ ⟨_,_,_,_,_,_,rfl,ha0,ha1,ha2,trivial⟩ hx w hK
set_option maxRecDepth 100000 in
instance mesh_calc_add_c (p0:Bb) (p1:Am) (p2:Am):Con (Iw p0 p1 p2) Tryz.prog 196 (fun K vs=>∃ (A0_0:Option Addr) (c0_0:Nat) (A0_1:Option Addr) (c0_1:Nat) (A0_2:Option Addr) (c0_2:Nat) (A0_3:Option Addr) (c0_3:Nat),vs=[.agg #[],.agg #[.bool (p1.Neg),.slice (A0_0) ((p1.Num).length) (c0_0),.slice (A0_1) ((p1.Den).length) (c0_1)],.agg #[.bool (p2.Neg),.slice (A0_2) ((p2.Num).length) (c0_2),.slice (A0_3) ((p2.Den).length) (c0_3)]]∧Has K A0_0 (p1.Num).length c0_0 1 Ad (p1.Num)∧Has K A0_1 (p1.Den).length c0_1 1 Ad (p1.Den)∧Has K A0_2 (p2.Num).length c0_2 1 Ad (p2.Num)∧Has K A0_3 (p2.Den).length c0_3 1 Ad (p2.Den)∧True) (fun _ r=>fun v Ln=>∃ (A0:Option Addr) (c0:Nat) (A2:Option Addr) (c2:Nat),v = .agg #[.bool (r.Neg),.slice (A0) ((r.Num).length) (c0),.slice (A2) ((r.Den).length) (c2)]∧Ln=[.r A0 (r.Num).length c0 224 1 ((r.Num).flatMap Ad),.r A2 (r.Den).length c2 224 1 ((r.Den).flatMap Ad)]∧True):=⟨by
 rintro K _ r ⟨A0_0,c0_0,A0_1,c0_1,A0_2,c0_2,A0_3,c0_3,rfl,ha0,ha1,ha2,ha3,-⟩ hx w hK;replace ha0:=Has.lo ha0 hK;replace ha1:=Has.lo ha1 hK;replace ha2:=Has.lo ha2 hK;replace ha3:=Has.lo ha3 hK;unfold Iw at hx;refine CtS Tryz.ntmps196 Tryz.results196 ?_;exact au⟩
set_option maxRecDepth 100000 in
instance mesh_calc_sub_c (p0:Bb) (p1:Am) (p2:Am):Con (Ha p0 p1 p2) Tryz.prog 193 (fun K vs=>∃ (A0_0:Option Addr) (c0_0:Nat) (A0_1:Option Addr) (c0_1:Nat) (A0_2:Option Addr) (c0_2:Nat) (A0_3:Option Addr) (c0_3:Nat),vs=[.agg #[],.agg #[.bool (p1.Neg),.slice (A0_0) ((p1.Num).length) (c0_0),.slice (A0_1) ((p1.Den).length) (c0_1)],.agg #[.bool (p2.Neg),.slice (A0_2) ((p2.Num).length) (c0_2),.slice (A0_3) ((p2.Den).length) (c0_3)]]∧Has K A0_0 (p1.Num).length c0_0 1 Ad (p1.Num)∧Has K A0_1 (p1.Den).length c0_1 1 Ad (p1.Den)∧Has K A0_2 (p2.Num).length c0_2 1 Ad (p2.Num)∧Has K A0_3 (p2.Den).length c0_3 1 Ad (p2.Den)∧True) (fun _ r=>fun v Ln=>∃ (A0:Option Addr) (c0:Nat) (A2:Option Addr) (c2:Nat),v = .agg #[.bool (r.Neg),.slice (A0) ((r.Num).length) (c0),.slice (A2) ((r.Den).length) (c2)]∧Ln=[.r A0 (r.Num).length c0 224 1 ((r.Num).flatMap Ad),.r A2 (r.Den).length c2 224 1 ((r.Den).flatMap Ad)]∧True):=⟨by
 rintro K _ r ⟨A0_0,c0_0,A0_1,c0_1,A0_2,c0_2,A0_3,c0_3,rfl,ha0,ha1,ha2,ha3,-⟩ hx w hK;replace ha0:=Has.lo ha0 hK;replace ha1:=Has.lo ha1 hK;replace ha2:=Has.lo ha2 hK;replace ha3:=Has.lo ha3 hK;unfold Ha at hx;refine CtS Tryz.ntmps193 Tryz.results193 ?_;exact au⟩
set_option maxRecDepth 100000 in
instance mesh_calc_mul_c (p0:Bb) (p1:Am) (p2:Am):Con (Et p0 p1 p2) Tryz.prog 194 (fun K vs=>∃ (A0_0:Option Addr) (c0_0:Nat) (A0_1:Option Addr) (c0_1:Nat) (A0_2:Option Addr) (c0_2:Nat) (A0_3:Option Addr) (c0_3:Nat),vs=[.agg #[],.agg #[.bool (p1.Neg),.slice (A0_0) ((p1.Num).length) (c0_0),.slice (A0_1) ((p1.Den).length) (c0_1)],.agg #[.bool (p2.Neg),.slice (A0_2) ((p2.Num).length) (c0_2),.slice (A0_3) ((p2.Den).length) (c0_3)]]∧Has K A0_0 (p1.Num).length c0_0 1 Ad (p1.Num)∧Has K A0_1 (p1.Den).length c0_1 1 Ad (p1.Den)∧Has K A0_2 (p2.Num).length c0_2 1 Ad (p2.Num)∧Has K A0_3 (p2.Den).length c0_3 1 Ad (p2.Den)∧True) (fun _ r=>fun v Ln=>∃ (A0:Option Addr) (c0:Nat) (A2:Option Addr) (c2:Nat),v = .agg #[.bool (r.Neg),.slice (A0) ((r.Num).length) (c0),.slice (A2) ((r.Den).length) (c2)]∧Ln=[.r A0 (r.Num).length c0 224 1 ((r.Num).flatMap Ad),.r A2 (r.Den).length c2 224 1 ((r.Den).flatMap Ad)]∧True):=⟨by
 rintro K _ r ⟨A0_0,c0_0,A0_1,c0_1,A0_2,c0_2,A0_3,c0_3,rfl,ha0,ha1,ha2,ha3,-⟩ hx w hK;replace ha0:=Has.lo ha0 hK;replace ha1:=Has.lo ha1 hK;replace ha2:=Has.lo ha2 hK;replace ha3:=Has.lo ha3 hK;unfold Et at hx;refine CtS Tryz.ntmps194 Tryz.results194 ?_;exact au⟩
set_option maxRecDepth 100000 in
instance mesh_calc_div_c (p0:Bb) (p1:Am) (p2:Am):Con (Lv p0 p1 p2) Tryz.prog 197 (fun K vs=>∃ (A0_0:Option Addr) (c0_0:Nat) (A0_1:Option Addr) (c0_1:Nat) (A0_2:Option Addr) (c0_2:Nat) (A0_3:Option Addr) (c0_3:Nat),vs=[.agg #[],.agg #[.bool (p1.Neg),.slice (A0_0) ((p1.Num).length) (c0_0),.slice (A0_1) ((p1.Den).length) (c0_1)],.agg #[.bool (p2.Neg),.slice (A0_2) ((p2.Num).length) (c0_2),.slice (A0_3) ((p2.Den).length) (c0_3)]]∧Has K A0_0 (p1.Num).length c0_0 1 Ad (p1.Num)∧Has K A0_1 (p1.Den).length c0_1 1 Ad (p1.Den)∧Has K A0_2 (p2.Num).length c0_2 1 Ad (p2.Num)∧Has K A0_3 (p2.Den).length c0_3 1 Ad (p2.Den)∧True) (fun _ r=>fun v Ln=>∃ (A0:Option Addr) (c0:Nat) (A2:Option Addr) (c2:Nat),v = .agg #[.bool (r.Neg),.slice (A0) ((r.Num).length) (c0),.slice (A2) ((r.Den).length) (c2)]∧Ln=[.r A0 (r.Num).length c0 224 1 ((r.Num).flatMap Ad),.r A2 (r.Den).length c2 224 1 ((r.Den).flatMap Ad)]∧True):=⟨by
 rintro K _ r ⟨A0_0,c0_0,A0_1,c0_1,A0_2,c0_2,A0_3,c0_3,rfl,ha0,ha1,ha2,ha3,-⟩ hx w hK;replace ha0:=Has.lo ha0 hK;replace ha1:=Has.lo ha1 hK;replace ha2:=Has.lo ha2 hK;replace ha3:=Has.lo ha3 hK;unfold Lv at hx;refine CtS Tryz.ntmps197 Tryz.results197 ?_;exact au⟩
set_option maxRecDepth 100000 in
instance mesh_calc_num_c (p0:Bb) (p1:Int):Con (Cs p0 p1) Tryz.prog 191 (fun _ vs=>vs=[.agg #[],.int .i64 (p1)]) (fun _ r=>fun v Ln=>∃ (A0:Option Addr) (c0:Nat) (A2:Option Addr) (c2:Nat),v = .agg #[.bool (r.Neg),.slice (A0) ((r.Num).length) (c0),.slice (A2) ((r.Den).length) (c2)]∧Ln=[.r A0 (r.Num).length c0 224 1 ((r.Num).flatMap Ad),.r A2 (r.Den).length c2 224 1 ((r.Den).flatMap Ad)]∧True):=⟨by
 rintro _ _ r rfl hx w hK;unfold Cs at hx;refine CtS Tryz.ntmps191 Tryz.results191 ?_;exact au⟩
set_option maxRecDepth 100000 in
instance mesh_area_c (p0:Ac) (p1:Ac) (p2:Ac):Con (Up p0 p1 p2) Tryz.prog 192 (fun _ vs=>vs=[.agg #[.int .i64 (p0.X),.int .i64 (p0.Y)],.agg #[.int .i64 (p1.X),.int .i64 (p1.Y)],.agg #[.int .i64 (p2.X),.int .i64 (p2.Y)]]) (fun _ r=>fun v Ln=>v = .int .i64 (r)∧Ln=[]∧True):=⟨by
 rintro _ _ r rfl hx w hK;unfold Up at hx;refine CtS Tryz.ntmps192 Tryz.results192 ?_;exact au⟩
set_option maxRecDepth 100000 in
instance mesh_level_c (p0:Ab) (p1:Bool):Con (Mk p0 p1) Tryz.prog 195 (fun _ vs=>vs=[.agg #[.int .i64 (p0.X),.int .i64 (p0.Y),.int .i64 (p0.Z.Lo),.int .i64 (p0.Z.Hi)],.bool (p1)]) (fun _ r=>fun v Ln=>v = .int .i64 (r)∧Ln=[]∧True):=⟨by
 rintro _ _ r rfl hx w hK;unfold Mk at hx;refine CtS Tryz.ntmps195 Tryz.results195 ?_;exact au⟩
set_option maxHeartbeats 1000000 in
set_option maxRecDepth 100000 in
instance Ad4 (p0:Bq) (p1:Am) (p2:Am) (p3:Bool):Con (Jv p0 p1 p2 p3) Tryz.prog 123 (fun K vs=>∃ (A0_0:Option Addr) (c0_0:Nat) (A0_1:Option Addr) (c0_1:Nat) (A0_2:Option Addr) (c0_2:Nat) (A0_3:Option Addr) (c0_3:Nat),vs=[.agg #[.int .i64 (p0.a0.X),.int .i64 (p0.a0.Y),.int .i64 (p0.a0.Z.Lo),.int .i64 (p0.a0.Z.Hi),.int .i64 (p0.a1.X),.int .i64 (p0.a1.Y),.int .i64 (p0.a1.Z.Lo),.int .i64 (p0.a1.Z.Hi),.int .i64 (p0.a2.X),.int .i64 (p0.a2.Y),.int .i64 (p0.a2.Z.Lo),.int .i64 (p0.a2.Z.Hi)],.agg #[.bool (p1.Neg),.slice (A0_0) ((p1.Num).length) (c0_0),.slice (A0_1) ((p1.Den).length) (c0_1)],.agg #[.bool (p2.Neg),.slice (A0_2) ((p2.Num).length) (c0_2),.slice (A0_3) ((p2.Den).length) (c0_3)],.bool (p3)]∧Has K A0_0 (p1.Num).length c0_0 1 Ad (p1.Num)∧Has K A0_1 (p1.Den).length c0_1 1 Ad (p1.Den)∧Has K A0_2 (p2.Num).length c0_2 1 Ad (p2.Num)∧Has K A0_3 (p2.Den).length c0_3 1 Ad (p2.Den)∧True) (fun _ r=>fun v Ln=>∃ (A0:Option Addr) (c0:Nat) (A2:Option Addr) (c2:Nat),v = .agg #[.bool (r.Neg),.slice (A0) ((r.Num).length) (c0),.slice (A2) ((r.Den).length) (c2)]∧Ln=[.r A0 (r.Num).length c0 224 1 ((r.Num).flatMap Ad),.r A2 (r.Den).length c2 224 1 ((r.Den).flatMap Ad)]∧True):=⟨by
 rintro K _ r ⟨A0_0,c0_0,A0_1,c0_1,A0_2,c0_2,A0_3,c0_3,rfl,ha0,ha1,ha2,ha3,-⟩ hx w hK;replace ha0:=Has.lo ha0 hK;replace ha1:=Has.lo ha1 hK;replace ha2:=Has.lo ha2 hK;replace ha3:=Has.lo ha3 hK;unfold Jv at hx;have:=dl 2 [0,1,2,0,1,2,0,1,2,4,4,4,3,3,3] [0,1,3,4,6,7,2,5,8,9,10,11,12,13,14] [9,10,11];have:=dl 3 [1,1,1,1,2,2,4,3] [0,1,2,3,4,5,6,7] [6];have:=dl 4 [1,1,1,0,1,2,2,1,1,1,0,1,2,2,4,4,3,3] [0,1,2,3,4,7,8,9,10,11,5,6,12,13,14,15,16,17] [14,15];have:=dl 5 [1,1,1,1,0,1,0,1,0,2,2,1,1,1,0,1,0,1,0,2,2,2,4,3] [0,1,2,3,4,5,6,7,8,11,12,13,14,15,16,17,18,9,10,19,20,21,22,23] [22];have:=dl 6 [1,1,1,0,1,0,1,0,2,1,2,1,1,0,1,0,1,0,2,1,2,2,4,3] [0,1,2,3,4,5,6,7,9,11,12,13,14,15,16,17,19,8,10,18,20,21,22,23] [22];have:=dl 8 [1,1,1,1,0,1,0,2,0,0,2,2,1,1,1,0,1,0,2,0,0,2,2,2,4,3] [0,1,2,3,4,5,6,8,12,13,14,15,16,17,19,7,9,10,11,18,20,21,22,23,24,25] [24];have:=dl 9 [1,1,0,2,1,1,1,2,2,3] [0,1,2,4,5,6,3,7,8,9];refine CtS Tryz.ntmps123 Tryz.results123 ?_;exact au⟩
theorem Vf (p0:Bq) (p1:Am) (p2:Am) (p3:Bool) {K:List Ent} {A0_0:Option Addr} {c0_0:Nat} {A0_1:Option Addr} {c0_1:Nat} {A0_2:Option Addr} {c0_2:Nat} {A0_3:Option Addr} {c0_3:Nat} (ha0:Has K A0_0 (p1.Num).length c0_0 1 Ad (p1.Num)) (ha1:Has K A0_1 (p1.Den).length c0_1 1 Ad (p1.Den)) (ha2:Has K A0_2 (p2.Num).length c0_2 1 Ad (p2.Num)) (ha3:Has K A0_3 (p2.Den).length c0_3 1 Ad (p2.Den)) {r:Am} (hx:Jv p0 p1 p2 p3=some r) (w:World) (hK:∀ e∈K,Ent.ok w e):CtL Tryz.prog 123 [.agg #[.int .i64 (p0.a0.X),.int .i64 (p0.a0.Y),.int .i64 (p0.a0.Z.Lo),.int .i64 (p0.a0.Z.Hi),.int .i64 (p0.a1.X),.int .i64 (p0.a1.Y),.int .i64 (p0.a1.Z.Lo),.int .i64 (p0.a1.Z.Hi),.int .i64 (p0.a2.X),.int .i64 (p0.a2.Y),.int .i64 (p0.a2.Z.Lo),.int .i64 (p0.a2.Z.Hi)],.agg #[.bool (p1.Neg),.slice (A0_0) ((p1.Num).length) (c0_0),.slice (A0_1) ((p1.Den).length) (c0_1)],.agg #[.bool (p2.Neg),.slice (A0_2) ((p2.Num).length) (c0_2),.slice (A0_3) ((p2.Den).length) (c0_3)],.bool (p3)] w fun v Ln=>∃ (A0:Option Addr) (c0:Nat) (A2:Option Addr) (c2:Nat),v = .agg #[.bool (r.Neg),.slice (A0) ((r.Num).length) (c0),.slice (A2) ((r.Den).length) (c2)]∧Ln=[.r A0 (r.Num).length c0 224 1 ((r.Num).flatMap Ad),.r A2 (r.Den).length c2 224 1 ((r.Den).flatMap Ad)]∧True:=(Ad4 p0 p1 p2 p3).h K _ _ ⟨_,_,_,_,_,_,_,_,rfl,ha0,ha1,ha2,ha3,trivial⟩ hx w hK
set_option maxRecDepth 100000 in
theorem Abi (p0:Ci) (p1:Ac) {K:List Ent} {A0_0:Option Addr} {c0_0:Nat} {A0_1:Option Addr} {c0_1:Nat} {A0_2:Option Addr} {c0_2:Nat} (ha0:Has K A0_0 p0.V.length c0_0 4 Ao (p0.V)) (ha1:Has K A0_1 p0.T.length c0_1 3 Bl (p0.T)) (ha2:Has K A0_2 p0.Lines.length c0_2 2 Aw (p0.Lines)) {r:Am × Am × Int} (hx:Og p0 p1=some r) (w:World) (hK:∀ e∈K,Ent.ok w e):CtL Tryz.prog 60 [.agg #[.slice (A0_0) (p0.V.length) (c0_0),.slice (A0_1) (p0.T.length) (c0_1),.slice (A0_2) (p0.Lines.length) (c0_2)],.agg #[.int .i64 (p1.X),.int .i64 (p1.Y)]] w fun v Ln=>∃ (A0:Option Addr) (c0:Nat) (A2:Option Addr) (c2:Nat) (A4:Option Addr) (c4:Nat) (A6:Option Addr) (c6:Nat),v = .tuple #[.agg #[.bool (r.1.Neg),.slice (A0) (r.1.Num.length) (c0),.slice (A2) (r.1.Den.length) (c2)],.agg #[.bool (r.2.1.Neg),.slice (A4) (r.2.1.Num.length) (c4),.slice (A6) (r.2.1.Den.length) (c6)],.int .i64 (r.2.2)]∧Ln=[.r A0 r.1.Num.length c0 224 1 (r.1.Num.flatMap Ad),.r A2 r.1.Den.length c2 224 1 (r.1.Den.flatMap Ad),.r A4 r.2.1.Num.length c4 224 1 (r.2.1.Num.flatMap Ad),.r A6 r.2.1.Den.length c6 224 1 (r.2.1.Den.flatMap Ad)]∧True:=by
 have ha0':=Has.up0 ha0;have ha1':=Has.up0 ha1;have ha2':=Has.up0 ha2;refine CtL.mk 44 Tryz.func60 rfl Tryz.ntmps60 (by kernel_rfl) rfl ?_;show T 44 _ [(0,.agg #[.slice (A0_0) (p0.V.length) (c0_0),.slice (A0_1) (p0.T.length) (c0_1),.slice (A0_2) (p0.Lines.length) (c0_2)]),(1,.agg #[.int .i64 (p1.X),.int .i64 (p1.Y)])] _;unfold Og at hx;refine Y2 ?_;refine T_x (Di rfl rfl rfl (fun g1=>?_));refine T_x (Di rfl rfl rfl (fun g2=>?_));refine T_x (Az Fd rfl (fun g3=>?_));refine T_x (Az Fd rfl (fun g4=>?_));refine Y5 ?_;refine Ak (Bg rfl (i:=3) rfl rfl Ww) rfl ?_;refine Ak (Bg rfl (i:=2) rfl rfl Afq) rfl ?_;obtain ⟨r5,h6,hx7⟩:=Ae hx;refine Tc (fun w1 hw1=>Ad3 p0 p1 (Has.len' ha0') (Has.len' ha1') (Has.len' ha2') h6 w1 (Bt (K:=K) (K2:=[]) hK (by exact (sb 4)) (by exact (SubE.nil)) hw1)) ?_;(iterate 14 refine Y ?_);refine Wp (s:=19) rfl (fun h8=>?_) (fun h8=>?_)
 ·have hx9:=Sw h8 hx7;refine Y3 ?_;refine Ak (Bn rfl (Ow)) rfl ?_;refine Ak (Bn rfl (Ow)) rfl ?_;refine Y ?_;refine T_h (Av rfl rfl rfl (.there (.here)) (.put (.put (.put (.done)))) rfl (List.cons_ne_nil _ _) Bc.2 ?_);refine T_h (Av rfl rfl rfl (.here) (.put (.put (.put (.done)))) rfl (List.cons_ne_nil _ _) Bc.2 ?_);refine Y5 ?_;refine Ba 224 1 ?_;refine Ba 224 1 ?_;refine Ba 224 1 ?_;refine Ba 224 1 ?_;obtain rfl:=Option.some.inj hx9;exact Bz (rs:=[.cell 4 103,.cell 5 103,.tmp 6]) Tryz.results60 (.cell rfl (i:=5) rfl rfl Bc (.cell rfl (i:=4) rfl rfl Bc (.tmp rfl (.nil)))) (Ln:=[.r (none) (0) (0) 224 1 ((([]:List Int)).flatMap Ad),.r (none) (0) (0) 224 1 ((([]:List Int)).flatMap Ad),.r (none) (0) (0) 224 1 ((([]:List Int)).flatMap Ad),.r (none) (0) (0) 224 1 ((([]:List Int)).flatMap Ad)]) ⟨none,0,none,0,none,0,none,0,rfl,rfl,trivial⟩ (Ag rfl (Ag rfl (Ag rfl (Ag rfl (Bp))))) (by exact .pick 3 rfl (.pick 2 rfl (.pick 1 rfl (.pick 0 rfl (.drop 0 rfl (.drop 0 rfl (.drop 0 rfl (.drop 0 rfl (.refl)))))))))
 ·have hx0:=Eh h8 hx7;refine Y3 ?_;refine Tj (γ:=Nat) hx0 (fun s6 y6=>[(3,.pointer (some ⟨g2,0,none⟩)),(4,.pointer (some ⟨g3,0,none⟩)),(5,.pointer (some ⟨g4,0,none⟩)),(9,.pointer (some ⟨y6,0,none⟩))]) (fun s6 y6=>[.m y6 156 [.int .i64 (s6.1),.int .i64 (s6.2.1),.int .i64 (s6.2.2.1),.int .i64 (s6.2.2.2.1),.int .i64 (s6.2.2.2.2.1),.int .i64 (s6.2.2.2.2.2.1),.int .i64 (s6.2.2.2.2.2.2.1),.int .i64 (s6.2.2.2.2.2.2.2.1),.int .i64 (s6.2.2.2.2.2.2.2.2.1),.int .i64 (s6.2.2.2.2.2.2.2.2.2.1),.int .i64 (s6.2.2.2.2.2.2.2.2.2.2.1),.int .i64 (s6.2.2.2.2.2.2.2.2.2.2.2)],.m g4 103 [.bool (false),.slice (none) (0) (0),.slice (none) (0) (0)],.m g3 103 [.bool (false),.slice (none) (0) (0),.slice (none) (0) (0)],.m g2 28 [.int .i64 (p1.X),.int .i64 (p1.Y)]]++[.old w]) (fun s6 y6=>True) (fun s6 y6 hx1 hG0=>?_) (fun j6 hx0=>?_)
  ·refine Tj (γ:=Nat × (Option Addr) × Nat × (Option Addr) × Nat × Nat × (Option Addr) × Nat × (Option Addr) × Nat) hx1 (fun s7 y7=>[(4,.pointer (some ⟨g3,0,none⟩)),(5,.pointer (some ⟨g4,0,none⟩)),(9,.pointer (some ⟨y6,0,none⟩)),(10,.pointer (some ⟨y7.1,0,none⟩)),(11,.pointer (some ⟨y7.2.2.2.2.2.1,0,none⟩))]) (fun s7 y7=>[.m y7.2.2.2.2.2.1 103 [.bool (s7.2.2.2.1),.slice (y7.2.2.2.2.2.2.1) (s7.2.2.2.2.1.length) (y7.2.2.2.2.2.2.2.1),.slice (y7.2.2.2.2.2.2.2.2.1) (s7.2.2.2.2.2.length) (y7.2.2.2.2.2.2.2.2.2)],.m y7.1 103 [.bool (s7.1),.slice (y7.2.1) (s7.2.1.length) (y7.2.2.1),.slice (y7.2.2.2.1) (s7.2.2.1.length) (y7.2.2.2.2.1)],.r (y7.2.2.2.2.2.2.1) (s7.2.2.2.2.1.length) (y7.2.2.2.2.2.2.2.1) 224 1 (s7.2.2.2.2.1.flatMap Ad),.r (y7.2.2.2.2.2.2.2.2.1) (s7.2.2.2.2.2.length) (y7.2.2.2.2.2.2.2.2.2) 224 1 (s7.2.2.2.2.2.flatMap Ad),.r (y7.2.1) (s7.2.1.length) (y7.2.2.1) 224 1 (s7.2.1.flatMap Ad),.r (y7.2.2.2.1) (s7.2.2.1.length) (y7.2.2.2.2.1) 224 1 (s7.2.2.1.flatMap Ad),.m y6 156 [.int .i64 (s6.1),.int .i64 (s6.2.1),.int .i64 (s6.2.2.1),.int .i64 (s6.2.2.2.1),.int .i64 (s6.2.2.2.2.1),.int .i64 (s6.2.2.2.2.2.1),.int .i64 (s6.2.2.2.2.2.2.1),.int .i64 (s6.2.2.2.2.2.2.2.1),.int .i64 (s6.2.2.2.2.2.2.2.2.1),.int .i64 (s6.2.2.2.2.2.2.2.2.2.1),.int .i64 (s6.2.2.2.2.2.2.2.2.2.2.1),.int .i64 (s6.2.2.2.2.2.2.2.2.2.2.2)],.m g4 103 [.bool (false),.slice (none) (0) (0),.slice (none) (0) (0)],.m g3 103 [.bool (false),.slice (none) (0) (0),.slice (none) (0) (0)]]++[.old w]) (fun s7 y7=>True) (fun s7 y7 hx2 hG1=>?_) (fun j7 hx1=>?_)
   ·refine Y ?_;refine T_dr [1,1,1,2,1,1,1,2,3,3,2] (.q 0 (.q 1 (.q 2 (.q 4 (.q 5 (.q 6 (.e 3 (.e 7 (.e 8 (.e 9 (.e 10 (.done) (.stop)) (.stop)) (.stop)) (.stop)) (.stop)))))))) mixed (by kernel_rfl) (by kernel_rfl) ?_;refine P_q rfl rfl (Bg rfl (i:=6) rfl rfl Abf) rfl ?_;refine P_q rfl rfl (Bg rfl (i:=1) rfl rfl Bc) rfl ?_;refine P_q rfl rfl (Bg rfl (i:=0) rfl rfl Bc) rfl ?_;refine P_q rfl rfl (Bg rfl (i:=6) rfl rfl Abf) rfl ?_;refine P_q rfl rfl (Bg rfl (i:=1) rfl rfl Bc) rfl ?_;refine P_q rfl rfl (Bg rfl (i:=0) rfl rfl Bc) rfl ?_;refine Kz (k:=4) rfl (by decide) (fun _=>rfl) (fun hn0 hs0=>?_);refine Kz (k:=5) rfl (by decide) (fun _=>rfl) (fun hn1 hs1=>?_);refine Kz (k:=2) rfl (by decide) (fun _=>rfl) (fun hn2 hs2=>?_);refine Kz (k:=3) rfl (by decide) (fun _=>rfl) (fun hn3 hs3=>?_);obtain ⟨r0,h0,hx3⟩:=Ae hx2;refine P_x rfl (Ar rfl (fun w1 hw1=>Vf (⟨(⟨s6.1,s6.2.1,(⟨s6.2.2.1,s6.2.2.2.1⟩:Be)⟩:Ab),(⟨s6.2.2.2.2.1,s6.2.2.2.2.2.1,(⟨s6.2.2.2.2.2.2.1,s6.2.2.2.2.2.2.2.1⟩:Be)⟩:Ab),(⟨s6.2.2.2.2.2.2.2.2.1,s6.2.2.2.2.2.2.2.2.2.1,(⟨s6.2.2.2.2.2.2.2.2.2.2.1,s6.2.2.2.2.2.2.2.2.2.2.2⟩:Be)⟩:Ab)⟩:Bq) (⟨s7.1,s7.2.1,s7.2.2.1⟩:Am) (⟨s7.2.2.2.1,s7.2.2.2.2.1,s7.2.2.2.2.2⟩:Am) false (Has.len' (Has.up (L:=([.r (y7.2.1) (s7.2.1.length) (y7.2.2.1) 224 1 (s7.2.1.flatMap Ad),.r (y7.2.2.2.1) (s7.2.2.1.length) (y7.2.2.2.2.1) 224 1 (s7.2.2.1.flatMap Ad),.r (y7.2.2.2.2.2.2.1) (s7.2.2.2.2.1.length) (y7.2.2.2.2.2.2.2.1) 224 1 (s7.2.2.2.2.1.flatMap Ad),.r (y7.2.2.2.2.2.2.2.2.1) (s7.2.2.2.2.2.length) (y7.2.2.2.2.2.2.2.2.2) 224 1 (s7.2.2.2.2.2.flatMap Ad)]:List Ent)) hs0 (sb 0))) (Has.len' (Has.up (L:=([.r (y7.2.1) (s7.2.1.length) (y7.2.2.1) 224 1 (s7.2.1.flatMap Ad),.r (y7.2.2.2.1) (s7.2.2.1.length) (y7.2.2.2.2.1) 224 1 (s7.2.2.1.flatMap Ad),.r (y7.2.2.2.2.2.2.1) (s7.2.2.2.2.1.length) (y7.2.2.2.2.2.2.2.1) 224 1 (s7.2.2.2.2.1.flatMap Ad),.r (y7.2.2.2.2.2.2.2.2.1) (s7.2.2.2.2.2.length) (y7.2.2.2.2.2.2.2.2.2) 224 1 (s7.2.2.2.2.2.flatMap Ad)]:List Ent)) hs1 (sb 1))) (Has.len' (Has.up (L:=([.r (y7.2.1) (s7.2.1.length) (y7.2.2.1) 224 1 (s7.2.1.flatMap Ad),.r (y7.2.2.2.1) (s7.2.2.1.length) (y7.2.2.2.2.1) 224 1 (s7.2.2.1.flatMap Ad),.r (y7.2.2.2.2.2.2.1) (s7.2.2.2.2.1.length) (y7.2.2.2.2.2.2.2.1) 224 1 (s7.2.2.2.2.1.flatMap Ad),.r (y7.2.2.2.2.2.2.2.2.1) (s7.2.2.2.2.2.length) (y7.2.2.2.2.2.2.2.2.2) 224 1 (s7.2.2.2.2.2.flatMap Ad)]:List Ent)) hs2 (sb 2))) (Has.len' (Has.up (L:=([.r (y7.2.1) (s7.2.1.length) (y7.2.2.1) 224 1 (s7.2.1.flatMap Ad),.r (y7.2.2.2.1) (s7.2.2.1.length) (y7.2.2.2.2.1) 224 1 (s7.2.2.1.flatMap Ad),.r (y7.2.2.2.2.2.2.1) (s7.2.2.2.2.1.length) (y7.2.2.2.2.2.2.2.1) 224 1 (s7.2.2.2.2.1.flatMap Ad),.r (y7.2.2.2.2.2.2.2.2.1) (s7.2.2.2.2.2.length) (y7.2.2.2.2.2.2.2.2.2) 224 1 (s7.2.2.2.2.2.flatMap Ad)]:List Ent)) hs3 (sb 3))) h0 w1 (Jj (K:=([.r (y7.2.1) (s7.2.1.length) (y7.2.2.1) 224 1 (s7.2.1.flatMap Ad),.r (y7.2.2.2.1) (s7.2.2.1.length) (y7.2.2.2.2.1) 224 1 (s7.2.2.1.flatMap Ad),.r (y7.2.2.2.2.2.2.1) (s7.2.2.2.2.1.length) (y7.2.2.2.2.2.2.2.1) 224 1 (s7.2.2.2.2.1.flatMap Ad),.r (y7.2.2.2.2.2.2.2.2.1) (s7.2.2.2.2.2.length) (y7.2.2.2.2.2.2.2.2.2) 224 1 (s7.2.2.2.2.2.flatMap Ad)]:List Ent)) (by exact (SubE.cons2 (i:=4) rfl (SubE.cons2 (i:=5) rfl (SubE.cons2 (i:=2) rfl (sb 3))))) hw1)) rfl ?_) ?_
    rotate_left;exact Al;rintro _ _ hlo ⟨A1,c1,A3,c3,rfl,rfl,-⟩;refine Dq ?_;refine Kz (k:=6) rfl (by decide) (fun _=>rfl) (fun hn4 hs4=>?_);refine Kz (k:=7) rfl (by decide) (fun _=>rfl) (fun hn5 hs5=>?_);refine Kz (k:=4) rfl (by decide) (fun _=>rfl) (fun hn6 hs6=>?_);refine Kz (k:=5) rfl (by decide) (fun _=>rfl) (fun hn7 hs7=>?_);obtain ⟨r1,h1,hx4⟩:=Ae hx3;refine P_x rfl (Ar rfl (fun w1 hw1=>Vf (⟨(⟨s6.1,s6.2.1,(⟨s6.2.2.1,s6.2.2.2.1⟩:Be)⟩:Ab),(⟨s6.2.2.2.2.1,s6.2.2.2.2.2.1,(⟨s6.2.2.2.2.2.2.1,s6.2.2.2.2.2.2.2.1⟩:Be)⟩:Ab),(⟨s6.2.2.2.2.2.2.2.2.1,s6.2.2.2.2.2.2.2.2.2.1,(⟨s6.2.2.2.2.2.2.2.2.2.2.1,s6.2.2.2.2.2.2.2.2.2.2.2⟩:Be)⟩:Ab)⟩:Bq) (⟨s7.1,s7.2.1,s7.2.2.1⟩:Am) (⟨s7.2.2.2.1,s7.2.2.2.2.1,s7.2.2.2.2.2⟩:Am) true (Has.len' (Has.up (L:=([.r (y7.2.1) (s7.2.1.length) (y7.2.2.1) 224 1 (s7.2.1.flatMap Ad),.r (y7.2.2.2.1) (s7.2.2.1.length) (y7.2.2.2.2.1) 224 1 (s7.2.2.1.flatMap Ad),.r (y7.2.2.2.2.2.2.1) (s7.2.2.2.2.1.length) (y7.2.2.2.2.2.2.2.1) 224 1 (s7.2.2.2.2.1.flatMap Ad),.r (y7.2.2.2.2.2.2.2.2.1) (s7.2.2.2.2.2.length) (y7.2.2.2.2.2.2.2.2.2) 224 1 (s7.2.2.2.2.2.flatMap Ad)]:List Ent)) hs4 (sb 0))) (Has.len' (Has.up (L:=([.r (y7.2.1) (s7.2.1.length) (y7.2.2.1) 224 1 (s7.2.1.flatMap Ad),.r (y7.2.2.2.1) (s7.2.2.1.length) (y7.2.2.2.2.1) 224 1 (s7.2.2.1.flatMap Ad),.r (y7.2.2.2.2.2.2.1) (s7.2.2.2.2.1.length) (y7.2.2.2.2.2.2.2.1) 224 1 (s7.2.2.2.2.1.flatMap Ad),.r (y7.2.2.2.2.2.2.2.2.1) (s7.2.2.2.2.2.length) (y7.2.2.2.2.2.2.2.2.2) 224 1 (s7.2.2.2.2.2.flatMap Ad)]:List Ent)) hs5 (sb 1))) (Has.len' (Has.up (L:=([.r (y7.2.1) (s7.2.1.length) (y7.2.2.1) 224 1 (s7.2.1.flatMap Ad),.r (y7.2.2.2.1) (s7.2.2.1.length) (y7.2.2.2.2.1) 224 1 (s7.2.2.1.flatMap Ad),.r (y7.2.2.2.2.2.2.1) (s7.2.2.2.2.1.length) (y7.2.2.2.2.2.2.2.1) 224 1 (s7.2.2.2.2.1.flatMap Ad),.r (y7.2.2.2.2.2.2.2.2.1) (s7.2.2.2.2.2.length) (y7.2.2.2.2.2.2.2.2.2) 224 1 (s7.2.2.2.2.2.flatMap Ad)]:List Ent)) hs6 (sb 2))) (Has.len' (Has.up (L:=([.r (y7.2.1) (s7.2.1.length) (y7.2.2.1) 224 1 (s7.2.1.flatMap Ad),.r (y7.2.2.2.1) (s7.2.2.1.length) (y7.2.2.2.2.1) 224 1 (s7.2.2.1.flatMap Ad),.r (y7.2.2.2.2.2.2.1) (s7.2.2.2.2.1.length) (y7.2.2.2.2.2.2.2.1) 224 1 (s7.2.2.2.2.1.flatMap Ad),.r (y7.2.2.2.2.2.2.2.2.1) (s7.2.2.2.2.2.length) (y7.2.2.2.2.2.2.2.2.2) 224 1 (s7.2.2.2.2.2.flatMap Ad)]:List Ent)) hs7 (sb 3))) h1 w1 (Jj (K:=([.r (y7.2.1) (s7.2.1.length) (y7.2.2.1) 224 1 (s7.2.1.flatMap Ad),.r (y7.2.2.2.1) (s7.2.2.1.length) (y7.2.2.2.2.1) 224 1 (s7.2.2.1.flatMap Ad),.r (y7.2.2.2.2.2.2.1) (s7.2.2.2.2.1.length) (y7.2.2.2.2.2.2.2.1) 224 1 (s7.2.2.2.2.1.flatMap Ad),.r (y7.2.2.2.2.2.2.2.2.1) (s7.2.2.2.2.2.length) (y7.2.2.2.2.2.2.2.2.2) 224 1 (s7.2.2.2.2.2.flatMap Ad)]:List Ent)) (by exact (SubE.cons2 (i:=6) rfl (SubE.cons2 (i:=7) rfl (SubE.cons2 (i:=4) rfl (sb 5))))) hw1)) rfl ?_) ?_
    rotate_left;exact Al;rintro _ _ hlo ⟨A5,c5,A7,c7,rfl,rfl,-⟩;refine Dq ?_;refine P_h rfl rfl (Av rfl rfl rfl (.there (.there (.there (.there (.there (.there (.there (.there (.there (.there (.there (.there (.here))))))))))))) (.put (.put (.put (.done)))) rfl (List.cons_ne_nil _ _) Bc.2 ?_) ?_;rotate_left;exact Al;refine P_h rfl rfl (Av rfl rfl rfl (.there (.there (.there (.there (.there (.there (.there (.there (.there (.there (.there (.here)))))))))))) (.put (.put (.put (.done)))) rfl (List.cons_ne_nil _ _) Bc.2 ?_) ?_;rotate_left;exact Al;refine P_x rfl (Ib (Dz rfl) rfl ?_) ?_;rotate_left;exact Al;refine Y3 ?_;obtain rfl:=Option.some.inj hx4;exact Bz (rs:=[.cell 4 103,.cell 5 103,.tmp 6]) Tryz.results60 (.cell rfl (i:=12) rfl rfl Bc (.cell rfl (i:=11) rfl rfl Bc (.tmp rfl (.nil)))) (Ln:=[.r (A1) (r0.Num.length) (c1) 224 1 (r0.Num.flatMap Ad),.r (A3) (r0.Den.length) (c3) 224 1 (r0.Den.flatMap Ad),.r (A5) (r1.Num.length) (c5) 224 1 (r1.Num.flatMap Ad),.r (A7) (r1.Den.length) (c7) 224 1 (r1.Den.flatMap Ad)]) ⟨A1,c1,A3,c3,A5,c5,A7,c7,rfl,rfl,trivial⟩ (Ag rfl (Ag rfl (Ag rfl (Ag rfl (Bp))))) (by exact .pick 2 rfl (.pick 2 rfl (.pick 0 rfl (.pick 0 rfl (.drop 0 rfl (.drop 0 rfl (.drop 0 rfl (.drop 0 rfl (.drop 0 rfl (.drop 0 rfl (.drop 0 rfl (.drop 0 rfl (.drop 0 rfl (.refl))))))))))))))
   ·obtain ⟨r2,h2,hx5⟩:=Ae hx1;obtain ⟨r3,h3,hx6⟩:=Ae hx5;refine T_dr [0,1,2,0,1,2,2,2,3,3] (.q 0 (.q 1 (.q 3 (.q 4 (.e 2 (.e 5 (.e 6 (.e 7 (.e 8 (.e 9 (.done) (.stop)) (.stop)) (.stop)) (.e 7 (.e 6 (.e 8 (.e 9 (.done) (.stop)) (.stop)) (.stop)) (.stop))) (.e 6 (.e 5 (.e 7 (.e 8 (.e 9 (.done) (.stop)) (.stop)) (.stop)) (.e 7 (.e 5 (.e 8 (.e 9 (.done) (.stop)) (.stop)) (.stop)) (.stop))) (.e 7 (.e 5 (.e 6 (.e 8 (.e 9 (.done) (.stop)) (.stop)) (.stop)) (.e 6 (.e 5 (.e 8 (.e 9 (.done) (.stop)) (.stop)) (.stop)) (.stop))) (.stop)))) (.e 6 (.e 2 (.e 5 (.e 7 (.e 8 (.e 9 (.done) (.stop)) (.stop)) (.stop)) (.e 7 (.e 5 (.e 8 (.e 9 (.done) (.stop)) (.stop)) (.stop)) (.stop))) (.e 7 (.e 2 (.e 5 (.e 8 (.e 9 (.done) (.stop)) (.stop)) (.stop)) (.stop)) (.stop))) (.e 7 (.e 2 (.e 5 (.e 6 (.e 8 (.e 9 (.done) (.stop)) (.stop)) (.stop)) (.e 6 (.e 5 (.e 8 (.e 9 (.done) (.stop)) (.stop)) (.stop)) (.stop))) (.e 6 (.e 2 (.e 5 (.e 8 (.e 9 (.done) (.stop)) (.stop)) (.stop)) (.stop)) (.stop))) (.stop)))))))) mixed (by kernel_rfl) (by kernel_rfl) ?_;refine P_p rfl rfl (Ax rfl Ah9 rfl) rfl ?_;refine P_q rfl rfl (Au rfl (i:=3) rfl rfl one3) rfl ?_;refine P_p rfl rfl (Ax rfl Aia rfl) rfl ?_;refine P_q rfl rfl (Au rfl (i:=3) rfl rfl one3) rfl ?_;refine P_x rfl (Ar rfl (fun w1 hw1=>Br p1.X  h2 w1) rfl ?_) ?_
    ·skip;rintro _ _ hlo ⟨A8,c8,A9,c9,rfl,rfl,-⟩;refine Dq ?_;refine P_x rfl (Ar rfl (fun w1 hw1=>Br p1.Y  h3 w1) rfl ?_) ?_
     ·skip;rintro _ _ hlo ⟨A62,c63,A64,c65,rfl,rfl,-⟩;refine Dq ?_;refine P_x rfl (Az Fd rfl (fun g0=>?_)) ?_
      ·skip;refine P_x rfl (Az Fd rfl (fun g5=>?_)) ?_;rotate_left;exact Al;refine P_h rfl rfl (Av rfl rfl rfl (.there (.here)) (.put (.put (.put (.done)))) rfl (List.cons_ne_nil _ _) Bc.2 ?_) ?_;rotate_left;exact Al;refine P_h rfl rfl (Av rfl rfl rfl (.here) (.put (.put (.put (.done)))) rfl (List.cons_ne_nil _ _) Bc.2 ?_) ?_;rotate_left;exact Al;refine Y ?_;exact Mt (r2.Neg,r2.Num,r2.Den,r3.Neg,r3.Num,r3.Den) (g0,A8,c8,A9,c9,g5,A62,c63,A64,c65) hx6 trivial (by exact .pick 0 rfl (.pick 0 rfl (.pick 0 rfl (.pick 0 rfl (.pick 0 rfl (.pick 0 rfl (.pick 0 rfl (.pick 0 rfl (.pick 0 rfl (.drop 0 rfl (.refl)))))))))))
      ·skip;refine P_x rfl (Az Fd rfl (fun g6=>?_)) ?_;rotate_left;exact Al;refine P_x rfl (Az Fd rfl (fun g7=>?_)) ?_;rotate_left;exact Al;refine P_h rfl rfl (Av rfl rfl rfl (.here) (.put (.put (.put (.done)))) rfl (List.cons_ne_nil _ _) Bc.2 ?_) ?_;rotate_left;exact Al;refine P_h rfl rfl (Av rfl rfl rfl (.there (.here)) (.put (.put (.put (.done)))) rfl (List.cons_ne_nil _ _) Bc.2 ?_) ?_;rotate_left;exact Al;refine Y ?_;exact Mt (r2.Neg,r2.Num,r2.Den,r3.Neg,r3.Num,r3.Den) (g7,A8,c8,A9,c9,g6,A62,c63,A64,c65) hx6 trivial (by exact .pick 1 rfl (.pick 0 rfl (.pick 0 rfl (.pick 0 rfl (.pick 0 rfl (.pick 0 rfl (.pick 0 rfl (.pick 0 rfl (.pick 0 rfl (.drop 0 rfl (.refl)))))))))))
     ·skip;refine P_x rfl (Az Fd rfl (fun g8=>?_)) ?_
      ·skip;refine P_x rfl (Ar rfl (fun w1 hw1=>Br p1.Y  h3 w1) rfl ?_) ?_
       ·skip;rintro _ _ hlo ⟨A71,c72,A73,c74,rfl,rfl,-⟩;refine Dq ?_;refine P_x rfl (Az Fd rfl (fun g9=>?_)) ?_;rotate_left;exact Al;refine P_h rfl rfl (Av rfl rfl rfl (.there (.there (.there (.here)))) (.put (.put (.put (.done)))) rfl (List.cons_ne_nil _ _) Bc.2 ?_) ?_;rotate_left;exact Al;refine P_h rfl rfl (Av rfl rfl rfl (.here) (.put (.put (.put (.done)))) rfl (List.cons_ne_nil _ _) Bc.2 ?_) ?_;rotate_left;exact Al;refine Y ?_;exact Mt (r2.Neg,r2.Num,r2.Den,r3.Neg,r3.Num,r3.Den) (g8,A8,c8,A9,c9,g9,A71,c72,A73,c74) hx6 trivial (by exact .pick 0 rfl (.pick 2 rfl (.pick 0 rfl (.pick 0 rfl (.pick 0 rfl (.pick 0 rfl (.pick 0 rfl (.pick 0 rfl (.pick 0 rfl (.drop 0 rfl (.refl)))))))))))
       ·skip;refine P_x rfl (Az Fd rfl (fun g76=>?_)) ?_;rotate_left;exact Al;refine P_x rfl (Ar rfl (fun w1 hw1=>Br p1.Y  h3 w1) rfl ?_) ?_;rotate_left;exact Al;rintro _ _ hlo ⟨A77,c78,A79,c80,rfl,rfl,-⟩;refine Dq ?_;refine P_h rfl rfl (Av rfl rfl rfl (.there (.there (.there (.here)))) (.put (.put (.put (.done)))) rfl (List.cons_ne_nil _ _) Bc.2 ?_) ?_;rotate_left;exact Al;refine P_h rfl rfl (Av rfl rfl rfl (.there (.there (.here))) (.put (.put (.put (.done)))) rfl (List.cons_ne_nil _ _) Bc.2 ?_) ?_;rotate_left;exact Al;refine Y ?_;exact Mt (r2.Neg,r2.Num,r2.Den,r3.Neg,r3.Num,r3.Den) (g8,A8,c8,A9,c9,g76,A77,c78,A79,c80) hx6 trivial (by exact .pick 2 rfl (.pick 2 rfl (.pick 0 rfl (.pick 0 rfl (.pick 0 rfl (.pick 0 rfl (.pick 0 rfl (.pick 0 rfl (.pick 0 rfl (.drop 0 rfl (.refl)))))))))))
      ·skip;refine P_x rfl (Az Fd rfl (fun g81=>?_)) ?_;rotate_left;exact Al;refine P_x rfl (Ar rfl (fun w1 hw1=>Br p1.Y  h3 w1) rfl ?_) ?_
       ·skip;rintro _ _ hlo ⟨A82,c83,A84,c85,rfl,rfl,-⟩;refine Dq ?_;refine P_x rfl (Az Fd rfl (fun g86=>?_)) ?_;rotate_left;exact Al;refine P_h rfl rfl (Av rfl rfl rfl (.here) (.put (.put (.put (.done)))) rfl (List.cons_ne_nil _ _) Bc.2 ?_) ?_;rotate_left;exact Al;refine P_h rfl rfl (Av rfl rfl rfl (.there (.there (.there (.here)))) (.put (.put (.put (.done)))) rfl (List.cons_ne_nil _ _) Bc.2 ?_) ?_;rotate_left;exact Al;refine Y ?_;exact Mt (r2.Neg,r2.Num,r2.Den,r3.Neg,r3.Num,r3.Den) (g86,A8,c8,A9,c9,g81,A82,c83,A84,c85) hx6 trivial (by exact .pick 3 rfl (.pick 0 rfl (.pick 0 rfl (.pick 0 rfl (.pick 0 rfl (.pick 0 rfl (.pick 0 rfl (.pick 0 rfl (.pick 0 rfl (.drop 0 rfl (.refl)))))))))))
       ·skip;refine P_x rfl (Az Fd rfl (fun g87=>?_)) ?_;rotate_left;exact Al;refine P_x rfl (Ar rfl (fun w1 hw1=>Br p1.Y  h3 w1) rfl ?_) ?_;rotate_left;exact Al;rintro _ _ hlo ⟨A88,c89,A90,c91,rfl,rfl,-⟩;refine Dq ?_;refine P_h rfl rfl (Av rfl rfl rfl (.there (.there (.here))) (.put (.put (.put (.done)))) rfl (List.cons_ne_nil _ _) Bc.2 ?_) ?_;rotate_left;exact Al;refine P_h rfl rfl (Av rfl rfl rfl (.there (.there (.there (.here)))) (.put (.put (.put (.done)))) rfl (List.cons_ne_nil _ _) Bc.2 ?_) ?_;rotate_left;exact Al;refine Y ?_;exact Mt (r2.Neg,r2.Num,r2.Den,r3.Neg,r3.Num,r3.Den) (g87,A8,c8,A9,c9,g81,A88,c89,A90,c91) hx6 trivial (by exact .pick 3 rfl (.pick 2 rfl (.pick 0 rfl (.pick 0 rfl (.pick 0 rfl (.pick 0 rfl (.pick 0 rfl (.pick 0 rfl (.pick 0 rfl (.drop 0 rfl (.refl)))))))))))
    ·skip;refine P_x rfl (Az Fd rfl (fun g92=>?_)) ?_
     ·skip;refine P_x rfl (Ar rfl (fun w1 hw1=>Br p1.X  h2 w1) rfl ?_) ?_
      ·skip;rintro _ _ hlo ⟨A93,c94,A95,c96,rfl,rfl,-⟩;refine Dq ?_;refine P_x rfl (Ar rfl (fun w1 hw1=>Br p1.Y  h3 w1) rfl ?_) ?_
       ·skip;rintro _ _ hlo ⟨A97,c98,A99,c10,rfl,rfl,-⟩;refine Dq ?_;refine P_x rfl (Az Fd rfl (fun g10=>?_)) ?_;rotate_left;exact Al;refine P_h rfl rfl (Av rfl rfl rfl (.there (.there (.there (.there (.there (.here)))))) (.put (.put (.put (.done)))) rfl (List.cons_ne_nil _ _) Bc.2 ?_) ?_;rotate_left;exact Al;refine P_h rfl rfl (Av rfl rfl rfl (.here) (.put (.put (.put (.done)))) rfl (List.cons_ne_nil _ _) Bc.2 ?_) ?_;rotate_left;exact Al;refine Y ?_;exact Mt (r2.Neg,r2.Num,r2.Den,r3.Neg,r3.Num,r3.Den) (g92,A93,c94,A95,c96,g10,A97,c98,A99,c10) hx6 trivial (by exact .pick 0 rfl (.pick 4 rfl (.pick 0 rfl (.pick 0 rfl (.pick 0 rfl (.pick 0 rfl (.pick 0 rfl (.pick 0 rfl (.pick 0 rfl (.drop 0 rfl (.refl)))))))))))
       ·skip;refine P_x rfl (Az Fd rfl (fun g11=>?_)) ?_;rotate_left;exact Al;refine P_x rfl (Ar rfl (fun w1 hw1=>Br p1.Y  h3 w1) rfl ?_) ?_;rotate_left;exact Al;rintro _ _ hlo ⟨A10,c11,A11,c12,rfl,rfl,-⟩;refine Dq ?_;refine P_h rfl rfl (Av rfl rfl rfl (.there (.there (.there (.there (.there (.here)))))) (.put (.put (.put (.done)))) rfl (List.cons_ne_nil _ _) Bc.2 ?_) ?_;rotate_left;exact Al;refine P_h rfl rfl (Av rfl rfl rfl (.there (.there (.here))) (.put (.put (.put (.done)))) rfl (List.cons_ne_nil _ _) Bc.2 ?_) ?_;rotate_left;exact Al;refine Y ?_;exact Mt (r2.Neg,r2.Num,r2.Den,r3.Neg,r3.Num,r3.Den) (g92,A93,c94,A95,c96,g11,A10,c11,A11,c12) hx6 trivial (by exact .pick 2 rfl (.pick 4 rfl (.pick 0 rfl (.pick 0 rfl (.pick 0 rfl (.pick 0 rfl (.pick 0 rfl (.pick 0 rfl (.pick 0 rfl (.drop 0 rfl (.refl)))))))))))
      ·skip;refine P_x rfl (Az Fd rfl (fun g12=>?_)) ?_;rotate_left;exact Al;refine P_x rfl (Ar rfl (fun w1 hw1=>Br p1.X  h2 w1) rfl ?_) ?_;rotate_left;exact Al;rintro _ _ hlo ⟨A12,c13,A13,c14,rfl,rfl,-⟩;refine Dq ?_;refine P_x rfl (Ar rfl (fun w1 hw1=>Br p1.Y  h3 w1) rfl ?_) ?_;rotate_left;exact Al;rintro _ _ hlo ⟨A14,c15,A15,c16,rfl,rfl,-⟩;refine Dq ?_;refine P_h rfl rfl (Av rfl rfl rfl (.there (.there (.there (.there (.there (.here)))))) (.put (.put (.put (.done)))) rfl (List.cons_ne_nil _ _) Bc.2 ?_) ?_;rotate_left;exact Al;refine P_h rfl rfl (Av rfl rfl rfl (.there (.there (.there (.there (.here))))) (.put (.put (.put (.done)))) rfl (List.cons_ne_nil _ _) Bc.2 ?_) ?_;rotate_left;exact Al;refine Y ?_;exact Mt (r2.Neg,r2.Num,r2.Den,r3.Neg,r3.Num,r3.Den) (g92,A12,c13,A13,c14,g12,A14,c15,A15,c16) hx6 trivial (by exact .pick 4 rfl (.pick 4 rfl (.pick 0 rfl (.pick 0 rfl (.pick 0 rfl (.pick 0 rfl (.pick 0 rfl (.pick 0 rfl (.pick 0 rfl (.drop 0 rfl (.refl)))))))))))
     ·skip;refine P_x rfl (Az Fd rfl (fun g13=>?_)) ?_;rotate_left;exact Al;refine P_x rfl (Ar rfl (fun w1 hw1=>Br p1.X  h2 w1) rfl ?_) ?_
      ·skip;rintro _ _ hlo ⟨A16,c17,A17,c18,rfl,rfl,-⟩;refine Dq ?_;refine P_x rfl (Ar rfl (fun w1 hw1=>Br p1.Y  h3 w1) rfl ?_) ?_
       ·skip;rintro _ _ hlo ⟨A18,c19,A19,c20,rfl,rfl,-⟩;refine Dq ?_;refine P_x rfl (Az Fd rfl (fun g14=>?_)) ?_;rotate_left;exact Al;refine P_h rfl rfl (Av rfl rfl rfl (.here) (.put (.put (.put (.done)))) rfl (List.cons_ne_nil _ _) Bc.2 ?_) ?_;rotate_left;exact Al;refine P_h rfl rfl (Av rfl rfl rfl (.there (.there (.there (.there (.there (.here)))))) (.put (.put (.put (.done)))) rfl (List.cons_ne_nil _ _) Bc.2 ?_) ?_;rotate_left;exact Al;refine Y ?_;exact Mt (r2.Neg,r2.Num,r2.Den,r3.Neg,r3.Num,r3.Den) (g14,A16,c17,A17,c18,g13,A18,c19,A19,c20) hx6 trivial (by exact .pick 5 rfl (.pick 0 rfl (.pick 0 rfl (.pick 0 rfl (.pick 0 rfl (.pick 0 rfl (.pick 0 rfl (.pick 0 rfl (.pick 0 rfl (.drop 0 rfl (.refl)))))))))))
       ·skip;refine P_x rfl (Az Fd rfl (fun g15=>?_)) ?_;rotate_left;exact Al;refine P_x rfl (Ar rfl (fun w1 hw1=>Br p1.Y  h3 w1) rfl ?_) ?_;rotate_left;exact Al;rintro _ _ hlo ⟨A20,c21,A21,c22,rfl,rfl,-⟩;refine Dq ?_;refine P_h rfl rfl (Av rfl rfl rfl (.there (.there (.here))) (.put (.put (.put (.done)))) rfl (List.cons_ne_nil _ _) Bc.2 ?_) ?_;rotate_left;exact Al;refine P_h rfl rfl (Av rfl rfl rfl (.there (.there (.there (.there (.there (.here)))))) (.put (.put (.put (.done)))) rfl (List.cons_ne_nil _ _) Bc.2 ?_) ?_;rotate_left;exact Al;refine Y ?_;exact Mt (r2.Neg,r2.Num,r2.Den,r3.Neg,r3.Num,r3.Den) (g15,A16,c17,A17,c18,g13,A20,c21,A21,c22) hx6 trivial (by exact .pick 5 rfl (.pick 2 rfl (.pick 0 rfl (.pick 0 rfl (.pick 0 rfl (.pick 0 rfl (.pick 0 rfl (.pick 0 rfl (.pick 0 rfl (.drop 0 rfl (.refl)))))))))))
      ·skip;refine P_x rfl (Az Fd rfl (fun g16=>?_)) ?_;rotate_left;exact Al;refine P_x rfl (Ar rfl (fun w1 hw1=>Br p1.X  h2 w1) rfl ?_) ?_;rotate_left;exact Al;rintro _ _ hlo ⟨A22,c23,A23,c24,rfl,rfl,-⟩;refine Dq ?_;refine P_x rfl (Ar rfl (fun w1 hw1=>Br p1.Y  h3 w1) rfl ?_) ?_;rotate_left;exact Al;rintro _ _ hlo ⟨A24,c25,A25,c26,rfl,rfl,-⟩;refine Dq ?_;refine P_h rfl rfl (Av rfl rfl rfl (.there (.there (.there (.there (.here))))) (.put (.put (.put (.done)))) rfl (List.cons_ne_nil _ _) Bc.2 ?_) ?_;rotate_left;exact Al;refine P_h rfl rfl (Av rfl rfl rfl (.there (.there (.there (.there (.there (.here)))))) (.put (.put (.put (.done)))) rfl (List.cons_ne_nil _ _) Bc.2 ?_) ?_;rotate_left;exact Al;refine Y ?_;exact Mt (r2.Neg,r2.Num,r2.Den,r3.Neg,r3.Num,r3.Den) (g16,A22,c23,A23,c24,g13,A24,c25,A25,c26) hx6 trivial (by exact .pick 5 rfl (.pick 4 rfl (.pick 0 rfl (.pick 0 rfl (.pick 0 rfl (.pick 0 rfl (.pick 0 rfl (.pick 0 rfl (.pick 0 rfl (.drop 0 rfl (.refl)))))))))))
  ·obtain ⟨x0,h4,hx8⟩:=Ae hx0;obtain ⟨r4,h5,hx27⟩:=Ae hx8;refine T_dr [1,0,1,0,0,1,2,2,3] (.q 0 (.q 1 (.q 2 (.q 3 (.q 4 (.q 5 (.e 6 (.e 7 (.e 8 (.done) (.stop)) (.stop)) (.e 7 (.e 6 (.e 8 (.done) (.stop)) (.stop)) (.stop))))))))) mixed (by kernel_rfl) (by kernel_rfl) ?_;refine P_q rfl rfl (Bg rfl (i:=3) rfl rfl Ww) rfl ?_;refine P_p rfl rfl (Ax rfl Ahv rfl) rfl ?_;refine P_q rfl rfl (Au rfl (i:=3) rfl rfl Aox) rfl ?_;refine Y ?_;refine P_il (Has.low (E:=[]) ha1' hK) h4 Aoy Aoz (sb 4) (fun b0 o0=>?_);refine P_x rfl (Ar rfl (fun w1 hw1=>St p0 x0 (Has.len' ha0') (Has.len' ha1') (Has.len' ha2') h5 w1 (Bt (K:=K) (K2:=[]) hK (by exact (sb 4)) (by exact (SubE.nil)) hw1)) rfl ?_) ?_
   ·skip;rintro _ _ hlo ⟨rfl,rfl,-⟩;refine Dv ?_;refine P_x rfl (Az Ag7 rfl (fun g36=>?_)) ?_;rotate_left;exact Al;refine P_h rfl rfl (Av rfl rfl rfl (.here) (.put (.put (.put (.put (.put (.put (.put (.put (.put (.put (.put (.put (.done))))))))))))) rfl (List.cons_ne_nil _ _) Abf.2 ?_) ?_;rotate_left;exact Al;refine Y ?_;exact Mt (r4.a0.X,r4.a0.Y,r4.a0.Z.Lo,r4.a0.Z.Hi,r4.a1.X,r4.a1.Y,r4.a1.Z.Lo,r4.a1.Z.Hi,r4.a2.X,r4.a2.Y,r4.a2.Z.Lo,r4.a2.Z.Hi) g36 hx27 trivial (by exact .pick 0 rfl (.pick 0 rfl (.pick 0 rfl (.pick 0 rfl (.drop 0 rfl (.refl))))))
   ·skip;refine P_x rfl (Az Ag7 rfl (fun g37=>?_)) ?_;rotate_left;exact Al;refine Pc (fun w1 hw1=>St p0 x0 (Has.len' ha0') (Has.len' ha1') (Has.len' ha2') h5 w1 (Bt (K:=K) (K2:=[]) hK (by exact (sb 5)) (by exact (SubE.nil)) hw1)) ?_;refine P_h rfl rfl (Av rfl rfl rfl (.here) (.put (.put (.put (.put (.put (.put (.put (.put (.put (.put (.put (.put (.done))))))))))))) rfl (List.cons_ne_nil _ _) Abf.2 ?_) ?_;rotate_left;exact Al;refine Y ?_;exact Mt (r4.a0.X,r4.a0.Y,r4.a0.Z.Lo,r4.a0.Z.Hi,r4.a1.X,r4.a1.Y,r4.a1.Z.Lo,r4.a1.Z.Hi,r4.a2.X,r4.a2.Y,r4.a2.Z.Lo,r4.a2.Z.Hi) g37 hx27 trivial (by exact .pick 0 rfl (.pick 0 rfl (.pick 0 rfl (.pick 0 rfl (.drop 0 rfl (.refl))))))
set_option maxHeartbeats 1000000 in
set_option maxRecDepth 100000 in
instance mesh_Height_c (p0:Ci) (p1:Ac):Con (Og p0 p1) Tryz.prog 60 (fun K vs=>∃ (A0_0:Option Addr) (c0_0:Nat) (A0_1:Option Addr) (c0_1:Nat) (A0_2:Option Addr) (c0_2:Nat),vs=[.agg #[.slice (A0_0) ((p0.V).length) (c0_0),.slice (A0_1) ((p0.T).length) (c0_1),.slice (A0_2) ((p0.Lines).length) (c0_2)],.agg #[.int .i64 (p1.X),.int .i64 (p1.Y)]]∧Has K A0_0 (p0.V).length c0_0 4 Ao (p0.V)∧Has K A0_1 (p0.T).length c0_1 3 Bl (p0.T)∧Has K A0_2 (p0.Lines).length c0_2 2 Aw (p0.Lines)∧True) (fun _ r=>fun v Ln=>∃ (A0:Option Addr) (c0:Nat) (A2:Option Addr) (c2:Nat) (A4:Option Addr) (c4:Nat) (A6:Option Addr) (c6:Nat),v = .tuple #[.agg #[.bool (r.1.Neg),.slice (A0) ((r.1.Num).length) (c0),.slice (A2) ((r.1.Den).length) (c2)],.agg #[.bool (r.2.1.Neg),.slice (A4) ((r.2.1.Num).length) (c4),.slice (A6) ((r.2.1.Den).length) (c6)],.int .i64 (r.2.2)]∧Ln=[.r A0 (r.1.Num).length c0 224 1 ((r.1.Num).flatMap Ad),.r A2 (r.1.Den).length c2 224 1 ((r.1.Den).flatMap Ad),.r A4 (r.2.1.Num).length c4 224 1 ((r.2.1.Num).flatMap Ad),.r A6 (r.2.1.Den).length c6 224 1 ((r.2.1.Den).flatMap Ad)]∧True):=⟨by
 rintro K _ r ⟨A0_0,c0_0,A0_1,c0_1,A0_2,c0_2,rfl,ha0,ha1,ha2,-⟩ hx w hK;exact Abi p0 p1 ha0 ha1 ha2 hx w hK⟩
set_option maxRecDepth 100000 in
instance mesh_Bounds_c (p0:Ci) (p1:Ac):Con (Jn p0 p1) Tryz.prog 19 (fun K vs=>∃ (A0_0:Option Addr) (c0_0:Nat) (A0_1:Option Addr) (c0_1:Nat) (A0_2:Option Addr) (c0_2:Nat),vs=[.agg #[.slice (A0_0) ((p0.V).length) (c0_0),.slice (A0_1) ((p0.T).length) (c0_1),.slice (A0_2) ((p0.Lines).length) (c0_2)],.agg #[.int .i64 (p1.X),.int .i64 (p1.Y)]]∧Has K A0_0 (p0.V).length c0_0 4 Ao (p0.V)∧Has K A0_1 (p0.T).length c0_1 3 Bl (p0.T)∧Has K A0_2 (p0.Lines).length c0_2 2 Aw (p0.Lines)∧True) (fun _ r=>fun v Ln=>v = .tuple #[.agg #[.int .i64 (r.1.Lo),.int .i64 (r.1.Hi)],.int .i64 (r.2)]∧Ln=[]∧True):=⟨by
 rintro K _ r ⟨A0_0,c0_0,A0_1,c0_1,A0_2,c0_2,rfl,ha0,ha1,ha2,-⟩ hx w hK;replace ha0:=Has.lo ha0 hK;replace ha1:=Has.lo ha1 hK;replace ha2:=Has.lo ha2 hK;unfold Jn at hx;refine CtS Tryz.ntmps19 Tryz.results19 ?_;exact au⟩
end Go.Proofs.YtbkobeeileemjaaGreat
