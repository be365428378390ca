/- Walks of the program, with their plain functions: MeshVolumes. -/
import Derived.Test.YtjfndjmabhbicaaGreatX4
namespace Go.Proofs.YtjfndjmabhbicaaGreat
open Go Go.RowKit
theorem Awv:Cw Tryz.prog 25 0 0:=.mk Tryz.underlying25 rfl rfl (show Tryz.prog.info? 22=some Tryz.t22 from by kernel_rfl) (show Tryz.t22.size=1 from by kernel_rfl) rfl
instance:Gd Tryz.prog 25 0 0:=⟨Awv⟩
theorem Aww:Cw Tryz.prog 25 1 1:=.mk Tryz.underlying25 rfl rfl (show Tryz.prog.info? 23=some Tryz.t23 from by kernel_rfl) (show Tryz.t23.size=1 from by kernel_rfl) rfl
instance:Gd Tryz.prog 25 1 1:=⟨Aww⟩
theorem Az3  : Gs Tryz.prog 70 [] [.int .i64 (0),.int .i64 (0),.int .i64 (0),.int .i64 (0)]:=fun w=>by kernel_rfl
instance:Lk Tryz.prog 70 [] [.int .i64 (0),.int .i64 (0),.int .i64 (0),.int .i64 (0)]:=⟨Az3⟩
theorem Amk (x0:Int):Gs Tryz.prog 70 [(0,.int .i64 x0)] [.int .i64 x0,.int .i64 (0),.int .i64 (0),.int .i64 (0)]:=fun w=>by kernel_rfl
instance (x0:Int):Lk Tryz.prog 70 [(0,.int .i64 x0)] [.int .i64 x0,.int .i64 (0),.int .i64 (0),.int .i64 (0)]:=⟨Amk _⟩
theorem Aml (x0:Int):Gs Tryz.prog 70 [(1,.int .i64 x0)] [.int .i64 (0),.int .i64 x0,.int .i64 (0),.int .i64 (0)]:=fun w=>by kernel_rfl
instance (x0:Int):Lk Tryz.prog 70 [(1,.int .i64 x0)] [.int .i64 (0),.int .i64 x0,.int .i64 (0),.int .i64 (0)]:=⟨Aml _⟩
theorem Afq (x0:Int) (x1:Int):Gs Tryz.prog 70 [(0,.int .i64 x0),(1,.int .i64 x1)] [.int .i64 x0,.int .i64 x1,.int .i64 (0),.int .i64 (0)]:=fun w=>by kernel_rfl
instance (x0:Int) (x1:Int):Lk Tryz.prog 70 [(0,.int .i64 x0),(1,.int .i64 x1)] [.int .i64 x0,.int .i64 x1,.int .i64 (0),.int .i64 (0)]:=⟨Afq _ _⟩
theorem Fu (x0:Int) (x1:Int) (x2:Int) (x3:Int) (x4:Int) (x5:Int) (x6:Int) (x7:Int) (x8:Int) (x9:Int) (x10:Int) (x11:Int) (x12:Int) (x13:Int) (x14:Int) (x15:Int):De Tryz.prog 22 4 [(0,.agg #[.int .i64 x0,.int .i64 x1,.int .i64 x2,.int .i64 x3]),(1,.agg #[.int .i64 x4,.int .i64 x5,.int .i64 x6,.int .i64 x7]),(2,.agg #[.int .i64 x8,.int .i64 x9,.int .i64 x10,.int .i64 x11]),(3,.agg #[.int .i64 x12,.int .i64 x13,.int .i64 x14,.int .i64 x15])] 70 [.int .i64 x0,.int .i64 x1,.int .i64 x2,.int .i64 x3,.int .i64 x4,.int .i64 x5,.int .i64 x6,.int .i64 x7,.int .i64 x8,.int .i64 x9,.int .i64 x10,.int .i64 x11,.int .i64 x12,.int .i64 x13,.int .i64 x14,.int .i64 x15]:=fun w=>by kernel_rfl
instance (x0:Int) (x1:Int) (x2:Int) (x3:Int) (x4:Int) (x5:Int) (x6:Int) (x7:Int) (x8:Int) (x9:Int) (x10:Int) (x11:Int) (x12:Int) (x13:Int) (x14:Int) (x15:Int):Of Tryz.prog 22 4 [(0,.agg #[.int .i64 x0,.int .i64 x1,.int .i64 x2,.int .i64 x3]),(1,.agg #[.int .i64 x4,.int .i64 x5,.int .i64 x6,.int .i64 x7]),(2,.agg #[.int .i64 x8,.int .i64 x9,.int .i64 x10,.int .i64 x11]),(3,.agg #[.int .i64 x12,.int .i64 x13,.int .i64 x14,.int .i64 x15])] 70 [.int .i64 x0,.int .i64 x1,.int .i64 x2,.int .i64 x3,.int .i64 x4,.int .i64 x5,.int .i64 x6,.int .i64 x7,.int .i64 x8,.int .i64 x9,.int .i64 x10,.int .i64 x11,.int .i64 x12,.int .i64 x13,.int .i64 x14,.int .i64 x15]:=⟨Fu _ _ _ _ _ _ _ _ _ _ _ _ _ _ _ _⟩
theorem Bbs:Nf Tryz.prog 25 2:=.mk Tryz.underlying25 rfl (show Tryz.prog.info? 25=some Tryz.t25 from by kernel_rfl) (by kernel_rfl)
instance:AggI Tryz.prog 25 2:=⟨Bbs⟩
noncomputable def Hn (p0:Bj):Option Int :=
 bnd (Cb p0.V p0.Lines) fun r2=>
 jn (fun (s4:Bool)=>
 if s4=true then (some 64)
 else (some 0))
 (fun j4=>if r2.2=0 then (bnd (Im p0 r2.1) fun r0=>
 j4 (!(r0)))
 else (j4 true))
theorem Axk (x0:Int) (x1:Int) (x2:Int):Alr Tryz.prog 94 [.int .i64 x0,.int .i64 x1,.int .i64 x2]:=by
 intro j h k w
 have h':j < 3:=h
 match j,h,h' with
 | 0,_,_=>exact (show (Instr.index 94 (.agg ([.int .i64 x0,.int .i64 x1,.int .i64 x2]:List Value).toArray) (.int k ((0:Nat):Int))).run Tryz.prog w = .ok (.int .i64 x0) w by kernel_rfl)
 | 1,_,_=>exact (show (Instr.index 94 (.agg ([.int .i64 x0,.int .i64 x1,.int .i64 x2]:List Value).toArray) (.int k ((1:Nat):Int))).run Tryz.prog w = .ok (.int .i64 x1) w by kernel_rfl)
 | 2,_,_=>exact (show (Instr.index 94 (.agg ([.int .i64 x0,.int .i64 x1,.int .i64 x2]:List Value).toArray) (.int k ((2:Nat):Int))).run Tryz.prog w = .ok (.int .i64 x2) w by kernel_rfl)
instance (x0:Int) (x1:Int) (x2:Int):Axg Tryz.prog 94 [.int .i64 x0,.int .i64 x1,.int .i64 x2]:=⟨Axk _ _ _⟩
instance (x0:Int) (x1:Int) (x2:Int):Atf Tryz.prog 94 [.int .i64 x0,.int .i64 x1,.int .i64 x2] (Value.int .i64) [x0,x1,x2]:=⟨Axk _ _ _⟩
noncomputable def Dk (x0:Ae) (p0:Bj) (p1:Int) (r0:Am):(Bool × (List Int) × (List Int) × Bool × (List Int) × (List Int) × Int)->Option (Sum (Bool × (List Int) × (List Int) × Bool × (List Int) × (List Int) × Int) (Bool × (List Int) × (List Int) × Bool × (List Int) × (List Int))):=fun s0=>
 if s0.2.2.2.2.2.2 < 3 then (bnd (idx [x0.a0,x0.a1,x0.a2] s0.2.2.2.2.2.2) fun x1=>
 bnd (idx p0.V x1) fun x2=>
 bnd (Cj (w64 (x2.Z.Lo-p1))) fun r1=>
 bnd (Hj r0 r1) fun r2=>
 bnd (Hg (⟨(⟨s0.1,s0.2.1⟩:Ai),s0.2.2.1⟩:Am) r2) fun r3=>
 bnd (idx p0.V x1) fun x3=>
 bnd (Cj (w64 (x3.Z.Hi-p1))) fun r4=>
 bnd (Hj r0 r4) fun r5=>
 bnd (Hg (⟨(⟨s0.2.2.2.1,s0.2.2.2.2.1⟩:Ai),s0.2.2.2.2.2.1⟩:Am) r5) fun r6=>
 some (.inl (r3.N.Neg,r3.N.L,r3.D,r6.N.Neg,r6.N.L,r6.D,w64 (s0.2.2.2.2.2.2+1))))
 else (some (.inr (s0.1,s0.2.1,s0.2.2.1,s0.2.2.2.1,s0.2.2.2.2.1,s0.2.2.2.2.2.1)))
noncomputable def Fp (p0:Bj) (p1:Int):(Bool × (List Int) × (List Int) × Bool × (List Int) × (List Int) × Int)->Option (Sum (Bool × (List Int) × (List Int) × Bool × (List Int) × (List Int) × Int) (Bool × (List Int) × (List Int) × Bool × (List Int) × (List Int))):=fun s0=>
 if s0.2.2.2.2.2.2 < ((((p0.T).length:Nat):Int)) then (jn (fun (s1:Bool × (List Int) × (List Int) × Bool × (List Int) × (List Int))=>
 some (.inl (s1.1,s1.2.1,s1.2.2.1,s1.2.2.2.1,s1.2.2.2.2.1,s1.2.2.2.2.2,w64 (s0.2.2.2.2.2.2+1))))
 (fun j0=>bnd (idx p0.T s0.2.2.2.2.2.2) fun x0=>
 bnd (idx p0.V x0.a0) fun x1=>
 bnd (idx p0.V x0.a1) fun x2=>
 bnd (idx p0.V x0.a2) fun x3=>
 bnd (Aj (⟨x1.X,x1.Y,(⟨x1.Z.Lo,x1.Z.Hi⟩:Al)⟩:Ab)) fun r0=>
 bnd (Aj (⟨x2.X,x2.Y,(⟨x2.Z.Lo,x2.Z.Hi⟩:Al)⟩:Ab)) fun r1=>
 bnd (Aj (⟨x3.X,x3.Y,(⟨x3.Z.Lo,x3.Z.Hi⟩:Al)⟩:Ab)) fun r2=>
 bnd (Jk r0 r1 r2) fun r3=>
 bnd (Cj r3) fun r4=>
 bnd (lfix (Dk x0 p0 p1 r4) (s0.1,s0.2.1,s0.2.2.1,s0.2.2.2.1,s0.2.2.2.2.1,s0.2.2.2.2.2.1,0)) fun t0=>
 j0 t0))
 else (some (.inr (s0.1,s0.2.1,s0.2.2.1,s0.2.2.2.1,s0.2.2.2.2.1,s0.2.2.2.2.2.1)))
noncomputable def Ge (p0:Bj) (p1:Int):Option (Am × Am × Int) :=
 bnd (Hn p0) fun r4=>
 if r4=0 then (jn (fun (s6:Bool)=>
 if s6=true then (some ((⟨(⟨false,([]:List Int)⟩:Ai),([]:List Int)⟩:Am),(⟨(⟨false,([]:List Int)⟩:Ai),([]:List Int)⟩:Am),2))
 else (bnd (Cj 0) fun r0=>
 bnd (Cj 0) fun r1=>
 jn (fun (s9:Bool × (List Int) × (List Int) × Bool × (List Int) × (List Int))=>
 some ((⟨(⟨s9.1,s9.2.1⟩:Ai),s9.2.2.1⟩:Am),(⟨(⟨s9.2.2.2.1,s9.2.2.2.2.1⟩:Ai),s9.2.2.2.2.2⟩:Am),0))
 (fun j9=>bnd (lfix (Fp p0 p1) (r0.N.Neg,r0.N.L,r0.D,r1.N.Neg,r1.N.L,r1.D,0)) fun t0=>
 j9 t0)))
 (fun j6=>if p1 < (-268435456) then (j6 true)
 else (j6 (decide (268435456 < p1)))))
 else (some ((⟨(⟨false,([]:List Int)⟩:Ai),([]:List Int)⟩:Am),(⟨(⟨false,([]:List Int)⟩:Ai),([]:List Int)⟩:Am),64))
structure Du where
 V:List Ab
 Lines:List Aa
noncomputable def Py (p0:Du) (p1:Int) (p2:Int):Option Bool :=
 jn (fun (s2:Bool)=>
 some s2)
 (fun j2=>if p1 < ((((p0.V).length:Nat):Int)) then (j2 true)
 else (j2 (decide (p2 < ((((p0.Lines).length:Nat):Int))))))
noncomputable def Eh  : Option Bool :=
 bnd (Lm ([(⟨0,0,(⟨0,0⟩:Al)⟩:Ab),(⟨2,0,(⟨0,0⟩:Al)⟩:Ab),(⟨0,2,(⟨0,0⟩:Al)⟩:Ab),(⟨2,2,(⟨0,0⟩:Al)⟩:Ab)]) ([]:List Aa)) fun r3=>
 jn (fun (s3:Bool)=>
 some s3)
 (fun j3=>if r3.2=0 then (if ((((r3.1.T).length:Nat):Int))=2 then (bnd (idx r3.1.T 0) fun x0=>
 if ((((x0.a0) == (0)) && (((x0.a1) == (1)) && (((x0.a2) == (2)) && true))))=true then (bnd (idx r3.1.T 1) fun x1=>
 j3 (((x1.a0) == (1)) && (((x1.a1) == (3)) && (((x1.a2) == (2)) && true))))
 else (j3 false))
 else (j3 false))
 else (j3 false))
noncomputable def Cd (p0:As) (p1:Am):Option Bool :=
 bnd (Pq p0) fun r3=>
 jn (fun (s3:Bool)=>
 some s3)
 (fun j3=>if r3.2=true then (bnd (Mi r3.1 p1) fun r0=>
 j3 (decide (r0=0)))
 else (j3 false))
noncomputable def Kv (p0:As):Option Bool :=
 bnd (Cj 0) fun r2=>
 bnd (Cd p0 r2) fun r0=>
 some r0
noncomputable def Gf (p0:Du) (p1:Int):Option Bool :=
 bnd (Py p0 24 8) fun r2=>
 if r2=true then (bnd (Eh) fun r7=>
 some r7)
 else (bnd (Cb p0.V p0.Lines) fun r0=>
 if r0.2=0 then (bnd (Mo r0.1 p1) fun r1=>
 bnd (Ge r0.1 p1) fun r3=>
 if r1.2.2=r3.2.2 then (if r3.2.2=0 then (jn (fun (s0:Bool)=>
 if s0=true then (jn (fun (s1:Bool)=>
 some s1)
 (fun j0=>if p1=268435456 then (bnd (Cd r1.1 r3.1) fun r4=>
 if r4=true then (bnd (Cd r1.2.1 r3.2.1) fun r5=>
 if r5=true then (bnd (Eh) fun r6=>
 j0 r6)
 else (j0 false))
 else (j0 false))
 else (j0 false)))
 else (bnd (Vj r0.1) fun r8=>
 bnd (Mo r0.1 (w64 (p1+1))) fun r9=>
 bnd (Cj 3) fun r10=>
 bnd (Cj r8.1) fun r12=>
 bnd (Hj r10 r12) fun r13=>
 jn (fun (s2:Bool)=>
 some s2)
 (fun j1=>if r8.2=0 then (if r9.2.2=0 then (bnd (Hh r3.1 r13) fun r14=>
 bnd (Cd r9.1 r14) fun r15=>
 if r15=true then (bnd (Hh r3.2.1 r13) fun r16=>
 bnd (Cd r9.2.1 r16) fun r17=>
 if r17=true then (bnd (Eh) fun r18=>
 j1 r18)
 else (j1 false))
 else (j1 false))
 else (j1 false))
 else (j1 false))))
 (fun j2=>bnd (Cd r1.1 r3.1) fun r19=>
 if r19=true then (bnd (Cd r1.2.1 r3.2.1) fun r20=>
 if r20=true then (j2 (decide (p1=268435456)))
 else (j2 true))
 else (j2 true)))
 else (jn (fun (s3:Bool)=>
 some s3)
 (fun j3=>bnd (Kv r1.1) fun r74=>
 if r74=true then (bnd (Kv r1.2.1) fun r83=>
 if r83=true then (bnd (Eh) fun r88=>
 j3 r88)
 else (j3 false))
 else (j3 false))))
 else (some false))
 else (bnd (Eh) fun r23=>
 some r23))
set_option maxHeartbeats 1000000 in
set_option maxRecDepth 100000 in
instance lidarref06_Check_c (p0:Bj):Con (Hn p0) Tryz.prog 37 (fun K vs=>∃ (A0_0:Option Addr) (c0_0:Nat) (A0_1:Option Addr) (c0_1:Nat) (A0_2:Option Addr) (c0_2:Nat),vs=[.agg #[.slice (A0_0) ((p0.V).length) (c0_0),.slice (A0_1) ((p0.T).length) (c0_1),.slice (A0_2) ((p0.Lines).length) (c0_2)]]/\Has K A0_0 (p0.V).length c0_0 4 Ah (p0.V)/\Has K A0_1 (p0.T).length c0_1 3 Bc (p0.T)/\Has K A0_2 (p0.Lines).length c0_2 2 Ak (p0.Lines)/\True) (fun _ r=>fun v Ln=>v = .int .i64 (r)/\Ln=[]/\True):=⟨by
 rintro K _ r ⟨A0_0,c0_0,A0_1,c0_1,A0_2,c0_2,rfl,ha0,ha1,ha2,-⟩ hx w hK;replace ha0:=Has.lo ha0 hK;replace ha1:=Has.lo ha1 hK;replace ha2:=Has.lo ha2 hK;unfold Hn at hx;refine CtS Tryz.ntmps37 Tryz.results37 ?_;exact au⟩
set_option maxHeartbeats 8000000 in
set_option maxRecDepth 100000 in
instance lidarref06_Volume_c (p0:Bj) (p1:Int):Con (Ge p0 p1) Tryz.prog 16 (fun K vs=>∃ (A0_0:Option Addr) (c0_0:Nat) (A0_1:Option Addr) (c0_1:Nat) (A0_2:Option Addr) (c0_2:Nat),vs=[.agg #[.slice (A0_0) ((p0.V).length) (c0_0),.slice (A0_1) ((p0.T).length) (c0_1),.slice (A0_2) ((p0.Lines).length) (c0_2)],.int .i64 (p1)]/\Has K A0_0 (p0.V).length c0_0 4 Ah (p0.V)/\Has K A0_1 (p0.T).length c0_1 3 Bc (p0.T)/\Has K A0_2 (p0.Lines).length c0_2 2 Ak (p0.Lines)/\True) (fun _ r=>fun v Ln=>∃ (A0:Option Addr) (c0:Nat) (A2:Option Addr) (c2:Nat) (A4:Option Addr) (c4:Nat) (A6:Option Addr) (c6:Nat),v = .tuple #[.agg #[.bool (r.1.N.Neg),.slice (A0) ((r.1.N.L).length) (c0),.slice (A2) ((r.1.D).length) (c2)],.agg #[.bool (r.2.1.N.Neg),.slice (A4) ((r.2.1.N.L).length) (c4),.slice (A6) ((r.2.1.D).length) (c6)],.int .i64 (r.2.2)]/\Ln=[.r A0 (r.1.N.L).length c0 3 1 ((r.1.N.L).flatMap Aq),.r A2 (r.1.D).length c2 3 1 ((r.1.D).flatMap Aq),.r A4 (r.2.1.N.L).length c4 3 1 ((r.2.1.N.L).flatMap Aq),.r A6 (r.2.1.D).length c6 3 1 ((r.2.1.D).flatMap Aq)]/\True):=⟨by
 rintro K _ r ⟨A0_0,c0_0,A0_1,c0_1,A0_2,c0_2,rfl,ha0,ha1,ha2,-⟩ hx w hK;replace ha0:=Has.lo ha0 hK;replace ha1:=Has.lo ha1 hK;replace ha2:=Has.lo ha2 hK;unfold Ge at hx;have:=dl 9 [0,1,0,1,0,1,2,0,1,0,1,0,1,2,0,1,0,1,0,1,2,2,2,4,3] [0,1,2,3,4,5,7,8,9,10,11,12,14,15,16,17,18,19,6,13,20,21,22,23,24] [23];have:=dl 13 [1,1,0,1,0,0,0,0,1,0,0,2,2,2,3] [0,1,2,3,4,5,6,7,8,9,10,11,12,13,14];have:=dl 14 [1,1,0,1,0,0,0,0,1,0,0,2,2,2,3] [0,1,2,3,4,5,6,7,8,9,10,11,12,13,14];refine CtS Tryz.ntmps16 Tryz.results16 ?_;try (refine pre ?_;intros;rename_i hx)
 refine Cq2 (s:=14) hx rfl (fun _ hx=>?_) (fun _ hx=>?_)
 ·try (refine pre ?_;intros;rename_i hx)
  (with_reducible apply Aol 5 [1,1,3,3,2] [[],[],[0],[0,1,2],[0,1,2,3]] [1] (.q 0 (.q 1 (.e 2 (.e 3 (.e 4 (.done) (.stop)) (.stop)) (.stop)))));exact rfl;exact aT;exact mixed;kernel_rfl;kernel_rfl;refine P_q rfl rfl (by exact evB) rfl ?_;refine P_r rfl rfl (by exact evB) rfl ?_;refine P_hR rfl rfl (Qv rfl rfl rfl rfl sA sP rfl rfl ?_) ?_;rotate_left;exact Ct;refine Aiz (fun w hw=>SubE.ok sU w hw) ?_;refine P_hL rfl rfl rfl (Qv rfl rfl rfl rfl sA sP rfl rfl ?_) ?_;rotate_left;exact Ct;refine P_x rfl (Pk (Fi rfl) rfl ?_) ?_;rotate_left;exact Ct;refine Aft ?_
  exact au
 ·try (refine pre ?_;intros;rename_i hx)
  refine Bn ?_;try (refine pre ?_;intros;rename_i hx)
  apply Jr (γ:=Unit) hx [1,2,4,5] (fun s6 y6 f=>(22,.bool (s6))::f) [0,1,2,999] (fun s6 y6 l=>l);exact kk
  ·intro s6 y6 hx;refine Cq3 (s:=22) hx rfl (fun _ hx=>?_) (fun _ hx=>?_)
   ·try (refine pre ?_;intros;rename_i hx)
    (with_reducible apply Aol 5 [1,1,3,3,2] [[],[],[0],[0,1,2],[0,1,2,3]] [1] (.q 0 (.q 1 (.e 2 (.e 3 (.e 4 (.done) (.stop)) (.stop)) (.stop)))));exact rfl;exact aT;exact mixed;kernel_rfl;kernel_rfl;refine P_q rfl rfl (by exact evB) rfl ?_;refine P_r rfl rfl (by exact evB) rfl ?_;refine P_hR rfl rfl (Qv rfl rfl rfl rfl sA sP rfl rfl ?_) ?_;rotate_left;exact Ct;refine Aiz (fun w hw=>SubE.ok sU w hw) ?_;refine P_hL rfl rfl rfl (Qv rfl rfl rfl rfl sA sP rfl rfl ?_) ?_;rotate_left;exact Ct;refine P_x rfl (Pk (Fi rfl) rfl ?_) ?_;rotate_left;exact Ct;refine Aft ?_
    exact au
   ·try (refine pre ?_;intros;rename_i hx)
    apply Jr (γ:=(Option Addr) × (Nat) × (Option Addr) × (Nat) × (Option Addr) × (Nat) × (Option Addr) × (Nat) × (Nat) × (Nat)) hx [] (fun s9 y9 f=>(4,.pointer (some ⟨(y9.2.2.2.2.2.2.2.2.2),0,none⟩))::(5,.pointer (some ⟨(y9.2.2.2.2.2.2.2.2.1),0,none⟩))::f) [999] (fun s9 y9 l=>.r (y9.2.2.2.2.1) ((s9.2.2.2.2.1).length) (y9.2.2.2.2.2.1) 3 1 ((s9.2.2.2.2.1).flatMap Aq) :: .r (y9.2.2.2.2.2.2.1) ((s9.2.2.2.2.2).length) (y9.2.2.2.2.2.2.2.1) 3 1 ((s9.2.2.2.2.2).flatMap Aq) :: .r (y9.1) ((s9.2.1).length) (y9.2.1) 3 1 ((s9.2.1).flatMap Aq) :: .r (y9.2.2.1) ((s9.2.2.1).length) (y9.2.2.2.1) 3 1 ((s9.2.2.1).flatMap Aq) :: .m (y9.2.2.2.2.2.2.2.2.1) 52 [.bool (s9.2.2.2.1),.slice (y9.2.2.2.2.1) ((s9.2.2.2.2.1).length) (y9.2.2.2.2.2.1),.slice (y9.2.2.2.2.2.2.1) ((s9.2.2.2.2.2).length) (y9.2.2.2.2.2.2.2.1)] :: .m (y9.2.2.2.2.2.2.2.2.2) 52 [.bool (s9.1),.slice (y9.1) ((s9.2.1).length) (y9.2.1),.slice (y9.2.2.1) ((s9.2.2.1).length) (y9.2.2.2.1)]::l);exact kk
    ·intro s9 y9 hx;try (refine pre ?_;intros;rename_i hx)
     (with_reducible apply Aol 5 [1,1,3,3,2] [[],[],[0],[0,1,2],[0,1,2,3]] [1] (.q 0 (.q 1 (.e 2 (.e 3 (.e 4 (.done) (.stop)) (.stop)) (.stop)))));exact rfl;exact aT;exact mixed;kernel_rfl;kernel_rfl;refine P_q rfl rfl (by exact evB) rfl ?_;refine P_r rfl rfl (by exact evB) rfl ?_;refine P_hR rfl rfl (Qv rfl rfl rfl rfl sA sP rfl rfl ?_) ?_;rotate_left;exact Ct;refine Aiz (fun w hw=>SubE.ok sU w hw) ?_;refine P_hL rfl rfl rfl (Qv rfl rfl rfl rfl sA sP rfl rfl ?_) ?_;rotate_left;exact Ct;refine P_x rfl (Pk (Fi rfl) rfl ?_) ?_;rotate_left;exact Ct;refine Aft ?_
     exact au
    ·intro _ hx;try (refine pre ?_;intros;rename_i hx)
     apply Lr (γ:=(Option Addr) × (Nat) × (Option Addr) × (Nat) × (Option Addr) × (Nat) × (Option Addr) × (Nat) × (Nat) × (Nat)) hx [1,2,28,29] (fun s0 y0 f=>(4,.pointer (some ⟨(y0.2.2.2.2.2.2.2.2.2),0,none⟩))::(5,.pointer (some ⟨(y0.2.2.2.2.2.2.2.2.1),0,none⟩))::(30,.int .i64 (s0.2.2.2.2.2.2))::f) [6,999] (fun s0 y0 l=>.r (y0.2.2.2.2.1) ((s0.2.2.2.2.1).length) (y0.2.2.2.2.2.1) 3 1 ((s0.2.2.2.2.1).flatMap Aq) :: .r (y0.2.2.2.2.2.2.1) ((s0.2.2.2.2.2.1).length) (y0.2.2.2.2.2.2.2.1) 3 1 ((s0.2.2.2.2.2.1).flatMap Aq) :: .r (y0.1) ((s0.2.1).length) (y0.2.1) 3 1 ((s0.2.1).flatMap Aq) :: .r (y0.2.2.1) ((s0.2.2.1).length) (y0.2.2.2.1) 3 1 ((s0.2.2.1).flatMap Aq) :: .m (y0.2.2.2.2.2.2.2.2.1) 52 [.bool (s0.2.2.2.1),.slice (y0.2.2.2.2.1) ((s0.2.2.2.2.1).length) (y0.2.2.2.2.2.1),.slice (y0.2.2.2.2.2.2.1) ((s0.2.2.2.2.2.1).length) (y0.2.2.2.2.2.2.2.1)] :: .m (y0.2.2.2.2.2.2.2.2.2) 52 [.bool (s0.1),.slice (y0.1) ((s0.2.1).length) (y0.2.1),.slice (y0.2.2.1) ((s0.2.2.1).length) (y0.2.2.2.1)]::l) (_,_,_,_,_,_,_,_,_,_);exact kk;exact sk;intro s0 y0 x0 hx _;unfold Fp at hx
     try (refine pre ?_;intros;rename_i hx)
     refine Cq1 (s:=31) hx rfl (fun _ hx=>?_) (fun _ hx=>?_)
     ·try (refine pre ?_;intros;rename_i hx)
      apply Jr (γ:=(Option Addr) × (Nat) × (Option Addr) × (Nat) × (Option Addr) × (Nat) × (Option Addr) × (Nat) × (Nat) × (Nat)) hx [1,2,28,29,30] (fun s1 y1 f=>(4,.pointer (some ⟨(y1.2.2.2.2.2.2.2.2.2),0,none⟩))::(5,.pointer (some ⟨(y1.2.2.2.2.2.2.2.2.1),0,none⟩))::f) [6,999] (fun s1 y1 l=>.r (y1.2.2.2.2.1) ((s1.2.2.2.2.1).length) (y1.2.2.2.2.2.1) 3 1 ((s1.2.2.2.2.1).flatMap Aq) :: .r (y1.2.2.2.2.2.2.1) ((s1.2.2.2.2.2).length) (y1.2.2.2.2.2.2.2.1) 3 1 ((s1.2.2.2.2.2).flatMap Aq) :: .r (y1.1) ((s1.2.1).length) (y1.2.1) 3 1 ((s1.2.1).flatMap Aq) :: .r (y1.2.2.1) ((s1.2.2.1).length) (y1.2.2.2.1) 3 1 ((s1.2.2.1).flatMap Aq) :: .m (y1.2.2.2.2.2.2.2.2.1) 52 [.bool (s1.2.2.2.1),.slice (y1.2.2.2.2.1) ((s1.2.2.2.2.1).length) (y1.2.2.2.2.2.1),.slice (y1.2.2.2.2.2.2.1) ((s1.2.2.2.2.2).length) (y1.2.2.2.2.2.2.2.1)] :: .m (y1.2.2.2.2.2.2.2.2.2) 52 [.bool (s1.1),.slice (y1.1) ((s1.2.1).length) (y1.2.1),.slice (y1.2.2.1) ((s1.2.2.1).length) (y1.2.2.2.1)]::l);exact kk
      ·intro s1 y1 hx;exact au
      ·intro _ hx;try (refine pre ?_;intros;rename_i hx)
       apply Lr (γ:=(Option Addr) × (Nat) × (Option Addr) × (Nat) × (Option Addr) × (Nat) × (Option Addr) × (Nat) × (Nat) × (Nat)) hx [1,2,9,28,29,30,57] (fun s2 y2 f=>(4,.pointer (some ⟨(y2.2.2.2.2.2.2.2.2.2),0,none⟩))::(5,.pointer (some ⟨(y2.2.2.2.2.2.2.2.2.1),0,none⟩))::(58,.int .i64 (s2.2.2.2.2.2.2))::f) [0,1,2,10,999] (fun s2 y2 l=>.r (y2.2.2.2.2.1) ((s2.2.2.2.2.1).length) (y2.2.2.2.2.2.1) 3 1 ((s2.2.2.2.2.1).flatMap Aq) :: .r (y2.2.2.2.2.2.2.1) ((s2.2.2.2.2.2.1).length) (y2.2.2.2.2.2.2.2.1) 3 1 ((s2.2.2.2.2.2.1).flatMap Aq) :: .r (y2.1) ((s2.2.1).length) (y2.2.1) 3 1 ((s2.2.1).flatMap Aq) :: .r (y2.2.2.1) ((s2.2.2.1).length) (y2.2.2.2.1) 3 1 ((s2.2.2.1).flatMap Aq) :: .m (y2.2.2.2.2.2.2.2.2.1) 52 [.bool (s2.2.2.2.1),.slice (y2.2.2.2.2.1) ((s2.2.2.2.2.1).length) (y2.2.2.2.2.2.1),.slice (y2.2.2.2.2.2.2.1) ((s2.2.2.2.2.2.1).length) (y2.2.2.2.2.2.2.2.1)] :: .m (y2.2.2.2.2.2.2.2.2.2) 52 [.bool (s2.1),.slice (y2.1) ((s2.2.1).length) (y2.2.1),.slice (y2.2.2.1) ((s2.2.2.1).length) (y2.2.2.2.1)]::l) (_,_,_,_,_,_,_,_,_,_);exact kk;exact sk;intro s2 y2 x1 hx _;unfold Dk at hx
       exact au
     ·exact au
  ·intro _ hx;exact au⟩
set_option maxRecDepth 100000 in
instance lidarlaw06_Wide_c (p0:Du) (p1:Int) (p2:Int):Con (Py p0 p1 p2) Tryz.prog 9 (fun K vs=>∃ (A0_0:Option Addr) (c0_0:Nat) (A0_1:Option Addr) (c0_1:Nat),vs=[.agg #[.slice (A0_0) ((p0.V).length) (c0_0),.slice (A0_1) ((p0.Lines).length) (c0_1)],.int .i64 (p1),.int .i64 (p2)]/\Has K A0_0 (p0.V).length c0_0 4 Ah (p0.V)/\Has K A0_1 (p0.Lines).length c0_1 2 Ak (p0.Lines)/\True) (fun _ r=>fun v Ln=>v = .bool (r)/\Ln=[]/\True):=⟨by
 rintro K _ r ⟨A0_0,c0_0,A0_1,c0_1,rfl,ha0,ha1,-⟩ hx w hK;replace ha0:=Has.lo ha0 hK;replace ha1:=Has.lo ha1 hK;unfold Py at hx;refine CtS Tryz.ntmps9 Tryz.results9 ?_;exact au⟩
set_option maxHeartbeats 1000000 in
set_option maxRecDepth 100000 in
instance lidarlaw06_awake_c  : Con (Eh) Tryz.prog 10 (fun _ vs=>vs=[]) (fun _ r=>fun v Ln=>v = .bool (r)/\Ln=[]/\True):=⟨by
 rintro _ _ r rfl hx w hK;unfold Eh at hx;refine CtS Tryz.ntmps10 Tryz.results10 ?_;exact au⟩
set_option maxRecDepth 100000 in
instance lidarlaw06_SameRat_c (p0:As) (p1:Am):Con (Cd p0 p1) Tryz.prog 18 (fun K vs=>∃ (A0_0:Option Addr) (c0_0:Nat) (A0_1:Option Addr) (c0_1:Nat) (A0_2:Option Addr) (c0_2:Nat) (A0_3:Option Addr) (c0_3:Nat),vs=[.agg #[.bool (p0.Neg),.slice (A0_0) ((p0.Num).length) (c0_0),.slice (A0_1) ((p0.Den).length) (c0_1)],.agg #[.bool (p1.N.Neg),.slice (A0_2) ((p1.N.L).length) (c0_2),.slice (A0_3) ((p1.D).length) (c0_3)]]/\Has K A0_0 (p0.Num).length c0_0 1 Ao (p0.Num)/\Has K A0_1 (p0.Den).length c0_1 1 Ao (p0.Den)/\Has K A0_2 (p1.N.L).length c0_2 1 Aq (p1.N.L)/\Has K A0_3 (p1.D).length c0_3 1 Aq (p1.D)/\True) (fun _ r=>fun v Ln=>v = .bool (r)/\Ln=[]/\True):=⟨by
 rintro K _ r ⟨A0_0,c0_0,A0_1,c0_1,A0_2,c0_2,A0_3,c0_3,rfl,ha0,ha1,ha2,ha3,-⟩ hx w hK;replace ha0:=Has.lo ha0 hK;replace ha1:=Has.lo ha1 hK;replace ha2:=Has.lo ha2 hK;replace ha3:=Has.lo ha3 hK;unfold Cd at hx;refine CtS Tryz.ntmps18 Tryz.results18 ?_;exact au⟩
set_option maxRecDepth 100000 in
instance lidarlaw06_zero_c (p0:As):Con (Kv p0) Tryz.prog 17 (fun K vs=>∃ (A0_0:Option Addr) (c0_0:Nat) (A0_1:Option Addr) (c0_1:Nat),vs=[.agg #[.bool (p0.Neg),.slice (A0_0) ((p0.Num).length) (c0_0),.slice (A0_1) ((p0.Den).length) (c0_1)]]/\Has K A0_0 (p0.Num).length c0_0 1 Ao (p0.Num)/\Has K A0_1 (p0.Den).length c0_1 1 Ao (p0.Den)/\True) (fun _ r=>fun v Ln=>v = .bool (r)/\Ln=[]/\True):=⟨by
 rintro K _ r ⟨A0_0,c0_0,A0_1,c0_1,rfl,ha0,ha1,-⟩ hx w hK;replace ha0:=Has.lo ha0 hK;replace ha1:=Has.lo ha1 hK;unfold Kv at hx;have:=dl 1 [1,2,2,2] [0,1,2,3];refine CtS Tryz.ntmps17 Tryz.results17 ?_;exact au⟩
set_option maxHeartbeats 1000000 in
set_option maxRecDepth 100000 in
instance Ul (p0:Du) (p1:Int):Con (Gf p0 p1) Tryz.prog 4 (fun K vs=>∃ (A0_0:Option Addr) (c0_0:Nat) (A0_1:Option Addr) (c0_1:Nat),vs=[.agg #[.slice (A0_0) ((p0.V).length) (c0_0),.slice (A0_1) ((p0.Lines).length) (c0_1)],.int .i64 (p1)]/\Has K A0_0 (p0.V).length c0_0 4 Ah (p0.V)/\Has K A0_1 (p0.Lines).length c0_1 2 Ak (p0.Lines)/\True) (fun _ r=>fun v Ln=>v = .bool (r)/\Ln=[]/\True):=⟨by
 rintro K _ r ⟨A0_0,c0_0,A0_1,c0_1,rfl,ha0,ha1,-⟩ hx w hK;replace ha0:=Has.lo ha0 hK;replace ha1:=Has.lo ha1 hK;unfold Gf at hx;have:=dl 17 [0,0,0,0,0,0,0,1,1,1,2,2,0,0,1,1,1,2,2,0,0,2,0,2] [0,1,2,3,4,5,6,7,8,9,10,11,12,13,14,15,16,17,18,19,20,21,22,23];refine CtS Tryz.ntmps4 Tryz.results4 ?_;try (refine pre ?_;intros;rename_i hx)
 refine Cq3 (s:=19) hx rfl (fun _ hx=>?_) (fun _ hx=>?_)
 ·exact au
 ·try (refine pre ?_;intros;rename_i hx)
  refine Cq2 (s:=30) hx rfl (fun _ hx=>?_) (fun _ hx=>?_)
  ·exact au
  ·try (refine pre ?_;intros;rename_i hx)
   refine Cq2 (s:=48) hx rfl (fun _ hx=>?_) (fun _ hx=>?_)
   ·exact au
   ·try (refine pre ?_;intros;rename_i hx)
    refine Cq2 (s:=50) hx rfl (fun _ hx=>?_) (fun _ hx=>?_)
    ·exact au
    ·try (refine pre ?_;intros;rename_i hx)
     refine Bn ?_;try (refine pre ?_;intros;rename_i hx)
     apply Jr (γ:=Unit) hx [1,5,7,8,9,10] (fun s0 y0 f=>(73,.bool (s0))::f) [0,1,2,3,4,5,6,7,8,9,10,11,12,13,14,15,999] (fun s0 y0 l=>l);exact kk
     ·intro s0 y0 hx;refine Cq3 (s:=73) hx rfl (fun _ hx=>?_) (fun _ hx=>?_)
      ·exact au
      ·try (refine pre ?_;intros;rename_i hx)
       apply Jr (γ:=Unit) hx [] (fun s1 y1 f=>(4,.bool (s1))::f) [999] (fun s1 y1 l=>l);exact kk
       ·intro s1 y1 hx;exact au
       ·intro _ hx;try (refine pre ?_;intros;rename_i hx)
        refine (Cb1 (s:=108) hx rfl (fun _ hx=>?_) (fun _ hx=>?_)) ⟨_,_,rfl,rfl⟩
        ·exact au
        ·exact au
     ·intro _ hx;exact au⟩
theorem Tp (p0:Du) (p1:Int) {K:List Ent} {A0_0:Option Addr} {c0_0:Nat} {A0_1:Option Addr} {c0_1:Nat} (ha0:Has K A0_0 (p0.V).length c0_0 4 Ah (p0.V)) (ha1:Has K A0_1 (p0.Lines).length c0_1 2 Ak (p0.Lines)) {r:Bool} (hx:Gf p0 p1=some r) (w:World) (hK:∀ e∈K,Ent.ok w e):CtL Tryz.prog 4 [.agg #[.slice (A0_0) ((p0.V).length) (c0_0),.slice (A0_1) ((p0.Lines).length) (c0_1)],.int .i64 (p1)] w fun v Ln=>v = .bool (r)/\Ln=[]/\True:=(Ul p0 p1).h K _ _ ⟨_,_,_,_,rfl,ha0,ha1,trivial⟩ hx w hK
end Go.Proofs.YtjfndjmabhbicaaGreat
