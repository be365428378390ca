/- Walks of the program, with their plain functions: MeshChecks. -/
import Derived.Test.YtoojmkhjdjianaaGreatC5
import Derived.Test.YtoojmkhjdjianaaGreatL11a
import Derived.Test.YtoojmkhjdjianaaGreatZ2
namespace Go.Proofs.YtoojmkhjdjianaaGreat
open Go Go.RowKit
theorem Aup  : Hj Tryz.prog 70 [] [.int .i64 (0),.int .i64 (0),.int .i64 (0),.int .i64 (0)]:=fun w=>by kernel_rfl
instance:Lv Tryz.prog 70 [] [.int .i64 (0),.int .i64 (0),.int .i64 (0),.int .i64 (0)]:=⟨Aup⟩
theorem Aji (x0:Int):Hj Tryz.prog 70 [(0,.int .i64 x0)] [.int .i64 x0,.int .i64 (0),.int .i64 (0),.int .i64 (0)]:=fun w=>by kernel_rfl
instance (x0:Int):Lv Tryz.prog 70 [(0,.int .i64 x0)] [.int .i64 x0,.int .i64 (0),.int .i64 (0),.int .i64 (0)]:=⟨Aji _⟩
theorem Ajj (x0:Int):Hj Tryz.prog 70 [(1,.int .i64 x0)] [.int .i64 (0),.int .i64 x0,.int .i64 (0),.int .i64 (0)]:=fun w=>by kernel_rfl
instance (x0:Int):Lv Tryz.prog 70 [(1,.int .i64 x0)] [.int .i64 (0),.int .i64 x0,.int .i64 (0),.int .i64 (0)]:=⟨Ajj _⟩
theorem Adi (x0:Int) (x1:Int):Hj Tryz.prog 70 [(0,.int .i64 x0),(1,.int .i64 x1)] [.int .i64 x0,.int .i64 x1,.int .i64 (0),.int .i64 (0)]:=fun w=>by kernel_rfl
instance (x0:Int) (x1:Int):Lv Tryz.prog 70 [(0,.int .i64 x0),(1,.int .i64 x1)] [.int .i64 x0,.int .i64 x1,.int .i64 (0),.int .i64 (0)]:=⟨Adi _ _⟩
theorem Fd (x0:Int) (x1:Int) (x2:Int) (x3:Int) (x4:Int) (x5:Int) (x6:Int) (x7:Int) (x8:Int) (x9:Int) (x10:Int) (x11:Int) (x12:Int) (x13:Int) (x14:Int) (x15:Int):Dd Tryz.prog 22 4 [(0,.agg #[.int .i64 x0,.int .i64 x1,.int .i64 x2,.int .i64 x3]),(1,.agg #[.int .i64 x4,.int .i64 x5,.int .i64 x6,.int .i64 x7]),(2,.agg #[.int .i64 x8,.int .i64 x9,.int .i64 x10,.int .i64 x11]),(3,.agg #[.int .i64 x12,.int .i64 x13,.int .i64 x14,.int .i64 x15])] 70 [.int .i64 x0,.int .i64 x1,.int .i64 x2,.int .i64 x3,.int .i64 x4,.int .i64 x5,.int .i64 x6,.int .i64 x7,.int .i64 x8,.int .i64 x9,.int .i64 x10,.int .i64 x11,.int .i64 x12,.int .i64 x13,.int .i64 x14,.int .i64 x15]:=fun w=>by kernel_rfl
instance (x0:Int) (x1:Int) (x2:Int) (x3:Int) (x4:Int) (x5:Int) (x6:Int) (x7:Int) (x8:Int) (x9:Int) (x10:Int) (x11:Int) (x12:Int) (x13:Int) (x14:Int) (x15:Int):Mu Tryz.prog 22 4 [(0,.agg #[.int .i64 x0,.int .i64 x1,.int .i64 x2,.int .i64 x3]),(1,.agg #[.int .i64 x4,.int .i64 x5,.int .i64 x6,.int .i64 x7]),(2,.agg #[.int .i64 x8,.int .i64 x9,.int .i64 x10,.int .i64 x11]),(3,.agg #[.int .i64 x12,.int .i64 x13,.int .i64 x14,.int .i64 x15])] 70 [.int .i64 x0,.int .i64 x1,.int .i64 x2,.int .i64 x3,.int .i64 x4,.int .i64 x5,.int .i64 x6,.int .i64 x7,.int .i64 x8,.int .i64 x9,.int .i64 x10,.int .i64 x11,.int .i64 x12,.int .i64 x13,.int .i64 x14,.int .i64 x15]:=⟨Fd _ _ _ _ _ _ _ _ _ _ _ _ _ _ _ _⟩
theorem Ml (x0:Int) (x1:Int) (x2:Int) (x3:Int) (x4:Int) (x5:Int) (x6:Int) (x7:Int):Dd Tryz.prog 87 8 [(0,.int .i64 x0),(1,.int .i64 x1),(2,.int .i64 x2),(3,.int .i64 x3),(4,.int .i64 x4),(5,.int .i64 x5),(6,.int .i64 x6),(7,.int .i64 x7)] 33 [.int .i64 x0,.int .i64 x1,.int .i64 x2,.int .i64 x3,.int .i64 x4,.int .i64 x5,.int .i64 x6,.int .i64 x7]:=fun w=>by kernel_rfl
instance (x0:Int) (x1:Int) (x2:Int) (x3:Int) (x4:Int) (x5:Int) (x6:Int) (x7:Int):Mu Tryz.prog 87 8 [(0,.int .i64 x0),(1,.int .i64 x1),(2,.int .i64 x2),(3,.int .i64 x3),(4,.int .i64 x4),(5,.int .i64 x5),(6,.int .i64 x6),(7,.int .i64 x7)] 33 [.int .i64 x0,.int .i64 x1,.int .i64 x2,.int .i64 x3,.int .i64 x4,.int .i64 x5,.int .i64 x6,.int .i64 x7]:=⟨Ml _ _ _ _ _ _ _ _⟩
theorem Awt:Jc Tryz.prog 87 33 1:=.mk Tryz.underlying87 (show Tryz.prog.info? 33=some Tryz.t33 from by kernel_rfl) (by kernel_rfl)
instance:Kv Tryz.prog 87 33 1:=⟨Awt⟩
theorem Awu:Nz Tryz.prog 33:=.mk Tryz.underlying33 rfl (show Tryz.prog.info? 33=some Tryz.t33 from by kernel_rfl) (by kernel_rfl)
instance:OneI Tryz.prog 33:=⟨Awu⟩
theorem Awv (a0:Int) (a1:Int) (b0:Int) (b1:Int):∀ w,(Op.equalIn 10000 68 (.agg #[.int .i64 (a0),.int .i64 (a1)]) (.agg #[.int .i64 (b0),.int .i64 (b1)])).run Tryz.prog w = .ok ((((a0) == (b0)) && (((a1) == (b1)) && true))) w :=
 EqF.struct Tryz.underlying68 (by kernel_rfl) (.cons rfl (fun w=>by kernel_rfl) (fun w=>by kernel_rfl) (fun w=>run_equalIn_int w 9998 3 .i64 .i64 _ _ Tryz.underlying3) (.cons rfl (fun w=>by kernel_rfl) (fun w=>by kernel_rfl) (fun w=>run_equalIn_int w 9998 3 .i64 .i64 _ _ Tryz.underlying3) (EqF.nil)))
instance (a0:Int) (a1:Int) (b0:Int) (b1:Int):EqSI Tryz.prog 68 [.int .i64 (a0),.int .i64 (a1)] [.int .i64 (b0),.int .i64 (b1)] ((((a0) == (b0)) && (((a1) == (b1)) && true))):=⟨Awv _ _ _ _,by kernel_rfl⟩
noncomputable def Gn  : Option Bool :=
 bnd (Et ([(⟨0,0,(⟨0,0⟩:An)⟩:Ab),(⟨2,0,(⟨0,0⟩:An)⟩:Ab),(⟨0,2,(⟨0,0⟩:An)⟩:Ab),(⟨2,2,(⟨0,0⟩:An)⟩:Ab)]) ([]:List Aa)) fun r3 =>
 jn (fun (s3:Bool) =>
 some s3)
 (fun j3=>if r3.2=0 then (if ((((r3.1.T).length:Nat):Int))=2 then (bnd (idx r3.1.T 0) fun x0 =>
 if ((((x0.a0) == (0)) && (((x0.a1) == (1)) && (((x0.a2) == (2)) && true))))=true then (bnd (idx r3.1.T 1) fun x1 =>
 j3 (((x1.a0) == (1)) && (((x1.a1) == (3)) && (((x1.a2) == (2)) && true))))
 else (j3 false))
 else (j3 false))
 else (j3 false))
noncomputable def Lk (p0:Bt) (p1:Ax):Option Bool :=
 bnd (Mh p0) fun r3 =>
 jn (fun (s3:Bool) =>
 some s3)
 (fun j3=>if r3.2=true then (bnd (Kq r3.1 p1) fun r0 =>
 j3 (decide (r0=0)))
 else (j3 false))
noncomputable def Do (p0:Bt):Option Bool :=
 bnd (Kn 0) fun r2 =>
 bnd (Lk p0 r2) fun r0 =>
 some r0
instance:UndI Tryz.prog 87 (.slice 33):=⟨Tryz.underlying87⟩
instance:EncI 33 Ar:=⟨trivial⟩
instance:UndI Tryz.prog 36 (.slice 40):=⟨Tryz.underlying36⟩
instance:UndI Tryz.prog 90 (.slice 160):=⟨Tryz.underlying90⟩
noncomputable def Dz (r0:Ao × Int) (r1:Ao × Int) (r2:(List Aa) × Int) (r3:(List Int) × Int) (r4:Int × Int) (r5:Bt × Bt × Int) (r6:An × Int) (r7:Int × Int):Int->Option (Sum Int (Sum Unit Bool)):=fun s0 =>
 if s0 < (((8:Nat):Int)) then (bnd (idx ([r0.2,r1.2,r2.2,r3.2,r4.2,r5.2.2,r6.2,r7.2]) s0) fun x0 =>
 if x0=64 then (some (.inl (w64 (s0+1))))
 else (some (.inr (.inr (false)))))
 else (some (.inr (.inl ())))
noncomputable def Gd (p0:Ao) (p1:Int) (p2:Ac):Option Bool :=
 jn (fun (s3:Bool) =>
 if s3=true then (bnd (Gn) fun r0 =>
 some r0)
 else (bnd (Im p0) fun r1 =>
 bnd (Db p0) fun r2 =>
 if r2=r1 then (if r1=0 then (bnd (Gn) fun r3 =>
 some r3)
 else (bnd (Ql p0 (⟨p2.X,p2.Y,(⟨0,0⟩:An)⟩:Ab)) fun r4 =>
 bnd (Qm p0 p1) fun r5 =>
 bnd (Rw p0) fun r6 =>
 bnd (Qn p0 p1) fun r7 =>
 bnd (Pz p0 p2) fun r8 =>
 bnd (Nb p0 p2) fun r9 =>
 bnd (Qo p0 p2) fun r78 =>
 bnd (Tw p0) fun r82 =>
 jn (fun (s0:Unit) =>
 jn (fun (s1:Bool) =>
 if s1=true then (some false)
 else (bnd (Ow p0 p1) fun r10 =>
 bnd (Oc p0 p1 true) fun r11 =>
 bnd (Mi p0 (⟨0,1⟩:Aa) p1 false) fun r12 =>
 bnd (Pf p0 p2 (⟨p1,p1⟩:Ac)) fun r14 =>
 jn (fun (s2:Bool) =>
 some s2)
 (fun j0=>if r10.2.2=64 then (if r11.2=r10.2.2 then (if r12.2.2=r10.2.2 then (if r14.2=r10.2.2 then (bnd (Do r10.1) fun r15 =>
 if r15=true then (bnd (Do r10.2.1) fun r16 =>
 if r16=true then (if (w64 (((((r11.1).length:Nat):Int))+((((r14.1).length:Nat):Int))))=0 then (bnd (Do r12.1) fun r18 =>
 if r18=true then (bnd (Do r12.2.1) fun r19 =>
 if r19=true then (bnd (Gn) fun r21 =>
 j0 r21)
 else (j0 false))
 else (j0 false))
 else (j0 false))
 else (j0 false))
 else (j0 false))
 else (j0 false))
 else (j0 false))
 else (j0 false))
 else (j0 false))))
 (fun j1=>bnd (Cj r4.1 (⟨([]:List Ab),([]:List Ah),([]:List Aa)⟩:Ao)) fun r22 =>
 if r22=true then (bnd (Cj r5.1 (⟨([]:List Ab),([]:List Ah),([]:List Aa)⟩:Ao)) fun r23 =>
 if r23=true then (if (w64 ((w64 ((w64 (((((r6.1).length:Nat):Int))+((((r7.1).length:Nat):Int))))+r8.1))+r82.1))=0 then (bnd (Do r9.1) fun r24 =>
 if r24=true then (bnd (Do r9.2.1) fun r25 =>
 if r25=true then (j1 (!((((r78.1.Lo) == (0)) && (((r78.1.Hi) == (0)) && true)))))
 else (j1 true))
 else (j1 true))
 else (j1 true))
 else (j1 true))
 else (j1 true)))
 (fun j2=>bnd (lfix (Dz r4 r5 r6 r7 r8 r9 r78 r82) 0) fun t0 =>
 (match t0 with
 | (.inl z0)=>j2 z0
 | (.inr (z0))=>some z0
 ))))
 else (some false)))
 (fun j3=>if 24 < ((((p0.V).length:Nat):Int)) then (j3 true)
 else (if 60 < ((((p0.T).length:Nat):Int)) then (j3 true)
 else (j3 (decide (12 < ((((p0.Lines).length:Nat):Int)))))))
set_option maxHeartbeats 1000000 in
set_option maxRecDepth 100000 in
instance lidarlaw06_awake_c  : Con (Gn) Tryz.prog 10 (fun _ vs=>vs=[]) (fun _ r=>fun v Ln=>v = .bool (r)/\Ln=[]/\True):=⟨by
 rintro _ _ r rfl hx w hK;unfold Gn at hx;refine CtS Tryz.ntmps10 Tryz.results10 ?_;exact au⟩
set_option maxRecDepth 100000 in
instance lidarlaw06_SameRat_c (p0:Bt) (p1:Ax):Con (Lk p0 p1) Tryz.prog 18 (fun K vs=>∃ (A0_0:Option Addr) (c0_0:Nat) (A0_1:Option Addr) (c0_1:Nat) (A0_2:Option Addr) (c0_2:Nat) (A0_3:Option Addr) (c0_3:Nat),vs=[.agg #[.bool (p0.Neg),.slice (A0_0) ((p0.Num).length) (c0_0),.slice (A0_1) ((p0.Den).length) (c0_1)],.agg #[.bool (p1.N.Neg),.slice (A0_2) ((p1.N.L).length) (c0_2),.slice (A0_3) ((p1.D).length) (c0_3)]]/\Has K A0_0 (p0.Num).length c0_0 1 Bi (p0.Num)/\Has K A0_1 (p0.Den).length c0_1 1 Bi (p0.Den)/\Has K A0_2 (p1.N.L).length c0_2 1 Ar (p1.N.L)/\Has K A0_3 (p1.D).length c0_3 1 Ar (p1.D)/\True) (fun _ r=>fun v Ln=>v = .bool (r)/\Ln=[]/\True):=⟨by
 rintro K _ r ⟨A0_0,c0_0,A0_1,c0_1,A0_2,c0_2,A0_3,c0_3,rfl,ha0,ha1,ha2,ha3,-⟩ hx w hK;replace ha0:=Has.lo ha0 hK;replace ha1:=Has.lo ha1 hK;replace ha2:=Has.lo ha2 hK;replace ha3:=Has.lo ha3 hK;unfold Lk at hx;refine CtS Tryz.ntmps18 Tryz.results18 ?_;exact au⟩
set_option maxRecDepth 100000 in
instance lidarlaw06_zero_c (p0:Bt):Con (Do p0) Tryz.prog 17 (fun K vs=>∃ (A0_0:Option Addr) (c0_0:Nat) (A0_1:Option Addr) (c0_1:Nat),vs=[.agg #[.bool (p0.Neg),.slice (A0_0) ((p0.Num).length) (c0_0),.slice (A0_1) ((p0.Den).length) (c0_1)]]/\Has K A0_0 (p0.Num).length c0_0 1 Bi (p0.Num)/\Has K A0_1 (p0.Den).length c0_1 1 Bi (p0.Den)/\True) (fun _ r=>fun v Ln=>v = .bool (r)/\Ln=[]/\True):=⟨by
 rintro K _ r ⟨A0_0,c0_0,A0_1,c0_1,rfl,ha0,ha1,-⟩ hx w hK;replace ha0:=Has.lo ha0 hK;replace ha1:=Has.lo ha1 hK;unfold Do at hx;have:=dl 1 [1,2,2,2] [0,1,2,3];refine CtS Tryz.ntmps17 Tryz.results17 ?_;exact au⟩
set_option maxHeartbeats 8000000 in
set_option maxRecDepth 100000 in
instance Tu (p0:Ao) (p1:Int) (p2:Ac):Con (Gd p0 p1 p2) Tryz.prog 8 (fun K vs=>∃ (A0_0:Option Addr) (c0_0:Nat) (A0_1:Option Addr) (c0_1:Nat) (A0_2:Option Addr) (c0_2:Nat),vs=[.agg #[.slice (A0_0) ((p0.V).length) (c0_0),.slice (A0_1) ((p0.T).length) (c0_1),.slice (A0_2) ((p0.Lines).length) (c0_2)],.int .i64 (p1),.agg #[.int .i64 (p2.X),.int .i64 (p2.Y)]]/\Has K A0_0 (p0.V).length c0_0 4 Af (p0.V)/\Has K A0_1 (p0.T).length c0_1 3 Aq (p0.T)/\Has K A0_2 (p0.Lines).length c0_2 2 Ai (p0.Lines)/\True) (fun _ r=>fun v Ln=>v = .bool (r)/\Ln=[]/\True):=⟨by
 rintro K _ r ⟨A0_0,c0_0,A0_1,c0_1,A0_2,c0_2,rfl,ha0,ha1,ha2,-⟩ hx w hK;replace ha0:=Has.lo ha0 hK;replace ha1:=Has.lo ha1 hK;replace ha2:=Has.lo ha2 hK;unfold Gd at hx;refine CtS Tryz.ntmps8 Tryz.results8 ?_;try (refine pre ?_;intros;rename_i hx)
 refine Ck ?_;try (refine pre ?_;intros;rename_i hx)
 refine Ck ?_;try (refine pre ?_;intros;rename_i hx)
 apply Jr (γ:=Unit) hx [1,3,5] (fun s3 y3 f=>(46,.bool (s3))::f) [0,1,999] (fun s3 y3 l=>l);exact kk
 ·intro s3 y3 hx;refine Cq3 (s:=46) hx rfl (fun _ hx=>?_) (fun _ hx=>?_)
  ·exact au
  ·try (refine pre ?_;intros;rename_i hx)
   refine Cq2 (s:=53) hx rfl (fun _ hx=>?_) (fun _ hx=>?_)
   ·exact au
   ·try (refine pre ?_;intros;rename_i hx)
    refine Cq1 (s:=55) hx rfl (fun _ hx=>?_) (fun _ hx=>?_)
    ·exact au
    ·try (refine pre ?_;intros;rename_i hx)
     apply Jr (γ:=Unit) hx [1,3,5,8,10,12,14,16,18,19,21,23] (fun s0 y0 f=>f) [0,1,2,3,4,5,6,7,8,9,10,11,12,13,14,15,16,17,18,999] (fun s0 y0 l=>l);exact kk
     ·intro s0 y0 hx;try (refine pre ?_;intros;rename_i hx)
      refine Ck ?_;try (refine pre ?_;intros;rename_i hx)
      apply Jr (γ:=Unit) hx [1,3,5,18,19] (fun s1 y1 f=>(161,.bool (s1))::f) [1,2,3,4,5,6,17,18,999] (fun s1 y1 l=>l);exact kk
      ·intro s1 y1 hx;refine Cq3 (s:=161) hx rfl (fun _ hx=>?_) (fun _ hx=>?_)
       ·exact au
       ·try (refine pre ?_;intros;rename_i hx)
        apply Jr (γ:=Unit) hx [] (fun s2 y2 f=>(6,.bool (s2))::f) [999] (fun s2 y2 l=>l);exact kk
        ·intro s2 y2 hx;exact au
        ·intro _ hx;try (refine pre ?_;intros;rename_i hx)
         refine Cq1 (s:=194) hx rfl (fun _ hx=>?_) (fun _ hx=>?_)
         ·try (refine pre ?_;intros;rename_i hx)
          refine Cq1 (s:=199) hx rfl (fun _ hx=>?_) (fun _ hx=>?_)
          ·try (refine pre ?_;intros;rename_i hx)
           refine Cq1 (s:=204) hx rfl (fun _ hx=>?_) (fun _ hx=>?_)
           ·try (refine pre ?_;intros;rename_i hx)
            refine Cq1 (s:=209) hx rfl (fun _ hx=>?_) (fun _ hx=>?_)
            ·exact au
            ·exact au
           ·exact au
          ·exact au
         ·exact au
      ·intro _ hx;try (refine pre ?_;intros;rename_i hx)
       refine Cq4 (s:=129) hx rfl (fun _ hx=>?_) (fun _ hx=>?_)
       ·exact au
       ·exact au
     ·intro _ hx;try (refine pre ?_;intros;rename_i hx)
      (with_reducible apply Afk 116 (sz:=1));exact rfl;exact aT;exact inferInstance;exact dL;exact (fun _=>rfl);exact rfl;exact rfl;exact sA
      apply Lr (γ:=Unit) hx [1,3,5,8,10,12,14,16,18,19,21,23,116,117] (fun s4 y4 f=>(118,.int .i64 (s4))::f) [0,1,2,3,4,5,6,7,8,9,10,11,12,13,14,15,16,17,18,19,999] (fun s4 y4 l=>l) ();exact kk;exact sk;intro s4 y4 x0 hx _;unfold Dz at hx
      exact au
 ·intro _ hx;exact au⟩
theorem Tb (p0:Ao) (p1:Int) (p2:Ac) {K:List Ent} {A0_0:Option Addr} {c0_0:Nat} {A0_1:Option Addr} {c0_1:Nat} {A0_2:Option Addr} {c0_2:Nat} (ha0:Has K A0_0 (p0.V).length c0_0 4 Af (p0.V)) (ha1:Has K A0_1 (p0.T).length c0_1 3 Aq (p0.T)) (ha2:Has K A0_2 (p0.Lines).length c0_2 2 Ai (p0.Lines)) {r:Bool} (hx:Gd p0 p1 p2=some r) (w:World) (hK:∀ e∈K,Ent.ok w e):CtL Tryz.prog 8 [.agg #[.slice (A0_0) ((p0.V).length) (c0_0),.slice (A0_1) ((p0.T).length) (c0_1),.slice (A0_2) ((p0.Lines).length) (c0_2)],.int .i64 (p1),.agg #[.int .i64 (p2.X),.int .i64 (p2.Y)]] w fun v Ln=>v = .bool (r)/\Ln=[]/\True:=(Tu p0 p1 p2).h K _ _ ⟨_,_,_,_,_,_,rfl,ha0,ha1,ha2,trivial⟩ hx w hK
section
variable {v:List Ab} {l:List Aa} {m:Mp} {T:List Ah}
theorem Sn:Kx v l=0↔Lin1 v l/\Lin2 v l:=by
 unfold Kx
 by_cases c1:Lin1 v l
 ·rw [if_pos c1]
  by_cases c2:Lin2 v l
  ·rw [if_pos c2];exact ⟨fun _=>⟨c1,c2⟩,fun _=>rfl⟩
  ·rw [if_neg c2];exact ⟨fun h=>(by cases h),fun h=>absurd h.2 c2⟩
 ·rw [if_neg c1];exact ⟨fun h=>(by cases h),fun h=>absurd h.1 c1⟩
theorem Auq {s:Aa} (h:s.a0<=s.a1):prL s=s:=by
 obtain ⟨x,y⟩:=s
 unfold prL pr2
 dsimp only at h ⊢
 rw [Int.min_eq_left h,Int.max_eq_right h]
theorem Ar8 {L:List Aa} (h:∀ s∈L,s.a0<=s.a1):L.map prL=L:=by
 induction L with
 | nil=>rfl
 | cons x r ih=>rw [List.map_cons,Auq (h x (by simp)),ih (fun s hs=>h s (by simp [hs]))]
theorem Ahx (hv:Cd v) (hn:v.length<=1024) (h:Kx v l=0):Kx v (As cmp2 (l.map prL))=0/\As cmp2 ((As cmp2 (l.map prL)).map prL)=As cmp2 (l.map prL)/\(As cmp2 (l.map prL)).length=l.length:=by
 obtain ⟨h1,h2⟩:=Sn.1 h
 have hL:=Aej hv h1 h2
 have hm:=Ar8 (fun s hs=>(hL.ok s hs).2)
 have sm:∀ s∈As cmp2 (l.map prL),Je s:=fun s hs=>by
  obtain ⟨⟨k1,k2,_⟩,_⟩:=hL.ok s hs
  exact Ws hn k1 k2
 have sm':∀ s∈l.map prL,Je s:=fun s hs=>sm s (Fi.2 hs)
 refine ⟨Sn.2 ⟨⟨fun s hs=>(hL.ok s hs).1,by rw [hm];exact hL.nd⟩,fun s hs k hk g=>?_,?_⟩,?_,by rw [(Cy _ _).length_eq,List.length_map]⟩
 ·exact hL.free s hs k hk (fun e=>g.2.1 (by rw [e];exact ⟨rfl,rfl⟩)) (fun e=>g.2.2 (by rw [e];exact ⟨rfl,rfl⟩)) g.1
 ·exact List.Pairwise.imp_of_mem (fun {a b} ha hb hne=>hL.apart a ha b hb hne) hL.nd
 ·rw [hm]
  exact Tm tot2 (fun s hs=>sm s (Fi.1 hs)) (Id tot2 sm) (Id tot2 sm') (Cy _ _)
theorem Amu {T:List Ah} (h:T.length<=100000000):Bu T T=some true:=by
 have e:lfix (Ba T T) 0=some (.inl ()):=by
  rw [Wd (β:=Unit) (γ:=Bool) T (fun _=>true) (Ba T T) () false (fun j hj=>?_) ?_]
  ·simp
  ·unfold Ba
   rw [if_neg (by omega)]
  ·unfold Ba
   rw [if_pos (by omega),Ay hj,Ad,Ad,if_pos (by simp),if_pos rfl,Bk (by omega)]
 unfold Bu
 rw [if_pos rfl,jn_d,e,Ad]
theorem Amv {L:List Aa} (h:L.length<=100000000):Bv L L=some true:=by
 have e:lfix (Bb L L) 0=some (.inl ()):=by
  rw [Wd (β:=Unit) (γ:=Bool) L (fun _=>true) (Bb L L) () false (fun j hj=>?_) ?_]
  ·simp
  ·unfold Bb
   rw [if_neg (by omega)]
  ·unfold Bb
   rw [if_pos (by omega),Ay hj,Ad,Ad,if_pos (by simp),if_pos rfl,Bk (by omega)]
 unfold Bv
 rw [if_pos rfl,jn_d,e,Ad]
theorem Ahy {m:Ao} (h1:m.V.length<=100000000) (h2:m.T.length<=100000000) (h3:m.Lines.length<=100000000):Cj m m=some true:=by
 have e1:lfix (Ce m m) 0=some (.inl ()):=by
  rw [Wd (β:=Unit) (γ:=Bool) m.V (fun _=>true) (Ce m m) () false (fun j hj=>?_) ?_]
  ·simp
  ·unfold Ce
   rw [if_neg (by omega)]
  ·unfold Ce
   rw [if_pos (by omega),Ay hj,Ad,Ad,if_pos (by simp),if_pos rfl,Bk (by omega)]
 have e2:lfix (Bz m m) 0=some (.inl ()):=by
  rw [Wd (β:=Unit) (γ:=Bool) m.T (fun _=>true) (Bz m m) () false (fun j hj=>?_) ?_]
  ·simp
  ·unfold Bz
   rw [if_neg (by omega)]
  ·unfold Bz
   rw [if_pos (by omega),Ay hj,Ad,Ad,if_pos (by simp),if_pos rfl,Bk (by omega)]
 have e3:lfix (Ca m m) 0=some (.inl ()):=by
  rw [Wd (β:=Unit) (γ:=Bool) m.Lines (fun _=>true) (Ca m m) () false (fun j hj=>?_) ?_]
  ·simp
  ·unfold Ca
   rw [if_neg (by omega)]
  ·unfold Ca
   rw [if_pos (by omega),Ay hj,Ad,Ad,if_pos (by simp),if_pos rfl,Bk (by omega)]
 unfold Cj
 rw [jn_d,if_pos rfl,if_pos rfl,decide_eq_true rfl]
 dsimp only
 rw [if_neg (by simp),jn_d,e1,Ad]
 dsimp only
 rw [jn_d,e2,Ad]
 dsimp only
 rw [jn_d,e3,Ad]
theorem Zd.len (hn:v.length<=1024) {L:List Aa} (hM:Mesh v L m) (h:Zd v m T):T.length<=1048576:=by
 have hsq:=Xs hn
 have:=Aa5 hM.tri (fun t ht=>(h.mem t).1 ht) h.nd
 omega
theorem Ahz (h:Ke v=0) (hl:l.length<=1000000) (h1:Kx v l=0) :
  ∃ T,Et v l=some (⟨v,T,As cmp2 (l.map prL)⟩,0)/\Cg v l=some (⟨v,T,As cmp2 (l.map prL)⟩,0)/\T.length<=1048576/\Db ⟨v,T,As cmp2 (l.map prL)⟩=some 0/\Et v (As cmp2 (l.map prL))=some (⟨v,T,As cmp2 (l.map prL)⟩,0)/\Cg v (As cmp2 (l.map prL))=some (⟨v,T,As cmp2 (l.map prL)⟩,0)/\((Vq v/\T=[])\/(¬ Vq v/\∃ m,Mesh v (As cmp2 (l.map prL)) m/\Zd v m T)):=by
 obtain ⟨hn,_,hv⟩:=Ov h
 obtain ⟨g1,g2,g3⟩:=Ahx hv hn h1
 obtain ⟨T,e1,e2,e3,e4⟩:=Vb h hl h1
 obtain ⟨T',f1,f2,f3,_⟩:=Vb (l:=As cmp2 (l.map prL)) h (by omega) g1
 rw [g2] at f1 f2 f3
 have:T'=T:=Option.some.inj (f3.symm.trans e3)
 subst this
 have hT:T'.length<=1048576:=by
  rcases e4 with ⟨_,rfl⟩ | ⟨_,m,hM,hT⟩
  ·simp
  ·exact hT.len hn hM
 refine ⟨T',e1,e2,hT,?_,f1,f2,e4⟩
 unfold Db
 dsimp only
 rw [f1,Ad,jn_d]
 dsimp only
 rw [if_pos rfl,Amu (by omega),Ad,if_pos rfl,Amv (by omega),Ad]
 rfl
theorem Ajk (h:Ke v≠0):Et v l=some (⟨[],[],[]⟩,Ke v):=by
 unfold Et
 rw [Wa,Ad,if_neg h]
theorem Ajl:Kx v []=0:=Sn.2 ⟨⟨fun s hs=>(by cases hs),List.Pairwise.nil⟩,fun s hs=>(by cases hs),List.Pairwise.nil⟩
theorem Ajm:Et sqv []=some (⟨sqv,[⟨0,1,2⟩,⟨1,3,2⟩],[]⟩,0):=by
 obtain ⟨_,_,hv⟩:=Ov Atl
 have hE:=Sn.1 (Ajl (v:=sqv))
 obtain ⟨T,h1,h2⟩:=Abu Atl (l:=[]) (by simp) hE.1 hE.2
 have e:As cmp2 (([]:List Aa).map prL)=[]:=by simp [As]
 rw [e] at h1 h2
 rcases h2 with ⟨f,_⟩ | ⟨_,m,hM,rfl⟩
 ·have:=f 0 1 2 (in4.2 (by simp)) (in4.2 (by simp)) (in4.2 (by simp))
  exact absurd this (by decide)
 ·have hd:=Ahw hv hM.map hM.tri hM.cov (fun i j k l hk hl=>(hM.leg i j k l hk hl).resolve_left (by simp)) hM.ne
  rw [h1,(Ar7 hM.map hd).unique Aol]
theorem Adj:Gn=some true:=by
 unfold Gn
 refine Eq.trans (congrArg (fun z=>bnd z _) Ajm) ?_
 show bnd (some _) _=_
 rw [Ad,jn_d]
 rfl
end
end Go.Proofs.YtoojmkhjdjianaaGreat
