/- Walks of the program, with their plain functions: the reference's numbers. -/
import Derived.Test.YtoojmkhjdjianaaGreatC4
namespace Go.Proofs.YtoojmkhjdjianaaGreat
open Go Go.RowKit
theorem Awb:Lg Tryz.prog 50 [.bool (false),.slice (none) (0) (0)]:=⟨_,Tryz.zeroValue50,rfl⟩
instance:Sr Tryz.prog 50 [.bool (false),.slice (none) (0) (0)]:=⟨Awb⟩
theorem Oi (x0:Bool) (x1:Option Addr) (x2:Nat) (x3:Nat):Hj Tryz.prog 50 [(0,.bool x0),(1,.slice x1 x2 x3)] [.bool x0,.slice x1 x2 x3]:=fun w=>by kernel_rfl
instance (x0:Bool) (x1:Option Addr) (x2:Nat) (x3:Nat):Lv Tryz.prog 50 [(0,.bool x0),(1,.slice x1 x2 x3)] [.bool x0,.slice x1 x2 x3]:=⟨Oi _ _ _ _⟩
theorem Awc:Nm Tryz.prog 50 2:=.mk Tryz.underlying50 rfl (show Tryz.prog.info? 50=some Tryz.t50 from by kernel_rfl) (by kernel_rfl)
instance:AggI Tryz.prog 50 2:=⟨Awc⟩
theorem Aa8 (x0:Bool) (x1:Option Addr) (x2:Nat) (x3:Nat):Agf Tryz.prog 50 [.bool x0,.slice x1 x2 x3] 1 (.slice x1 x2 x3):=fun w=>by kernel_rfl
instance (x0:Bool) (x1:Option Addr) (x2:Nat) (x3:Nat):Agw Tryz.prog 50 [.bool x0,.slice x1 x2 x3] 1 (.slice x1 x2 x3):=⟨Aa8 _ _ _ _⟩
theorem Akj:Dg Tryz.prog 50 0 0:=.mk Tryz.underlying50 rfl rfl (show Tryz.prog.info? 4=some Tryz.t4 from by kernel_rfl) (show Tryz.t4.size=1 from by kernel_rfl) rfl
instance:Gs Tryz.prog 50 0 0:=⟨Akj⟩
theorem Zf:Dg Tryz.prog 50 1 1:=.mk Tryz.underlying50 rfl rfl (show Tryz.prog.info? 48=some Tryz.t48 from by kernel_rfl) (show Tryz.t48.size=1 from by kernel_rfl) rfl
instance:Gs Tryz.prog 50 1 1:=⟨Zf⟩
theorem Ahh:Nz Tryz.prog 48:=.mk Tryz.underlying48 rfl (show Tryz.prog.info? 48=some Tryz.t48 from by kernel_rfl) (by kernel_rfl)
instance:OneI Tryz.prog 48:=⟨Ahh⟩
theorem Aom:Lg Tryz.prog 52 [.bool (false),.slice (none) (0) (0),.slice (none) (0) (0)]:=⟨_,Tryz.zeroValue52,rfl⟩
instance:Sr Tryz.prog 52 [.bool (false),.slice (none) (0) (0),.slice (none) (0) (0)]:=⟨Aom⟩
theorem Ui (x0:Bool) (x1:Option Addr) (x2:Nat) (x3:Nat) (x4:Option Addr) (x5:Nat) (x6:Nat):Hj Tryz.prog 52 [(0,.agg #[.bool x0,.slice x1 x2 x3]),(1,.slice x4 x5 x6)] [.bool x0,.slice x1 x2 x3,.slice x4 x5 x6]:=fun w=>by kernel_rfl
instance (x0:Bool) (x1:Option Addr) (x2:Nat) (x3:Nat) (x4:Option Addr) (x5:Nat) (x6:Nat):Lv Tryz.prog 52 [(0,.agg #[.bool x0,.slice x1 x2 x3]),(1,.slice x4 x5 x6)] [.bool x0,.slice x1 x2 x3,.slice x4 x5 x6]:=⟨Ui _ _ _ _ _ _ _⟩
theorem Zg:Nm Tryz.prog 52 3:=.mk Tryz.underlying52 rfl (show Tryz.prog.info? 52=some Tryz.t52 from by kernel_rfl) (by kernel_rfl)
instance:AggI Tryz.prog 52 3:=⟨Zg⟩
theorem Aro:Dg Tryz.prog 52 0 0:=.mk Tryz.underlying52 rfl rfl (show Tryz.prog.info? 50=some Tryz.t50 from by kernel_rfl) (show Tryz.t50.size=2 from by kernel_rfl) rfl
instance:Gs Tryz.prog 52 0 0:=⟨Aro⟩
theorem Arp:Dg Tryz.prog 52 1 2:=.mk Tryz.underlying52 rfl rfl (show Tryz.prog.info? 48=some Tryz.t48 from by kernel_rfl) (show Tryz.t48.size=1 from by kernel_rfl) rfl
instance:Gs Tryz.prog 52 1 2:=⟨Arp⟩
theorem Af0 (x0:Bool) (x1:Option Addr) (x2:Nat) (x3:Nat) (x4:Option Addr) (x5:Nat) (x6:Nat):Agf Tryz.prog 52 [.bool x0,.slice x1 x2 x3,.slice x4 x5 x6] 0 (.agg #[.bool x0,.slice x1 x2 x3]):=fun w=>by kernel_rfl
instance (x0:Bool) (x1:Option Addr) (x2:Nat) (x3:Nat) (x4:Option Addr) (x5:Nat) (x6:Nat):Agw Tryz.prog 52 [.bool x0,.slice x1 x2 x3,.slice x4 x5 x6] 0 (.agg #[.bool x0,.slice x1 x2 x3]):=⟨Af0 _ _ _ _ _ _ _⟩
theorem Atm:Jc Tryz.prog 43 245 1:=.mk Tryz.underlying43 (show Tryz.prog.info? 245=some Tryz.t245 from by kernel_rfl) (by kernel_rfl)
instance:Kv Tryz.prog 43 245 1:=⟨Atm⟩
theorem Akk:Dg Tryz.prog 45 1 1:=.mk Tryz.underlying45 rfl rfl (show Tryz.prog.info? 43=some Tryz.t43 from by kernel_rfl) (show Tryz.t43.size=1 from by kernel_rfl) rfl
instance:Gs Tryz.prog 45 1 1:=⟨Akk⟩
theorem Aon:Nz Tryz.prog 43:=.mk Tryz.underlying43 rfl (show Tryz.prog.info? 43=some Tryz.t43 from by kernel_rfl) (by kernel_rfl)
instance:OneI Tryz.prog 43:=⟨Aon⟩
theorem Akl:Dg Tryz.prog 45 2 2:=.mk Tryz.underlying45 rfl rfl (show Tryz.prog.info? 43=some Tryz.t43 from by kernel_rfl) (show Tryz.t43.size=1 from by kernel_rfl) rfl
instance:Gs Tryz.prog 45 2 2:=⟨Akl⟩
theorem Aoo  : Hj Tryz.prog 52 [] [.bool (false),.slice (none) (0) (0),.slice (none) (0) (0)]:=fun w=>by kernel_rfl
instance:Lv Tryz.prog 52 [] [.bool (false),.slice (none) (0) (0),.slice (none) (0) (0)]:=⟨Aoo⟩
theorem Akm:Dg Tryz.prog 45 0 0:=.mk Tryz.underlying45 rfl rfl (show Tryz.prog.info? 4=some Tryz.t4 from by kernel_rfl) (show Tryz.t4.size=1 from by kernel_rfl) rfl
instance:Gs Tryz.prog 45 0 0:=⟨Akm⟩
noncomputable def Nn (s3:Int):Unit->Option (Sum Unit Unit):=fun s0 =>
 if 0 < s3 then (none)
 else (some (.inr ()))
noncomputable def Gi (p0:Int):Option Al :=
 jn (fun (s3:Int) =>
 jn (fun (s6:Unit) =>
 some (⟨decide (p0 < 0),([]:List Int)⟩:Al))
 (fun j6=>bnd (lfix (Nn s3) ()) fun t0 =>
 j6 t0))
 (fun j3=>if p0 < 0 then (j3 (wu64 (-(wu64 (p0)))))
 else (j3 (wu64 (p0))))
noncomputable def Gj (p0:List Int):Int->Option (Sum Int Int):=fun s0 =>
 jn (fun (s7:Bool) =>
 if s7=true then (some (.inl (w64 (s0-1))))
 else (some (.inr s0)))
 (fun j7=>if 0 < s0 then (bnd (idx p0 (w64 (s0-1))) fun x0 =>
 j7 (decide (x0=0)))
 else (j7 false))
noncomputable def Bp (p0:List Int):Option (List Int) :=
 jn (fun (s3:Int) =>
 gd (0<=s3/\s3<=(((p0).length:Nat):Int)) <|
 some (subl p0 0 s3))
 (fun j3=>bnd (lfix (Gj p0) (((p0).length:Nat):Int)) fun t0 =>
 j3 t0)
theorem Acn {l r:List Int} (h:Bp l=some r):∃ k,r=l.take k:=by
 unfold Bp at h
 simp only [jn] at h
 obtain ⟨n,_,h⟩:=Aj h
 obtain ⟨_,h⟩:=Dh h
 obtain rfl:=Option.some.inj h
 exact ⟨_,Ap9 _ _⟩
noncomputable def Mj (p0:List Int) (p1:List Int):Int->Option (Sum Int Unit):=fun s0 =>
 if 0<=s0 then (bnd (idx p0 s0) fun x0 =>
 bnd (idx p1 s0) fun x1 =>
 if x0=x1 then (some (.inl (w64 (s0-1))))
 else (none))
 else (some (.inr ()))
noncomputable def Er (p0:List Int) (p1:List Int):Option Int :=
 if ((((p0).length:Nat):Int))=((((p1).length:Nat):Int)) then (jn (fun (s8:Unit) =>
 some 0)
 (fun j8=>bnd (lfix (Mj p0 p1) (w64 (((((p0).length:Nat):Int))-1))) fun t0 =>
 j8 t0))
 else (if ((((p0).length:Nat):Int)) < ((((p1).length:Nat):Int)) then (some (-1))
 else (none))
noncomputable def Oj (p0:List Int) (p1:List Int):Unit->Option (Sum Unit Unit):=fun s0 =>
 jn (fun (s1:Bool) =>
 if s1=true then (none)
 else (some (.inr ())))
 (fun j0=>if 0 < ((((p0).length:Nat):Int)) then (j0 true)
 else (if 0 < ((((p1).length:Nat):Int)) then (j0 true)
 else (j0 false)))
noncomputable def Jm (p0:List Int) (p1:List Int):Option (List Int) :=
 jn (fun (s4:Unit) =>
 bnd (Bp ([]:List Int)) fun r0 =>
 some r0)
 (fun j4=>bnd (lfix (Oj p0 p1) ()) fun t0 =>
 j4 t0)
instance:MkI Tryz.prog 48 3 1 8 Ar 0:=⟨Tryz.t3,.int .i64 (0),Tryz.underlying48,by kernel_rfl,by kernel_rfl,rfl,by kernel_rfl,by kernel_rfl⟩
noncomputable def Np (p1:List Int) (p0:List Int) (s0:(List Int) × Int):((List Int) × Int × Int)->Option (Sum ((List Int) × Int × Int) ((List Int) × Int)):=fun s1 =>
 if s1.2.2 < ((((p1).length:Nat):Int)) then (bnd (idx p0 s0.2) fun x0 =>
 bnd (idx p1 s1.2.2) fun x1 =>
 bnd (idx s1.1 (w64 (s0.2+s1.2.2))) fun x2 =>
 bnd (idx s1.1 (w64 (s0.2+s1.2.2))) fun x3 =>
 some (.inl (setI s1.1 (w64 (s0.2+s1.2.2)) (Int.tmod (w64 ((w64 ((w64 (x0*x1))+x2))+s1.2.1)) 65536),w64 (Int.tdiv (w64 ((w64 ((w64 (x0*x1))+x2))+s1.2.1)) 65536),w64 (s1.2.2+1))))
 else (some (.inr (s1.1,s1.2.1)))
noncomputable def Fp (p0:List Int) (p1:List Int):((List Int) × Int)->Option (Sum ((List Int) × Int) (List Int)):=fun s0 =>
 if s0.2 < ((((p0).length:Nat):Int)) then (jn (fun (s1:(List Int) × Int) =>
 bnd (idx s1.1 (w64 (s0.2+((((p1).length:Nat):Int))))) fun x0 =>
 some (.inl (setI s1.1 (w64 (s0.2+((((p1).length:Nat):Int)))) s1.2,w64 (s0.2+1))))
 (fun j0=>bnd (lfix (Np p1 p0 s0) (s0.1,0,0)) fun t0 =>
 j0 t0))
 else (some (.inr s0.1))
noncomputable def Du (p0:List Int) (p1:List Int):Option (List Int) :=
 gd ((0:Int)<=(w64 (((((p0).length:Nat):Int))+((((p1).length:Nat):Int))))/\8*Int.toNat (w64 (((((p0).length:Nat):Int))+((((p1).length:Nat):Int))))<=140737488355328) <|
 jn (fun (s3:List Int) =>
 bnd (Bp s3) fun r0 =>
 some r0)
 (fun j3=>bnd (lfix (Fp p0 p1) (List.replicate (Int.toNat (w64 (((((p0).length:Nat):Int))+((((p1).length:Nat):Int))))) (0:Int),0)) fun t0 =>
 j3 t0)
noncomputable def Nq (p0:List Int) (p1:Int):((List Int) × Int × Int)->Option (Sum ((List Int) × Int × Int) ((List Int) × Int)):=fun s0 =>
 if 0<=s0.2.2 then (bnd (idx p0 s0.2.2) fun x0 =>
 gd (p1≠0) <|
 bnd (idx s0.1 s0.2.2) fun x1 =>
 gd (p1≠0) <|
 some (.inl (setI s0.1 s0.2.2 (w64 (Int.tdiv (w64 ((w64 (s0.2.1*65536))+x0)) p1)),Int.tmod (w64 ((w64 (s0.2.1*65536))+x0)) p1,w64 (s0.2.2-1))))
 else (some (.inr (s0.1,s0.2.1)))
noncomputable def Ik (p0:List Int) (p1:Int):Option ((List Int) × Int) :=
 gd ((0:Int)<=((((p0).length:Nat):Int))/\8*Int.toNat ((((p0).length:Nat):Int))<=140737488355328) <|
 jn (fun (s4:(List Int) × Int) =>
 bnd (Bp s4.1) fun r0 =>
 some (r0,s4.2))
 (fun j4=>bnd (lfix (Nq p0 p1) (List.replicate (Int.toNat ((((p0).length:Nat):Int))) (0:Int),0,w64 (((((p0).length:Nat):Int))-1))) fun t0 =>
 j4 t0)
noncomputable def Cx (p0:List Int) (p1:List Int):Option ((List Int) × (List Int)) :=
 bnd (Er p0 p1) fun r1 =>
 if r1 < 0 then (some (([]:List Int),p0))
 else (if ((((p1).length:Nat):Int))=1 then (bnd (idx p1 0) fun x9 =>
 bnd (Ik p0 x9) fun r0 =>
 bnd (Gi r0.2) fun r2 =>
 some (r0.1,r2.L))
 else (none))
noncomputable def Jw  : ((List Int) × (List Int))->Option (Sum ((List Int) × (List Int)) (List Int)):=fun s0 =>
 if 0 < ((((s0.2).length:Nat):Int)) then (bnd (Cx s0.1 s0.2) fun r0 =>
 some (.inl (s0.2,r0.2)))
 else (some (.inr s0.1))
noncomputable def Km (p0:List Int) (p1:List Int):Option (List Int) :=
 jn (fun (s2:List Int) =>
 some s2)
 (fun j2=>bnd (lfix (Jw) (p0,p1)) fun t0 =>
 j2 t0)
noncomputable def Lb (p0:Al) (p1:Al):Option Al :=
 if ((p0.Neg) == (p1.Neg))=true then (bnd (Jm p0.L p1.L) fun r6 =>
 some (⟨p0.Neg,r6⟩:Al))
 else (none)
noncomputable def Mv (p0:Al):Option Al :=
 jn (fun (s2:Bool) =>
 some (⟨s2,p0.L⟩:Al))
 (fun j2=>if p0.Neg=true then (j2 false)
 else (j2 (decide (0 < ((((p0.L).length:Nat):Int))))))
noncomputable def Gk (p0:Al) (p1:Al):Option Al :=
 bnd (Du p0.L p1.L) fun r4 =>
 jn (fun (s3:Bool) =>
 some (⟨s3,r4⟩:Al))
 (fun j3=>if ((p0.Neg) == (p1.Neg))=true then (j3 false)
 else (j3 (decide (0 < ((((r4).length:Nat):Int))))))
noncomputable def Nr (p0:Al):Option Int :=
 if ((((p0.L).length:Nat):Int))=0 then (some 0)
 else (if p0.Neg=true then (some (-1))
 else (some 1))
noncomputable def Ft (p0:Al) (p1:Al):Option Ax :=
 bnd (Km p0.L p1.L) fun r4 =>
 bnd (Cx p0.L r4) fun r0 =>
 bnd (Cx p1.L r4) fun r1 =>
 jn (fun (s5:Bool) =>
 some (⟨(⟨s5,r0.1⟩:Al),r1.1⟩:Ax))
 (fun j5=>if p0.Neg=true then (j5 (decide (0 < ((((r0.1).length:Nat):Int)))))
 else (j5 false))
noncomputable def Kn (p0:Int):Option Ax :=
 bnd (Gi p0) fun r2 =>
 some (⟨r2,[1]⟩:Ax)
noncomputable def Ko (p0:Ax) (p1:Ax):Option Ax :=
 bnd (Gk p0.N (⟨false,p1.D⟩:Al)) fun r4 =>
 bnd (Gk p1.N (⟨false,p0.D⟩:Al)) fun r9 =>
 bnd (Lb r4 r9) fun r0 =>
 bnd (Du p0.D p1.D) fun r1 =>
 bnd (Ft r0 (⟨false,r1⟩:Al)) fun r2 =>
 some r2
noncomputable def Lc (p0:Ax):Option Ax :=
 bnd (Mv p0.N) fun r3 =>
 some (⟨r3,p0.D⟩:Ax)
noncomputable def Nl (p0:Ax) (p1:Ax):Option Ax :=
 bnd (Lc p1) fun r4 =>
 bnd (Ko p0 r4) fun r0 =>
 some r0
noncomputable def Kq (p0:Ax) (p1:Ax):Option Int :=
 bnd (Nl p0 p1) fun r3 =>
 bnd (Nr r3.N) fun r0 =>
 some r0
instance:UndI Tryz.prog 43 (.slice 245):=⟨Tryz.underlying43⟩
noncomputable def Ns (p0:List Int):Unit->Option (Sum Unit Unit):=fun s0 =>
 jn (fun (s7:Bool) =>
 if s7=true then (none)
 else (some (.inr ())))
 (fun j7=>if 0 < ((((p0).length:Nat):Int)) then (bnd (idx p0 (w64 (((((p0).length:Nat):Int))-1))) fun x0 =>
 j7 (decide (x0=0)))
 else (j7 false))
noncomputable def Nt (p0:List Int):Unit->Option (Sum Unit Unit):=fun s0 =>
 if 0 < ((((p0).length:Nat):Int)) then (none)
 else (some (.inr ()))
noncomputable def Gl (p0:List Int):Option ((List Int) × Bool) :=
 jn (fun (s3:Unit) =>
 if 256 < ((((p0).length:Nat):Int)) then (some (([]:List Int),false))
 else (jn (fun (s0:Unit) =>
 bnd (Bp ([]:List Int)) fun r0 =>
 some (r0,true))
 (fun j0=>bnd (lfix (Nt p0) ()) fun t0 =>
 j0 t0)))
 (fun j3=>bnd (lfix (Ns p0) ()) fun t1 =>
 j3 t1)
noncomputable def Mh (p0:Bt):Option (Ax × Bool) :=
 bnd (Gl p0.Num) fun r3 =>
 bnd (Gl p0.Den) fun r0 =>
 jn (fun (s5:Bool) =>
 if s5=true then (some ((⟨(⟨false,([]:List Int)⟩:Al),([]:List Int)⟩:Ax),false))
 else (jn (fun (s7:List Int) =>
 jn (fun (s9:Bool × (List Int) × (List Int)) =>
 some ((⟨(⟨s9.1,s9.2.1⟩:Al),s9.2.2⟩:Ax),true))
 (fun j9=>if p0.Neg=true then (bnd (Ft (⟨decide (0 < ((((r3.1).length:Nat):Int))),r3.1⟩:Al) (⟨false,s7⟩:Al)) fun r1 =>
 j9 (r1.N.Neg,r1.N.L,r1.D))
 else (bnd (Ft (⟨false,r3.1⟩:Al) (⟨false,s7⟩:Al)) fun r2 =>
 j9 (r2.N.Neg,r2.N.L,r2.D))))
 (fun j7=>if ((((r0.1).length:Nat):Int))=0 then (j7 ([1]))
 else (j7 r0.1))))
 (fun j5=>if r3.2=true then (j5 (!(r0.2)))
 else (j5 true))
set_option maxHeartbeats 1000000 in
set_option maxRecDepth 100000 in
instance Yc (p0:Int):Con (Gi p0) Tryz.prog 71 (fun _ vs=>vs=[.int .i64 (p0)]) (fun _ r=>fun v Ln=>∃ (A0:Option Addr) (c0:Nat),v = .agg #[.bool (r.Neg),.slice (A0) ((r.L).length) (c0)]/\Ln=[.r A0 (r.L).length c0 3 1 ((r.L).flatMap Ar)]/\True):=⟨by
 rintro _ _ r rfl hx w hK;unfold Gi at hx;refine CtS Tryz.ntmps71 Tryz.results71 ?_;try (refine pre ?_;intros;rename_i hx)
 refine Ck ?_;try (refine pre ?_;intros;rename_i hx)
 refine Ck ?_;try (refine pre ?_;intros;rename_i hx)
 apply Jr (γ:=Unit) hx [0,2] (fun s3 y3 f=>(3,.int .u64 (s3))::f) [0,999] (fun s3 y3 l=>l);exact kk
 ·intro s3 y3 hx;try (refine pre ?_;intros;rename_i hx)
  refine Ck ?_;try (refine pre ?_;intros;rename_i hx)
  apply Jr (γ:=Unit) hx [0,2,4] (fun s6 y6 f=>f) [0,999] (fun s6 y6 l=>l);exact kk
  ·intro s6 y6 hx;exact au
  ·intro _ hx;try (refine pre ?_;intros;rename_i hx)
   apply Lr (γ:=Unit) hx [0,2,3,4] (fun s0 y0 f=>f) [0,999] (fun s0 y0 l=>l) ();exact kk;exact sk;intro s0 y0 x0 hx _;unfold Nn at hx
   exact au
 ·intro _ hx;exact au⟩
theorem Xk (p0:Int)  {r:Al} (hx:Gi p0=some r) (w:World):CtL Tryz.prog 71 [.int .i64 (p0)] w fun v Ln=>∃ (A0:Option Addr) (c0:Nat),v = .agg #[.bool (r.Neg),.slice (A0) ((r.L).length) (c0)]/\Ln=[.r A0 (r.L).length c0 3 1 ((r.L).flatMap Ar)]/\True:=(Yc p0).h [] _ _ rfl hx w (fun _ h=>absurd h List.not_mem_nil)
set_option maxRecDepth 100000 in
theorem Ir (p0:List Int) {K:List Ent} {A0_0:Option Addr} {c0_0:Nat} (ha0:Has K A0_0 p0.length c0_0 1 Ar (p0)) {r:List Int} (hx:Bp p0=some r) (w:World) (hK:∀ e∈K,Ent.ok w e):CtL Tryz.prog 131 [.slice (A0_0) (p0.length) (c0_0)] w fun v Ln=>v = .slice (A0_0) (r.length) (c0_0)/\Ln=[]/\Has K A0_0 r.length c0_0 1 Ar (r)/\True:=by
 have ha0':=Has.up0 ha0;refine CtL.mk 21 Tryz.func131 rfl Tryz.ntmps131 (by kernel_rfl) rfl ?_;show T 21 _ [(0,.slice (A0_0) (p0.length) (c0_0))] _;unfold Bp at hx;refine Y8 ?_;refine Aw (Fc rfl 3 Tryz.underlying48) rfl ?_;refine Y3 ?_;refine Tj (γ:=Unit) hx (fun s3 y3=>[(0,.slice (A0_0) (p0.length) (c0_0)),(3,.int .i64 (s3))]) (fun s3 y3=>[]++[.old w]) (fun s3 y3=>True) (fun s3 y3 hx0 hG0=>?_) (fun j3 hx=>?_)
 ·refine Y4 ?_;obtain ⟨h0,hx1⟩:=Dh hx0;have hs0:=Has.subH ha0' h0.1 h0.2;refine Aw (Agn rfl rfl Pd h0.1 (by have:=Has.nc ha0';omega)) rfl ?_;refine Y4 ?_;refine Qv (s:=2) (v':=.slice (A0_0) ((subl p0 0 s3).length) (c0_0)) rfl (by have hn0:(Int.toNat s3)=(subl p0 0 s3).length:=(Has.len hs0).symm;first | (rw [<- hn0];done) | rfl) ?_;obtain rfl:=Option.some.inj hx1;exact Gp (rs:=[.tmp 2]) Tryz.results131 (.tmp rfl (.nil)) (Ln:=[]) ⟨rfl,rfl,Has.len' (Has.dn0 hs0),trivial⟩ (Gc) (by exact .refl)
 ·refine Y ?_;obtain ⟨t0,hl0,ho0⟩:=Aj hx;refine Lp (σ:=Int) (γ:=Unit) hl0 (fun s0 y0=>[(0,.slice (A0_0) (p0.length) (c0_0)),(3,.int .i64 (s0))]) (fun s0 y0=>[]++[.old w]) (fun s0 y0=>True) () trivial (by exact .refl) ?_;intro s0 y0 hG1 x0 hx2 ht0;unfold Gj at hx2;refine Y ?_;refine Tj (γ:=Unit) hx2 (fun s7 y7=>[(0,.slice (A0_0) (p0.length) (c0_0)),(3,.int .i64 (s0)),(15,.bool (s7))]) (fun s7 y7=>[]++[.old w]) (fun s7 y7=>True) (fun s7 y7 hx3 hG2=>?_) (fun j7 hx2=>?_)
  ·refine Ha (s:=15) rfl (fun h1=>?_) (fun h1=>?_)
   ·have hx4:=Hd h1 hx3;refine Y10 ?_;exact Rp (w64 (s0-1)) () hx4 trivial (by exact .refl)
   ·have hx5:=Kf h1 hx3;refine Y3 ?_;obtain rfl:=Fk ht0 hx5;refine Y2 ?_;exact Mt s0 () ho0 trivial (by exact .refl)
  ·refine Y4 ?_;refine Ti hx2 (s:=8) rfl (fun h2 hx6=>?_) (fun h2 hx7=>?_)
   ·refine Y3 ?_;obtain ⟨x1,h3,hx8⟩:=Aj hx6;have hw0:=Has.low (E:=[]) ha0' hK;obtain ⟨b0,o0,j0,hA0,hj0,hl1,hp0⟩:=Has.at_idx hw0 h3;refine Qt rfl rfl rfl (Bo rfl rfl hA0 (j:=j0) hj0 hl1 Pd) rfl ?_;refine Qt rfl rfl rfl (Dj rfl hp0 (sb 0) rfl one3) rfl ?_;refine Y3 ?_;exact Mt (decide (x1=0)) () hx8 trivial (by exact .refl)
   ·refine Y8 ?_;exact Mt false () hx7 trivial (by exact .refl)
set_option maxHeartbeats 1000000 in
set_option maxRecDepth 100000 in
instance lidarref01_trim_c (p0:List Int):ConB (Bp p0) Tryz.prog 131 (fun K vs=>∃ (A0_0:Option Addr) (c0_0:Nat),vs=[.slice (A0_0) ((p0).length) (c0_0)]/\Has K A0_0 (p0).length c0_0 1 Ar (p0)/\True) (fun K r=>fun v Ln=>∃ (A0:Option Addr) (c0:Nat) (e:Ent),v = .slice (A0) ((r).length) (c0)/\Ln=[e]/\Has (K++[e]) A0 (r).length c0 1 Ar (r)/\True):=⟨by
 rintro K _ r ⟨A0_0,c0_0,rfl,ha0,-⟩ hx w hK;exact CtL.bunB (Ir p0 ha0 hx w hK) (by
  rintro _ _ w1 hw ⟨rfl,rfl,_,-⟩
  exact ⟨_,_,_,rfl,rfl,hZ hw,trivial⟩)⟩
set_option maxHeartbeats 1000000 in
set_option maxRecDepth 100000 in
instance Vp (p0:List Int) (p1:List Int):Con (Er p0 p1) Tryz.prog 208 (fun K vs=>∃ (A0_0:Option Addr) (c0_0:Nat) (A0_1:Option Addr) (c0_1:Nat),vs=[.slice (A0_0) ((p0).length) (c0_0),.slice (A0_1) ((p1).length) (c0_1)]/\Has K A0_0 (p0).length c0_0 1 Ar (p0)/\Has K A0_1 (p1).length c0_1 1 Ar (p1)/\True) (fun _ r=>fun v Ln=>v = .int .i64 (r)/\Ln=[]/\True):=⟨by
 rintro K _ r ⟨A0_0,c0_0,A0_1,c0_1,rfl,ha0,ha1,-⟩ hx w hK;replace ha0:=Has.lo ha0 hK;replace ha1:=Has.lo ha1 hK;unfold Er at hx;have:=dl 8 [0,0,0,1,0,0,0,1,0] [0,1,2,3,4,5,6,7,8];have:=dl 9 [0,0,0,1,0,0,0,1,0] [0,1,2,3,4,5,6,7,8];refine CtS Tryz.ntmps208 Tryz.results208 ?_;try (refine pre ?_;intros;rename_i hx)
 refine Cq2 (s:=10) hx rfl (fun _ hx=>?_) (fun _ hx=>?_)
 ·exact au
 ·try (refine pre ?_;intros;rename_i hx)
  apply Jr (γ:=Unit) hx [] (fun s8 y8 f=>f) [999] (fun s8 y8 l=>l);exact kk
  ·intro s8 y8 hx;exact au
  ·intro _ hx;try (refine pre ?_;intros;rename_i hx)
   apply Lr (γ:=Unit) hx [0,1] (fun s36 y36 f=>(5,.int .i64 (s36))::f) [999] (fun s36 y36 l=>l) ();exact kk;exact sk;intro s36 y36 x36 hx _;unfold Mj at hx
   exact au⟩
theorem Vh (p0:List Int) (p1:List Int) {K:List Ent} {A0_0:Option Addr} {c0_0:Nat} {A0_1:Option Addr} {c0_1:Nat} (ha0:Has K A0_0 (p0).length c0_0 1 Ar (p0)) (ha1:Has K A0_1 (p1).length c0_1 1 Ar (p1)) {r:Int} (hx:Er p0 p1=some r) (w:World) (hK:∀ e∈K,Ent.ok w e):CtL Tryz.prog 208 [.slice (A0_0) ((p0).length) (c0_0),.slice (A0_1) ((p1).length) (c0_1)] w fun v Ln=>v = .int .i64 (r)/\Ln=[]/\True:=(Vp p0 p1).h K _ _ ⟨_,_,_,_,rfl,ha0,ha1,trivial⟩ hx w hK
set_option maxRecDepth 100000 in
theorem Yd (p0:List Int) (p1:List Int) {K:List Ent} {A0_0:Option Addr} {c0_0:Nat} {A0_1:Option Addr} {c0_1:Nat} (ha0:Has K A0_0 p0.length c0_0 1 Ar (p0)) (ha1:Has K A0_1 p1.length c0_1 1 Ar (p1)) {r:List Int} (hx:Jm p0 p1=some r) (w:World) (hK:∀ e∈K,Ent.ok w e):CtL Tryz.prog 207 [.slice (A0_0) (p0.length) (c0_0),.slice (A0_1) (p1.length) (c0_1)] w fun v Ln=>∃ (A0:Option Addr) (c0:Nat),v = .slice (A0) (r.length) (c0)/\Ln=[]/\Has (K++[]) A0 r.length c0 1 Ar (r)/\True:=by
 have ha0':=Has.up0 ha0;have ha1':=Has.up0 ha1;refine CtL.mk 55 Tryz.func207 rfl Tryz.ntmps207 (by kernel_rfl) rfl ?_;show T 55 _ [(0,.slice (A0_0) (p0.length) (c0_0)),(1,.slice (A0_1) (p1.length) (c0_1))] _;unfold Jm at hx;(iterate 15 refine Y ?_);refine Tj (γ:=Unit) hx (fun s4 y4=>[(5,.slice (none) (0) (0))]) (fun s4 y4=>[]++[.old w]) (fun s4 y4=>True) (fun s4 y4 hx0 hG0=>?_) (fun j4 hx=>?_)
 ·refine Y3 ?_;obtain ⟨r0,h0,hx1⟩:=Aj hx0;refine T_x (Ex rfl (fun w1 hw1=>Ir ([]:List Int) (Has.nil (K:=([]:List Ent))) h0 w1 (Ad1 (K:=([]:List Ent)) (by exact (SubE.nil)) hw1)) rfl ?_);rintro _ _ hlo ⟨rfl,rfl,hs0,-⟩;refine Pg ?_;refine Y4 ?_;obtain rfl:=Option.some.inj hx1;exact Gp (rs:=[.tmp 4]) Tryz.results207 (.tmp rfl (.nil)) (Ln:=[]) ⟨none,0,rfl,rfl,Has.len' (Has.up (L:=(K++[])) hs0 (SubE.appR2 (SubE.nil))),trivial⟩ (Gc) (by exact .refl)
 ·refine Y6 ?_;obtain ⟨t0,hl0,ho0⟩:=Aj hx;refine Lp (σ:=Unit) (γ:=Unit) hl0 (fun s0 y0=>[(0,.slice (A0_0) (p0.length) (c0_0)),(1,.slice (A0_1) (p1.length) (c0_1)),(5,.slice (none) (0) (0)),(6,.int .i64 (0)),(7,.int .i64 (0))]) (fun s0 y0=>[]++[.old w]) (fun s0 y0=>True) () trivial (by exact .refl) ?_;intro s0 y0 hG1 x0 hx2 ht0;unfold Oj at hx2;refine Y ?_;refine Tj (γ:=Unit) hx2 (fun s1 y1=>[(0,.slice (A0_0) (p0.length) (c0_0)),(1,.slice (A0_1) (p1.length) (c0_1)),(5,.slice (none) (0) (0)),(6,.int .i64 (0)),(7,.int .i64 (0)),(22,.bool (s1))]) (fun s1 y1=>[]++[.old w]) (fun s1 y1=>True) (fun s1 y1 hx3 hG2=>?_) (fun j0 hx2=>?_)
  ·refine Ha (s:=22) rfl (fun h1=>?_) (fun h1=>?_)
   ·have hx4:=Hd h1 hx3;refine Y7 ?_;exact So hx4
   ·have hx5:=Kf h1 hx3;refine Y3 ?_;obtain rfl:=Fk ht0 hx5;refine Y2 ?_;exact Mt () () ho0 trivial (by exact .refl)
  ·refine Y3 ?_;refine Aw (Fc rfl 3 Tryz.underlying48) rfl ?_;refine Y2 ?_;refine Ti hx2 (s:=13) rfl (fun h2 hx6=>?_) (fun h2 hx7=>?_)
   ·refine Y10 ?_;exact Mt true () hx6 trivial (by exact .refl)
   ·refine Y2 ?_;refine Qt rfl rfl rfl (Fc rfl 3 Tryz.underlying48) rfl ?_;refine Y3 ?_;refine Ti hx7 (s:=19) rfl (fun h3 hx8=>?_) (fun h3 hx9=>?_)
    ·refine Y4 ?_;exact Mt true () hx8 trivial (by exact .refl)
    ·refine Y4 ?_;exact Mt false () hx9 trivial (by exact .refl)
set_option maxHeartbeats 1000000 in
set_option maxRecDepth 100000 in
instance lidarref01_plus_c (p0:List Int) (p1:List Int):ConB (Jm p0 p1) Tryz.prog 207 (fun K vs=>∃ (A0_0:Option Addr) (c0_0:Nat) (A0_1:Option Addr) (c0_1:Nat),vs=[.slice (A0_0) ((p0).length) (c0_0),.slice (A0_1) ((p1).length) (c0_1)]/\Has K A0_0 (p0).length c0_0 1 Ar (p0)/\Has K A0_1 (p1).length c0_1 1 Ar (p1)/\True) (fun K r=>fun v Ln=>∃ (A0:Option Addr) (c0:Nat) (e:Ent),v = .slice (A0) ((r).length) (c0)/\Ln=[e]/\Has (K++[e]) A0 (r).length c0 1 Ar (r)/\True):=⟨by
 rintro K _ r ⟨A0_0,c0_0,A0_1,c0_1,rfl,ha0,ha1,-⟩ hx w hK;exact CtL.bunB (Yd p0 p1 ha0 ha1 hx w hK) (by
  rintro _ _ w1 hw ⟨_,_,rfl,rfl,_,-⟩
  exact ⟨_,_,_,rfl,rfl,hZ hw,trivial⟩)⟩
set_option maxRecDepth 100000 in
theorem Xl (p0:List Int) (p1:List Int) {K:List Ent} {A0_0:Option Addr} {c0_0:Nat} {A0_1:Option Addr} {c0_1:Nat} (ha0:Has K A0_0 p0.length c0_0 1 Ar (p0)) (ha1:Has K A0_1 p1.length c0_1 1 Ar (p1)) {r:List Int} (hx:Du p0 p1=some r) (w:World) (hK:∀ e∈K,Ent.ok w e):CtL Tryz.prog 74 [.slice (A0_0) (p0.length) (c0_0),.slice (A0_1) (p1.length) (c0_1)] w fun v Ln=>∃ (A0:Option Addr) (c0:Nat),v = .slice (A0) (r.length) (c0)/\Ln=[.r A0 r.length c0 3 1 (r.flatMap Ar)]/\True:=by
 have ha0':=Has.up0 ha0;have ha1':=Has.up0 ha1;refine CtL.mk 64 Tryz.func74 rfl Tryz.ntmps74 (by kernel_rfl) rfl ?_;show T 64 _ [(0,.slice (A0_0) (p0.length) (c0_0)),(1,.slice (A0_1) (p1.length) (c0_1))] _;unfold Du at hx;refine Y8 ?_;refine Aw (Fc rfl 3 Tryz.underlying48) rfl ?_;refine Y ?_;refine Aw (Fc rfl 3 Tryz.underlying48) rfl ?_;refine Y ?_;obtain ⟨h2,hx3⟩:=Dh hx;refine T_x (Ah2 Ar (0) (z:=.int .i64 (0)) rfl rfl rfl h2.1 Tryz.underlying48 (show Tryz.prog.info? 3=some Tryz.t3 from by kernel_rfl) (by kernel_rfl) rfl rfl (by kernel_rfl) (show 8*_<=_ from h2.2) (by decide) rfl (fun A1=>?_));refine Y3 ?_;refine Tj (γ:=(Option Addr) × Nat) hx3 (fun s3 y3=>[(5,.slice (y3.1) (s3.length) (y3.2))]) (fun s3 y3=>[.r (y3.1) (s3.length) (y3.2) 3 1 (s3.flatMap Ar)]++[.old w]) (fun s3 y3=>True) (fun s3 y3 hx0 hG0=>?_) (fun j3 hx3=>?_)
 ·refine Y3 ?_;refine Aax (k:=0) rfl (by decide) (fun _=>rfl) (fun hn0 hs0=>?_);obtain ⟨r0,h0,hx1⟩:=Aj hx0;refine T_x (Ex rfl (fun w1 hw1=>Ir s3 (Has.len' hs0) h0 w1 (Ad1 (K:=([.r (y3.1) (s3.length) (y3.2) 3 1 (s3.flatMap Ar)]:List Ent)) (by exact (sb 0)) hw1)) rfl ?_);rintro _ _ hlo ⟨rfl,rfl,hs1,-⟩;refine Pg ?_;refine Ak1 (r:=r0) (Acn h0) (.here) (by decide) (fun _=>rfl) ?_;refine Y4 ?_;obtain rfl:=Option.some.inj hx1;exact Gp (rs:=[.tmp 4]) Tryz.results74 (.tmp rfl (.nil)) (Ln:=[.r (y3.1) (r0.length) (y3.2) 3 1 (r0.flatMap Ar)]) ⟨y3.1,y3.2,rfl,rfl,trivial⟩ (By rfl (Gc)) (by exact .pick 0 rfl (.refl))
 ·refine Y6 ?_;obtain ⟨t0,hl0,ho0⟩:=Aj hx3;refine Lp (σ:=(List Int) × Int) (γ:=(Option Addr) × Nat) hl0 (fun s0 y0=>[(0,.slice (A0_0) (p0.length) (c0_0)),(1,.slice (A0_1) (p1.length) (c0_1)),(5,.slice (y0.1) (s0.1.length) (y0.2)),(6,.int .i64 (s0.2))]) (fun s0 y0=>[.r (y0.1) (s0.1.length) (y0.2) 3 1 (s0.1.flatMap Ar)]++[.old w]) (fun s0 y0=>True) (A1,(List.replicate (Int.toNat (w64 ((((p0.length:Nat):Int))+(((p1.length:Nat):Int))))) (0:Int)).length) trivial (by exact .pick 0 rfl (.refl)) ?_;intro s0 y0 hG1 x0 hx2 ht0;unfold Fp at hx2;refine Y5 ?_;refine Aw (Fc rfl 3 Tryz.underlying48) rfl ?_;refine Y3 ?_;refine Ti hx2 (s:=19) rfl (fun h1 hx4=>?_) (fun h1 hx5=>?_)
  ·refine Y10 ?_;refine Tj (γ:=(Option Addr) × Nat) hx4 (fun s1 y1=>[(0,.slice (A0_0) (p0.length) (c0_0)),(1,.slice (A0_1) (p1.length) (c0_1)),(5,.slice (y1.1) (s1.1.length) (y1.2)),(6,.int .i64 (s0.2)),(7,.int .i64 (s1.2))]) (fun s1 y1=>[.r (y1.1) (s1.1.length) (y1.2) 3 1 (s1.1.flatMap Ar)]++[.old w]) (fun s1 y1=>True) (fun s1 y1 hx6 hG2=>?_) (fun j0 hx4=>?_)
   ·refine Y4 ?_;refine Aw (Fc rfl 3 Tryz.underlying48) rfl ?_;refine Y2 ?_;obtain ⟨x1,h3,hx7⟩:=Aj hx6;refine Nc (k:=0) rfl (by decide) (fun _=>rfl) h3 (fun b0 j1 hA0 hj0 hl1 hm0 hp0=>?_);refine Aw (Bo rfl rfl hA0 (j:=j1) hj0 hl1 Pd) rfl ?_;refine T_h (Ox Ar (s1.1) (w64 (s0.2+(((p1.length:Nat):Int)))) (s1.2) rfl rfl rfl (.here) hA0 rfl hj0 hl1 (fun _=>rfl) (by decide) rfl one3.2 ?_);refine Y8 ?_
    have hn1:s1.1.length=(setI s1.1 (w64 (s0.2+(((p1.length:Nat):Int)))) s1.2).length:=by simp [Cs,Jy,List.length_append] <;> omega
    refine Qp (.here) (e':=.r (y1.1) ((setI s1.1 (w64 (s0.2+(((p1.length:Nat):Int)))) s1.2).length) (y1.2) 3 1 ((setI s1.1 (w64 (s0.2+(((p1.length:Nat):Int)))) s1.2).flatMap Ar)) (by first | (rw [<- hn1];done) | rfl) ?_;refine Qv (s:=5) (v':=.slice (y1.1) ((setI s1.1 (w64 (s0.2+(((p1.length:Nat):Int)))) s1.2).length) (y1.2)) rfl (by have hn2:(s1.1.length)=(setI s1.1 (w64 (s0.2+(((p1.length:Nat):Int)))) s1.2).length:=(by simp [Cs,Jy,List.length_append] <;> omega);first | (rw [<- hn2];done) | rfl) ?_;exact Rp (setI s1.1 (w64 (s0.2+(((p1.length:Nat):Int)))) s1.2,w64 (s0.2+1)) (y1.1,y1.2) hx7 trivial (by exact .pick 0 rfl (.refl))
   ·refine Y6 ?_;obtain ⟨t1,hl2,ho1⟩:=Aj hx4;refine Lp (σ:=(List Int) × Int × Int) (γ:=(Option Addr) × Nat) hl2 (fun s2 y2=>[(0,.slice (A0_0) (p0.length) (c0_0)),(1,.slice (A0_1) (p1.length) (c0_1)),(5,.slice (y2.1) (s2.1.length) (y2.2)),(6,.int .i64 (s0.2)),(7,.int .i64 (s2.2.1)),(8,.int .i64 (s2.2.2))]) (fun s2 y2=>[.r (y2.1) (s2.1.length) (y2.2) 3 1 (s2.1.flatMap Ar)]++[.old w]) (fun s2 y2=>True) (y0.1,y0.2) trivial (by exact .pick 0 rfl (.refl)) ?_;intro s2 y2 hG3 x2 hx8 ht1;unfold Np at hx8;refine Y5 ?_;refine Aw (Fc rfl 3 Tryz.underlying48) rfl ?_;refine Y3 ?_;refine Ti hx8 (s:=25) rfl (fun h4 hx9=>?_) (fun h4 hx10=>?_)
    ·refine Y6 ?_;refine T_dr [0,0,0,1,0,0,0,1,0,0,0,0,0,0,1,0,0,0,2] (.q 0 (.q 1 (.q 2 (.q 3 (.q 4 (.q 5 (.q 6 (.q 7 (.q 8 (.q 9 (.q 10 (.q 11 (.q 12 (.q 13 (.q 14 (.q 15 (.q 16 (.q 17 (.e 18 (.done) (.stop)))))))))))))))))))) mixed (by kernel_rfl) (by kernel_rfl) ?_;refine Y2 ?_;obtain ⟨x3,h5,hx11⟩:=Aj hx9;have hw0:=Has.low (E:=[]) ha0' hK;obtain ⟨b1,o0,j2,hA1,hj1,hl3,hp1⟩:=Has.at_idx hw0 h5;refine P_p rfl rfl (Bo rfl rfl hA1 (j:=j2) hj1 hl3 Pd) rfl ?_;refine P_q rfl rfl (Dj rfl hp1 (sb 1) rfl one3) rfl ?_;refine Y2 ?_;obtain ⟨x4,h6,hx12⟩:=Aj hx11;have hw2:=Has.low (E:=[]) ha1' hK;obtain ⟨b2,o1,j4,hA2,hj2,hl4,hp2⟩:=Has.at_idx hw2 h6;refine P_p rfl rfl (Bo rfl rfl hA2 (j:=j4) hj2 hl4 Pd) rfl ?_;refine P_q rfl rfl (Dj rfl hp2 (sb 1) rfl one3) rfl ?_;refine Y5 ?_;obtain ⟨x5,h7,hx13⟩:=Aj hx12;refine Nc (k:=0) rfl (by decide) (fun _=>rfl) h7 (fun b3 j5 hA3 hj3 hl5 hm1 hp3=>?_);refine P_p rfl rfl (Bo rfl rfl hA3 (j:=j5) hj3 hl5 Pd) rfl ?_;refine P_q rfl rfl (Dj rfl hp3 (sb 0) rfl one3) rfl ?_;refine Y3 ?_;refine P_x rfl (Qf (Jl rfl) rfl ?_) ?_;rotate_left;exact Jf;refine Y9 ?_;refine Aw (Aai rfl rfl (by decide)) rfl ?_;obtain ⟨x6,h8,hx14⟩:=Aj hx13;refine Nc (k:=0) rfl (by decide) (fun _=>rfl) h8 (fun b4 j6 hA4 hj4 hl6 hm2 hp4=>?_)
     refine Aw (Bo rfl rfl hA4 (j:=j6) hj4 hl6 Pd) rfl ?_;refine T_h (Ox Ar (s2.1) (w64 (s0.2+s2.2.2)) (Int.tmod (w64 ((w64 ((w64 (x3*x4))+x5))+s2.2.1)) 65536) rfl rfl rfl (.here) hA4 rfl hj4 hl6 (fun _=>rfl) (by decide) rfl one3.2 ?_);refine Y4 ?_;refine Aw (Yp rfl rfl (by decide)) rfl ?_;refine Y9 ?_
     have hn3:s2.1.length=(setI s2.1 (w64 (s0.2+s2.2.2)) (Int.tmod (w64 ((w64 ((w64 (x3*x4))+x5))+s2.2.1)) 65536)).length:=by simp [Cs,Jy,List.length_append] <;> omega
     refine Qp (.here) (e':=.r (y2.1) ((setI s2.1 (w64 (s0.2+s2.2.2)) (Int.tmod (w64 ((w64 ((w64 (x3*x4))+x5))+s2.2.1)) 65536)).length) (y2.2) 3 1 ((setI s2.1 (w64 (s0.2+s2.2.2)) (Int.tmod (w64 ((w64 ((w64 (x3*x4))+x5))+s2.2.1)) 65536)).flatMap Ar)) (by first | (rw [<- hn3];done) | rfl) ?_;refine Qv (s:=5) (v':=.slice (y2.1) ((setI s2.1 (w64 (s0.2+s2.2.2)) (Int.tmod (w64 ((w64 ((w64 (x3*x4))+x5))+s2.2.1)) 65536)).length) (y2.2)) rfl (by have hn4:(s2.1.length)=(setI s2.1 (w64 (s0.2+s2.2.2)) (Int.tmod (w64 ((w64 ((w64 (x3*x4))+x5))+s2.2.1)) 65536)).length:=(by simp [Cs,Jy,List.length_append] <;> omega);first | (rw [<- hn4];done) | rfl) ?_;exact Rp (setI s2.1 (w64 (s0.2+s2.2.2)) (Int.tmod (w64 ((w64 ((w64 (x3*x4))+x5))+s2.2.1)) 65536),w64 (Int.tdiv (w64 ((w64 ((w64 (x3*x4))+x5))+s2.2.1)) 65536),w64 (s2.2.2+1)) (y2.1,y2.2) hx14 trivial (by exact .pick 0 rfl (.refl))
    ·refine Y3 ?_;obtain rfl:=Fk ht1 hx10;refine Y2 ?_;exact Mt (s2.1,s2.2.1) (y2.1,y2.2) ho1 trivial (by exact .pick 0 rfl (.refl))
  ·refine Y3 ?_;obtain rfl:=Fk ht0 hx5;refine Y2 ?_;exact Mt s0.1 (y0.1,y0.2) ho0 trivial (by exact .pick 0 rfl (.refl))
set_option maxHeartbeats 1000000 in
set_option maxRecDepth 100000 in
instance lidarref01_times_c (p0:List Int) (p1:List Int):Con (Du p0 p1) Tryz.prog 74 (fun K vs=>∃ (A0_0:Option Addr) (c0_0:Nat) (A0_1:Option Addr) (c0_1:Nat),vs=[.slice (A0_0) ((p0).length) (c0_0),.slice (A0_1) ((p1).length) (c0_1)]/\Has K A0_0 (p0).length c0_0 1 Ar (p0)/\Has K A0_1 (p1).length c0_1 1 Ar (p1)/\True) (fun _ r=>fun v Ln=>∃ (A0:Option Addr) (c0:Nat),v = .slice (A0) ((r).length) (c0)/\Ln=[.r A0 (r).length c0 3 1 ((r).flatMap Ar)]/\True):=⟨by
 rintro K _ r ⟨A0_0,c0_0,A0_1,c0_1,rfl,ha0,ha1,-⟩ hx w hK;exact Xl p0 p1 ha0 ha1 hx w hK⟩
set_option maxRecDepth 100000 in
theorem Qx (p0:List Int) (p1:Int) {K:List Ent} {A0_0:Option Addr} {c0_0:Nat} (ha0:Has K A0_0 p0.length c0_0 1 Ar (p0)) {r:(List Int) × Int} (hx:Ik p0 p1=some r) (w:World) (hK:∀ e∈K,Ent.ok w e):CtL Tryz.prog 210 [.slice (A0_0) (p0.length) (c0_0),.int .i64 (p1)] w fun v Ln=>∃ (A0:Option Addr) (c0:Nat),v = .tuple #[.slice (A0) (r.1.length) (c0),.int .i64 (r.2)]/\Ln=[.r A0 r.1.length c0 3 1 (r.1.flatMap Ar)]/\True:=by
 have ha0':=Has.up0 ha0;refine CtL.mk 39 Tryz.func210 rfl Tryz.ntmps210 (by kernel_rfl) rfl ?_;show T 39 _ [(0,.slice (A0_0) (p0.length) (c0_0)),(1,.int .i64 (p1))] _;unfold Ik at hx;refine Y9 ?_;refine Aw (Fc rfl 3 Tryz.underlying48) rfl ?_;obtain ⟨h2,hx3⟩:=Dh hx;refine T_x (Ah2 Ar (0) (z:=.int .i64 (0)) rfl rfl rfl h2.1 Tryz.underlying48 (show Tryz.prog.info? 3=some Tryz.t3 from by kernel_rfl) (by kernel_rfl) rfl rfl (by kernel_rfl) (show 8*_<=_ from h2.2) (by decide) rfl (fun A1=>?_));refine Y8 ?_;refine Tj (γ:=(Option Addr) × Nat) hx3 (fun s4 y4=>[(6,.slice (y4.1) (s4.1.length) (y4.2)),(7,.int .i64 (s4.2))]) (fun s4 y4=>[.r (y4.1) (s4.1.length) (y4.2) 3 1 (s4.1.flatMap Ar)]++[.old w]) (fun s4 y4=>True) (fun s4 y4 hx0 hG0=>?_) (fun j4 hx3=>?_)
 ·refine Y3 ?_;refine Aax (k:=0) rfl (by decide) (fun _=>rfl) (fun hn0 hs0=>?_);obtain ⟨r0,h0,hx1⟩:=Aj hx0;refine T_x (Ex rfl (fun w1 hw1=>Ir s4.1 (Has.len' hs0) h0 w1 (Ad1 (K:=([.r (y4.1) (s4.1.length) (y4.2) 3 1 (s4.1.flatMap Ar)]:List Ent)) (by exact (sb 0)) hw1)) rfl ?_);rintro _ _ hlo ⟨rfl,rfl,hs1,-⟩;refine Pg ?_;refine Ak1 (r:=r0) (Acn h0) (.here) (by decide) (fun _=>rfl) ?_;refine Y6 ?_;obtain rfl:=Option.some.inj hx1;exact Gp (rs:=[.tmp 4,.tmp 5]) Tryz.results210 (.tmp rfl (.tmp rfl (.nil))) (Ln:=[.r (y4.1) (r0.length) (y4.2) 3 1 (r0.flatMap Ar)]) ⟨y4.1,y4.2,rfl,rfl,trivial⟩ (By rfl (Gc)) (by exact .pick 0 rfl (.refl))
 ·refine Y3 ?_;refine Aw (Fc rfl 3 Tryz.underlying48) rfl ?_;refine Y5 ?_;obtain ⟨t0,hl0,ho0⟩:=Aj hx3;refine Lp (σ:=(List Int) × Int × Int) (γ:=(Option Addr) × Nat) hl0 (fun s0 y0=>[(0,.slice (A0_0) (p0.length) (c0_0)),(1,.int .i64 (p1)),(6,.slice (y0.1) (s0.1.length) (y0.2)),(7,.int .i64 (s0.2.1)),(8,.int .i64 (s0.2.2))]) (fun s0 y0=>[.r (y0.1) (s0.1.length) (y0.2) 3 1 (s0.1.flatMap Ar)]++[.old w]) (fun s0 y0=>True) (A1,(List.replicate (Int.toNat (((p0.length:Nat):Int))) (0:Int)).length) trivial (by exact .pick 0 rfl (.refl)) ?_;intro s0 y0 hG1 x0 hx2 ht0;unfold Nq at hx2;refine Y7 ?_;refine Ti hx2 (s:=17) rfl (fun h1 hx4=>?_) (fun h1 hx5=>?_)
  ·refine Y11 ?_;obtain ⟨x1,h3,hx6⟩:=Aj hx4;have hw0:=Has.low (E:=[]) ha0' hK;obtain ⟨b0,o0,j0,hA0,hj0,hl1,hp0⟩:=Has.at_idx hw0 h3;refine Aw (Bo rfl rfl hA0 (j:=j0) hj0 hl1 Pd) rfl ?_;refine Aw (Dj rfl hp0 (sb 1) rfl one3) rfl ?_;refine Y10 ?_;obtain ⟨h4,hx7⟩:=Dh hx6;refine Aw (Yp rfl rfl h4) rfl ?_;obtain ⟨x2,h5,hx8⟩:=Aj hx7;refine Nc (k:=0) rfl (by decide) (fun _=>rfl) h5 (fun b1 j1 hA1 hj1 hl2 hm0 hp1=>?_);refine Aw (Bo rfl rfl hA1 (j:=j1) hj1 hl2 Pd) rfl ?_;refine T_h (Ox Ar (s0.1) (s0.2.2) (w64 (Int.tdiv (w64 ((w64 (s0.2.1*65536))+x1)) p1)) rfl rfl rfl (.here) hA1 rfl hj1 hl2 (fun _=>rfl) (by decide) rfl one3.2 ?_);refine Y5 ?_;obtain ⟨h6,hx9⟩:=Dh hx8;refine Aw (Aai rfl rfl h6) rfl ?_;refine Y9 ?_
   have hn1:s0.1.length=(setI s0.1 s0.2.2 (w64 (Int.tdiv (w64 ((w64 (s0.2.1*65536))+x1)) p1))).length:=by simp [Cs,Jy,List.length_append] <;> omega
   refine Qp (.here) (e':=.r (y0.1) ((setI s0.1 s0.2.2 (w64 (Int.tdiv (w64 ((w64 (s0.2.1*65536))+x1)) p1))).length) (y0.2) 3 1 ((setI s0.1 s0.2.2 (w64 (Int.tdiv (w64 ((w64 (s0.2.1*65536))+x1)) p1))).flatMap Ar)) (by first | (rw [<- hn1];done) | rfl) ?_;refine Qv (s:=6) (v':=.slice (y0.1) ((setI s0.1 s0.2.2 (w64 (Int.tdiv (w64 ((w64 (s0.2.1*65536))+x1)) p1))).length) (y0.2)) rfl (by have hn2:(s0.1.length)=(setI s0.1 s0.2.2 (w64 (Int.tdiv (w64 ((w64 (s0.2.1*65536))+x1)) p1))).length:=(by simp [Cs,Jy,List.length_append] <;> omega);first | (rw [<- hn2];done) | rfl) ?_;exact Rp (setI s0.1 s0.2.2 (w64 (Int.tdiv (w64 ((w64 (s0.2.1*65536))+x1)) p1)),Int.tmod (w64 ((w64 (s0.2.1*65536))+x1)) p1,w64 (s0.2.2-1)) (y0.1,y0.2) hx9 trivial (by exact .pick 0 rfl (.refl))
  ·refine Y3 ?_;obtain rfl:=Fk ht0 hx5;refine Y2 ?_;exact Mt (s0.1,s0.2.1) (y0.1,y0.2) ho0 trivial (by exact .pick 0 rfl (.refl))
set_option maxHeartbeats 1000000 in
set_option maxRecDepth 100000 in
instance lidarref01_short_c (p0:List Int) (p1:Int):Con (Ik p0 p1) Tryz.prog 210 (fun K vs=>∃ (A0_0:Option Addr) (c0_0:Nat),vs=[.slice (A0_0) ((p0).length) (c0_0),.int .i64 (p1)]/\Has K A0_0 (p0).length c0_0 1 Ar (p0)/\True) (fun _ r=>fun v Ln=>∃ (A0:Option Addr) (c0:Nat),v = .tuple #[.slice (A0) ((r.1).length) (c0),.int .i64 (r.2)]/\Ln=[.r A0 (r.1).length c0 3 1 ((r.1).flatMap Ar)]/\True):=⟨by
 rintro K _ r ⟨A0_0,c0_0,rfl,ha0,-⟩ hx w hK;exact Qx p0 p1 ha0 hx w hK⟩
set_option maxRecDepth 100000 in
theorem Jx (p0:List Int) (p1:List Int) {K:List Ent} {A0_0:Option Addr} {c0_0:Nat} {A0_1:Option Addr} {c0_1:Nat} (ha0:Has K A0_0 p0.length c0_0 1 Ar (p0)) (ha1:Has K A0_1 p1.length c0_1 1 Ar (p1)) {r:(List Int) × (List Int)} (hx:Cx p0 p1=some r) (w:World) (hK:∀ e∈K,Ent.ok w e):CtL Tryz.prog 130 [.slice (A0_0) (p0.length) (c0_0),.slice (A0_1) (p1.length) (c0_1)] w fun v Ln=>∃ (A0:Option Addr) (c0:Nat) (A2:Option Addr) (c2:Nat) (e0:Ent),v = .tuple #[.slice (A0) (r.1.length) (c0),.slice (A2) (r.2.length) (c2)]/\Ln=[.r A0 r.1.length c0 3 1 (r.1.flatMap Ar),e0]/\Has (K++[e0]) A2 r.2.length c2 1 Ar (r.2)/\True:=by
 have ha0':=Has.up0 ha0;have ha1':=Has.up0 ha1;refine CtL.mk 156 Tryz.func130 rfl Tryz.ntmps130 (by kernel_rfl) rfl ?_;show T 156 _ [(0,.slice (A0_0) (p0.length) (c0_0)),(1,.slice (A0_1) (p1.length) (c0_1))] _;unfold Cx at hx;refine Y11 ?_;obtain ⟨r1,h2,hx3⟩:=Aj hx;refine Tc (fun w1 hw1=>Vh p0 p1 (Has.len' ha0') (Has.len' ha1') h2 w1 (Sp (K:=K) (K2:=[]) hK (by exact (sb 0)) (by exact (SubE.nil)) hw1)) ?_;refine Y3 ?_;refine Ti hx3 (s:=22) rfl (fun h4 hx5=>?_) (fun h4 hx6=>?_)
 ·refine Y10 ?_;refine Az 3 1 ?_;refine Az 0 1 ?_;obtain rfl:=Option.some.inj hx5;exact Gp (rs:=[.tmp 4,.tmp 5]) Tryz.results130 (.tmp rfl (.tmp rfl (.nil))) (Ln:=[.r (none) (0) (0) 3 1 ((([]:List Int)).flatMap Ar),.r none 0 0 0 1 []]) ⟨none,0,A0_0,c0_0,(.r none 0 0 0 1 []),rfl,rfl,Has.len' (Has.up (L:=(K++[.r none 0 0 0 1 []])) ha0' (SubE.app2 SubE.nil)),trivial⟩ (By rfl (By rfl (Gc))) (by exact .pick 1 rfl (.pick 0 rfl (.refl)))
 ·refine Y7 ?_;refine Aw (Fc rfl 3 Tryz.underlying48) rfl ?_;refine Y3 ?_;refine Ti hx6 (s:=26) rfl (fun h7 hx8=>?_) (fun h7 hx0=>?_)
  ·refine Y5 ?_;obtain ⟨x9,h0,hx1⟩:=Aj hx8;have hw0:=Has.low (E:=[]) ha1' hK;obtain ⟨b0,o0,j0,hA0,hj0,hl0,hp0⟩:=Has.at_idx hw0 h0;refine Aw (Bo rfl rfl hA0 (j:=j0) hj0 hl0 Pd) rfl ?_;refine Aw (Dj rfl hp0 (sb 0) rfl one3) rfl ?_;obtain ⟨r0,h1,hx2⟩:=Aj hx1;refine T_x (Ex rfl (fun w1 hw1=>Qx p0 x9 (Has.len' ha0') h1 w1 (Sp (K:=K) (K2:=[]) hK (by exact (sb 0)) (by exact (SubE.nil)) hw1)) rfl ?_);rintro _ _ hlo ⟨A1,c1,rfl,rfl,-⟩;refine Ph ?_;refine Y11 ?_;obtain ⟨r2,h3,hx4⟩:=Aj hx2;refine T_x (Ex rfl (fun w1 hw1=>Xk r0.2  h3 w1) rfl ?_);rintro _ _ hlo ⟨A3,c3,rfl,rfl,-⟩;refine Ph ?_;refine Aw (Ae8 rfl (Aa8 _ _ _ _)) rfl ?_;refine Y6 ?_;refine Aax (k:=0) rfl (by decide) (fun _=>rfl) (fun hn0 hs0=>?_);obtain rfl:=Option.some.inj hx4;exact Gp (rs:=[.tmp 4,.tmp 5]) Tryz.results130 (.tmp rfl (.tmp rfl (.nil))) (Ln:=[.r (A1) (r0.1.length) (c1) 3 1 (r0.1.flatMap Ar),.r (A3) (r2.L.length) (c3) 3 1 (r2.L.flatMap Ar)]) ⟨A1,c1,A3,c3,(.r (A3) (r2.L.length) (c3) 3 1 (r2.L.flatMap Ar)),rfl,rfl,Has.len' (Has.up (L:=(K++[.r (A3) (r2.L.length) (c3) 3 1 (r2.L.flatMap Ar)])) hs0 (SubE.appR2 (sb 0))),trivial⟩ (By rfl (By rfl (Gc))) (by exact .pick 1 rfl (.pick 0 rfl (.refl)))
  ·refine Y5 ?_;exact So hx0
set_option maxHeartbeats 1000000 in
set_option maxRecDepth 100000 in
instance lidarref01_divide_c (p0:List Int) (p1:List Int):ConB (Cx p0 p1) Tryz.prog 130 (fun K vs=>∃ (A0_0:Option Addr) (c0_0:Nat) (A0_1:Option Addr) (c0_1:Nat),vs=[.slice (A0_0) ((p0).length) (c0_0),.slice (A0_1) ((p1).length) (c0_1)]/\Has K A0_0 (p0).length c0_0 1 Ar (p0)/\Has K A0_1 (p1).length c0_1 1 Ar (p1)/\True) (fun K r=>fun v Ln=>∃ (A0:Option Addr) (c0:Nat) (A2:Option Addr) (c2:Nat) (e:Ent),v = .tuple #[.slice (A0) ((r.1).length) (c0),.slice (A2) ((r.2).length) (c2)]/\Ln=[e]/\Has (K++[e]) A0 (r.1).length c0 1 Ar (r.1)/\Has (K++[e]) A2 (r.2).length c2 1 Ar (r.2)/\True):=⟨by
 rintro K _ r ⟨A0_0,c0_0,A0_1,c0_1,rfl,ha0,ha1,-⟩ hx w hK;exact CtL.bunB (Jx p0 p1 ha0 ha1 hx w hK) (by
  rintro _ _ w1 hw ⟨_,_,_,_,_,rfl,rfl,_,-⟩
  exact ⟨_,_,_,_,_,rfl,rfl,hZ hw,hZ hw,trivial⟩)⟩
set_option maxRecDepth 100000 in
theorem Sj (p0:List Int) (p1:List Int) {K:List Ent} {A0_0:Option Addr} {c0_0:Nat} {A0_1:Option Addr} {c0_1:Nat} (ha0:Has K A0_0 p0.length c0_0 1 Ar (p0)) (ha1:Has K A0_1 p1.length c0_1 1 Ar (p1)) {r:List Int} (hx:Km p0 p1=some r) (w:World) (hK:∀ e∈K,Ent.ok w e):CtL Tryz.prog 129 [.slice (A0_0) (p0.length) (c0_0),.slice (A0_1) (p1.length) (c0_1)] w fun v Ln=>∃ (A0:Option Addr) (c0:Nat) (e0:Ent),v = .slice (A0) (r.length) (c0)/\Ln=[e0]/\Has (K++[e0]) A0 r.length c0 1 Ar (r)/\True:=by
 have ha0':=Has.up0 ha0;have ha1':=Has.up0 ha1;refine CtL.mk 19 Tryz.func129 rfl Tryz.ntmps129 (by kernel_rfl) rfl ?_;show T 19 _ [(0,.slice (A0_0) (p0.length) (c0_0)),(1,.slice (A0_1) (p1.length) (c0_1))] _;unfold Km at hx;refine Y5 ?_;obtain ⟨j2,hj2,hx⟩:=Zy hx;refine Wc (τ:=List Int) (γ:=(Option Addr) × Nat × Ent) (J:=j2) (out:=r) (fun s2 y2=>[(0,.slice (y2.1) (s2.length) (y2.2.1))]) (fun s2 y2=>[y2.2.2]++[.old w]) (fun s2 y2=>y2.2.2.low=0/\Has (K++[y2.2.2]) (y2.1) (s2.length) (y2.2.1) 1 Ar (s2)/\True) ?_ ?_
 ·intro s2 y2 hx0 hG0;obtain ⟨lo57,hs0,-⟩:=hG0;subst hj2;refine Y7 ?_;obtain rfl:=Option.some.inj hx0;exact Gp (rs:=[.tmp 4]) Tryz.results129 (.tmp rfl (.nil)) (Ln:=[y2.2.2]) ⟨y2.1,y2.2.1,y2.2.2,rfl,rfl,Has.len' hs0,trivial⟩ (By lo57 (Gc)) (by exact .pick 0 rfl (.refl))
 ·skip;refine Y ?_;obtain ⟨t0,hl0,ho0⟩:=Aj hx;refine Az 0 1 ?_;refine Lp (σ:=(List Int) × (List Int)) (γ:=(Option Addr) × Nat × Ent × (Option Addr) × Nat) hl0 (fun s0 y0=>[(0,.slice (y0.1) (s0.1.length) (y0.2.1)),(1,.slice (y0.2.2.2.1) (s0.2.length) (y0.2.2.2.2))]) (fun s0 y0=>[y0.2.2.1]++[.old w]) (fun s0 y0=>y0.2.2.1.low=0/\Has (K++[y0.2.2.1]) (y0.1) (s0.1.length) (y0.2.1) 1 Ar (s0.1)/\Has (K++[y0.2.2.1]) (y0.2.2.2.1) (s0.2.length) (y0.2.2.2.2) 1 Ar (s0.2)/\True) (A0_0,c0_0,.r none 0 0 0 1 [],A0_1,c0_1) ((by exact ⟨rfl,Has.len' ((Has.up (L:=(K++[.r none 0 0 0 1 []])) ha0' (SubE.app2 SubE.nil))),Has.len' ((Has.up (L:=(K++[.r none 0 0 0 1 []])) ha1' (SubE.app2 SubE.nil))),trivial⟩)) (by exact .pick 0 rfl (.refl)) ?_;intro s0 y0 hG1 x0 hx1 ht0;unfold Jw at hx1;obtain ⟨lo38,hs1,hs2,-⟩:=hG1;refine Y4 ?_;refine Aw (Fc rfl 3 Tryz.underlying48) rfl ?_;refine Y3 ?_;refine Ti hx1 (s:=9) rfl (fun h0 hx2=>?_) (fun h0 hx3=>?_)
  ·refine Y8 ?_;obtain ⟨r0,h1,hx4⟩:=Aj hx2;refine T_x (Ex rfl (fun w1 hw1=>Jx s0.1 s0.2 (Has.len' hs1) (Has.len' hs2) h1 w1 (Sp (K:=K) (K2:=[y0.2.2.1]) hK (by exact (sb 1)) (by exact (sb 0)) hw1)) rfl ?_);rintro _ _ hlo ⟨A1,c1,A2,c2,e1,rfl,rfl,hs3,-⟩;have lo53:=hlo e1 (by simp);refine Qa ?_;have hs4:Has (K++[y0.2.2.1,e1]) _ _ _ _ _ _:=Has.assoc hs3;(iterate 14 refine Y ?_);refine Ape (es:=[y0.2.2.1,e1]) (by exact .pick 2 rfl (.pick 1 rfl (.refl))) (By lo38 (By lo53 (Gc))) ?_;exact Rp (s0.2,r0.2) (y0.2.2.2.1,y0.2.2.2.2,bun [y0.2.2.1,e1],A2,c2) hx4 ((by exact ⟨rfl,Has.len' ((Has.up (L:=(K++[(bun [y0.2.2.1,e1])])) hs2 (SubE.app2 (SubE.consB (i:=0) (j:=0) rfl rfl (SubE.nil))))),Has.len' ((Has.up (L:=(K++[(bun [y0.2.2.1,e1])])) hs4 (SubE.app2 (SubE.consB (i:=0) (j:=0) rfl rfl (SubE.consB (i:=0) (j:=1) rfl rfl (SubE.nil)))))),trivial⟩)) (by exact .pick 0 rfl (.drop 0 rfl (.refl)))
  ·refine Y3 ?_;obtain rfl:=Fk ht0 hx3;refine Y2 ?_;exact Mt s0.1 (y0.1,y0.2.1,y0.2.2.1) ho0 ((by exact ⟨lo38,Has.len' hs1,trivial⟩)) (by exact .pick 0 rfl (.refl))
set_option maxRecDepth 100000 in
instance lidarref01_gcd_c (p0:List Int) (p1:List Int):ConB (Km p0 p1) Tryz.prog 129 (fun K vs=>∃ (A0_0:Option Addr) (c0_0:Nat) (A0_1:Option Addr) (c0_1:Nat),vs=[.slice (A0_0) ((p0).length) (c0_0),.slice (A0_1) ((p1).length) (c0_1)]/\Has K A0_0 (p0).length c0_0 1 Ar (p0)/\Has K A0_1 (p1).length c0_1 1 Ar (p1)/\True) (fun K r=>fun v Ln=>∃ (A0:Option Addr) (c0:Nat) (e:Ent),v = .slice (A0) ((r).length) (c0)/\Ln=[e]/\Has (K++[e]) A0 (r).length c0 1 Ar (r)/\True):=⟨by
 rintro K _ r ⟨A0_0,c0_0,A0_1,c0_1,rfl,ha0,ha1,-⟩ hx w hK;exact CtL.bunB (Sj p0 p1 ha0 ha1 hx w hK) (by
  rintro _ _ w1 hw ⟨_,_,_,rfl,rfl,_,-⟩
  exact ⟨_,_,_,rfl,rfl,hZ hw,trivial⟩)⟩
set_option maxRecDepth 100000 in
instance lidarref01_Int_Add_c (p0:Al) (p1:Al):ConB (Lb p0 p1) Tryz.prog 126 (fun K vs=>∃ (A0_0:Option Addr) (c0_0:Nat) (A0_1:Option Addr) (c0_1:Nat),vs=[.agg #[.bool (p0.Neg),.slice (A0_0) ((p0.L).length) (c0_0)],.agg #[.bool (p1.Neg),.slice (A0_1) ((p1.L).length) (c0_1)]]/\Has K A0_0 (p0.L).length c0_0 1 Ar (p0.L)/\Has K A0_1 (p1.L).length c0_1 1 Ar (p1.L)/\True) (fun K r=>fun v Ln=>∃ (A0:Option Addr) (c0:Nat) (e:Ent),v = .agg #[.bool (r.Neg),.slice (A0) ((r.L).length) (c0)]/\Ln=[e]/\Has (K++[e]) A0 (r.L).length c0 1 Ar (r.L)/\True):=⟨by
 rintro K _ r ⟨A0_0,c0_0,A0_1,c0_1,rfl,ha0,ha1,-⟩ hx w hK;unfold Lb at hx;have:=dl 2 [0,1,0,1,0,1,2,0,3] [0,1,2,3,4,5,6,7,8];refine CtS Tryz.ntmps126 Tryz.results126 ?_;exact au⟩

set_option maxRecDepth 100000 in
instance lidarref01_Int_Minus_c (p0:Al):ConB (Mv p0) Tryz.prog 132 (fun K vs=>∃ (A0_0:Option Addr) (c0_0:Nat),vs=[.agg #[.bool (p0.Neg),.slice (A0_0) ((p0.L).length) (c0_0)]]/\Has K A0_0 (p0.L).length c0_0 1 Ar (p0.L)/\True) (fun K r=>fun v Ln=>∃ (A0:Option Addr) (c0:Nat) (e:Ent),v = .agg #[.bool (r.Neg),.slice (A0) ((r.L).length) (c0)]/\Ln=[e]/\Has (K++[e]) A0 (r.L).length c0 1 Ar (r.L)/\True):=⟨by
 rintro K _ r ⟨A0_0,c0_0,rfl,ha0,-⟩ hx w hK;unfold Mv at hx;refine CtS Tryz.ntmps132 Tryz.results132 ?_;exact au⟩

set_option maxRecDepth 100000 in
instance lidarref01_Int_Mul_c (p0:Al) (p1:Al):Con (Gk p0 p1) Tryz.prog 73 (fun K vs=>∃ (A0_0:Option Addr) (c0_0:Nat) (A0_1:Option Addr) (c0_1:Nat),vs=[.agg #[.bool (p0.Neg),.slice (A0_0) ((p0.L).length) (c0_0)],.agg #[.bool (p1.Neg),.slice (A0_1) ((p1.L).length) (c0_1)]]/\Has K A0_0 (p0.L).length c0_0 1 Ar (p0.L)/\Has K A0_1 (p1.L).length c0_1 1 Ar (p1.L)/\True) (fun _ r=>fun v Ln=>∃ (A0:Option Addr) (c0:Nat),v = .agg #[.bool (r.Neg),.slice (A0) ((r.L).length) (c0)]/\Ln=[.r A0 (r.L).length c0 3 1 ((r.L).flatMap Ar)]/\True):=⟨by
 rintro K _ r ⟨A0_0,c0_0,A0_1,c0_1,rfl,ha0,ha1,-⟩ hx w hK;replace ha0:=Has.lo ha0 hK;replace ha1:=Has.lo ha1 hK;unfold Gk at hx;refine CtS Tryz.ntmps73 Tryz.results73 ?_;exact au⟩
set_option maxRecDepth 100000 in
instance lidarref01_Int_Sign_c (p0:Al):Con (Nr p0) Tryz.prog 128 (fun K vs=>∃ (A0_0:Option Addr) (c0_0:Nat),vs=[.agg #[.bool (p0.Neg),.slice (A0_0) ((p0.L).length) (c0_0)]]/\Has K A0_0 (p0.L).length c0_0 1 Ar (p0.L)/\True) (fun _ r=>fun v Ln=>v = .int .i64 (r)/\Ln=[]/\True):=⟨by
 rintro K _ r ⟨A0_0,c0_0,rfl,ha0,-⟩ hx w hK;replace ha0:=Has.lo ha0 hK;unfold Nr at hx;refine CtS Tryz.ntmps128 Tryz.results128 ?_;exact au⟩
set_option maxRecDepth 100000 in
theorem Ok (p0:Al) (p1:Al) {K:List Ent} {A0_0:Option Addr} {c0_0:Nat} {A0_1:Option Addr} {c0_1:Nat} (ha0:Has K A0_0 p0.L.length c0_0 1 Ar (p0.L)) (ha1:Has K A0_1 p1.L.length c0_1 1 Ar (p1.L)) {r:Ax} (hx:Ft p0 p1=some r) (w:World) (hK:∀ e∈K,Ent.ok w e):CtL Tryz.prog 72 [.agg #[.bool (p0.Neg),.slice (A0_0) (p0.L.length) (c0_0)],.agg #[.bool (p1.Neg),.slice (A0_1) (p1.L.length) (c0_1)]] w fun v Ln=>∃ (A0:Option Addr) (c0:Nat) (A2:Option Addr) (c2:Nat),v = .agg #[.bool (r.N.Neg),.slice (A0) (r.N.L.length) (c0),.slice (A2) (r.D.length) (c2)]/\Ln=[.r A0 r.N.L.length c0 3 1 (r.N.L.flatMap Ar),.r A2 r.D.length c2 3 1 (r.D.flatMap Ar)]/\True:=by
 have ha0':=Has.up0 ha0;have ha1':=Has.up0 ha1;refine CtL.mk 40 Tryz.func72 rfl Tryz.ntmps72 (by kernel_rfl) rfl ?_;show T 40 _ [(0,.agg #[.bool (p0.Neg),.slice (A0_0) (p0.L.length) (c0_0)]),(1,.agg #[.bool (p1.Neg),.slice (A0_1) (p1.L.length) (c0_1)])] _;unfold Ft at hx;refine Y2 ?_;refine T_x (Py rfl rfl rfl (fun g1=>?_));refine T_x (Py rfl rfl rfl (fun g2=>?_));refine T_x (Is Aom rfl (fun g3=>?_));refine Y4 ?_;refine Aw (Fh rfl Zf rfl) rfl ?_;refine Aw (Bl rfl (i:=2) rfl rfl Ahh) rfl ?_;refine Aw (Fh rfl Zf rfl) rfl ?_;refine Aw (Bl rfl (i:=1) rfl rfl Ahh) rfl ?_;obtain ⟨r4,h5,hx6⟩:=Aj hx;refine T_x (Ex rfl (fun w1 hw1=>Sj p0.L p1.L (Has.len' ha0') (Has.len' ha1') h5 w1 (Sp (K:=K) (K2:=[]) hK (by exact (sb 3)) (by exact (SubE.nil)) hw1)) rfl ?_);rintro _ _ hlo ⟨A7,c8,e9,rfl,rfl,hs0,-⟩;have lo11:=hlo e9 (by simp);refine Ph ?_;have hs1:Has (K++[e9]) _ _ _ _ _ _:=Has.assoc hs0;refine Y5 ?_;refine Aw (Fh rfl Zf rfl) rfl ?_;refine Aw (Bl rfl (i:=3) rfl rfl Ahh) rfl ?_;refine Y ?_;obtain ⟨r0,h0,hx0⟩:=Aj hx6;refine T_x (Ex rfl (fun w1 hw1=>Jx p0.L r4 (Has.len' (Has.up (L:=(K++[e9])) ha0' (SubE.app2 SubE.nil))) (Has.len' hs1) h0 w1 (Sp (K:=K) (K2:=[e9]) hK (by exact (sb 4)) (by exact (sb 0)) hw1)) rfl ?_);rintro _ _ hlo ⟨A1,c1,A3,c3,e0,rfl,rfl,hs2,-⟩
 have lo22:=hlo e0 (by simp);refine Qa ?_;have hs3:Has (K++[e9,e0]) _ _ _ _ _ _:=Has.assoc hs2;refine Y9 ?_;refine Aw (Fh rfl Zf rfl) rfl ?_;refine Aw (Bl rfl (i:=4) rfl rfl Ahh) rfl ?_;refine Y ?_;obtain ⟨r1,h1,hx1⟩:=Aj hx0;refine T_x (Ex rfl (fun w1 hw1=>Jx p1.L r4 (Has.len' (Has.up (L:=(K++[e9])) ha1' (SubE.app2 SubE.nil))) (Has.len' hs1) h1 w1 (Sp (K:=K) (K2:=[e9]) hK (by exact (sb 6)) (by exact (sb 2)) hw1)) rfl ?_);rintro _ _ hlo ⟨A4,c4,A5,c5,e1,rfl,rfl,hs4,-⟩;have lo33:=hlo e1 (by simp);refine Qa ?_;have hs5:Has (K++[e9,e1]) _ _ _ _ _ _:=Has.assoc hs4;refine Y7 ?_;refine Tj (γ:=Unit) hx1 (fun s5 y5=>[(4,.pointer (some ⟨g3,0,none⟩))]) (fun s5 y5=>[.r (A4) (r1.1.length) (c4) 3 1 (r1.1.flatMap Ar),.r (A1) (r0.1.length) (c1) 3 1 (r0.1.flatMap Ar),.m g3 52 [.bool (s5),.slice (A1) (r0.1.length) (c1),.slice (A4) (r1.1.length) (c4)]]++[.old w]) (fun s5 y5=>True) (fun s5 y5 hx2 hG0=>?_) (fun j5 hx1=>?_)
 ·refine Y ?_;obtain rfl:=Option.some.inj hx2;exact Gp (rs:=[.cell 4 52]) Tryz.results72 (.cell rfl (i:=2) rfl rfl Zg (.nil)) (Ln:=[.r (A1) (r0.1.length) (c1) 3 1 (r0.1.flatMap Ar),.r (A4) (r1.1.length) (c4) 3 1 (r1.1.flatMap Ar)]) ⟨A1,c1,A4,c4,rfl,rfl,trivial⟩ (By rfl (By rfl (Gc))) (by exact .pick 1 rfl (.pick 0 rfl (.drop 0 rfl (.refl))))
 ·refine Y ?_;refine Aw (Fh rfl Akj rfl) rfl ?_;refine Aw (Bl rfl (i:=7) rfl rfl one4) rfl ?_;refine Y ?_;refine Ha (s:=31) rfl (fun h2=>?_) (fun h2=>?_)
  ·have hx3:=Hd h2 hx1;refine Y ?_;refine Qt rfl rfl rfl (Fc rfl 3 Tryz.underlying48) rfl ?_;refine Y3 ?_;refine Aw (Dy rfl (Oi _ _ _ _)) rfl ?_;refine Y ?_;refine Aw (Dy rfl (Ui _ _ _ _ _ _ _)) rfl ?_;refine T_h (Gb rfl rfl rfl (.there (.there (.there (.there (.there (.here)))))) (.put (.put (.put (.done)))) rfl (List.cons_ne_nil _ _) Zg.2 ?_);refine Y ?_;exact Mt (decide (0 < (((r0.1.length:Nat):Int)))) () hx3 trivial (by exact .pick 0 rfl (.pick 1 rfl (.pick 3 rfl (.drop 0 rfl (.drop 0 rfl (.drop 0 rfl (.drop 0 rfl (.drop 0 rfl (.refl)))))))))
  ·have hx4:=Kf h2 hx1;refine Y5 ?_;refine Aw (Dy rfl (Oi _ _ _ _)) rfl ?_;refine Y ?_;refine Aw (Dy rfl (Ui _ _ _ _ _ _ _)) rfl ?_;refine T_h (Gb rfl rfl rfl (.there (.there (.there (.there (.there (.here)))))) (.put (.put (.put (.done)))) rfl (List.cons_ne_nil _ _) Zg.2 ?_);refine Y ?_;exact Mt false () hx4 trivial (by exact .pick 0 rfl (.pick 1 rfl (.pick 3 rfl (.drop 0 rfl (.drop 0 rfl (.drop 0 rfl (.drop 0 rfl (.drop 0 rfl (.refl)))))))))
set_option maxHeartbeats 1000000 in
set_option maxRecDepth 100000 in
instance lidarref01_Frac_c (p0:Al) (p1:Al):Con (Ft p0 p1) Tryz.prog 72 (fun K vs=>∃ (A0_0:Option Addr) (c0_0:Nat) (A0_1:Option Addr) (c0_1:Nat),vs=[.agg #[.bool (p0.Neg),.slice (A0_0) ((p0.L).length) (c0_0)],.agg #[.bool (p1.Neg),.slice (A0_1) ((p1.L).length) (c0_1)]]/\Has K A0_0 (p0.L).length c0_0 1 Ar (p0.L)/\Has K A0_1 (p1.L).length c0_1 1 Ar (p1.L)/\True) (fun _ r=>fun v Ln=>∃ (A0:Option Addr) (c0:Nat) (A2:Option Addr) (c2:Nat),v = .agg #[.bool (r.N.Neg),.slice (A0) ((r.N.L).length) (c0),.slice (A2) ((r.D).length) (c2)]/\Ln=[.r A0 (r.N.L).length c0 3 1 ((r.N.L).flatMap Ar),.r A2 (r.D).length c2 3 1 ((r.D).flatMap Ar)]/\True):=⟨by
 rintro K _ r ⟨A0_0,c0_0,A0_1,c0_1,rfl,ha0,ha1,-⟩ hx w hK;exact Ok p0 p1 ha0 ha1 hx w hK⟩
set_option maxRecDepth 100000 in
instance lidarref01_Whole_c (p0:Int):Con (Kn p0) Tryz.prog 20 (fun _ vs=>vs=[.int .i64 (p0)]) (fun _ r=>fun v Ln=>∃ (A0:Option Addr) (c0:Nat) (A2:Option Addr) (c2:Nat),v = .agg #[.bool (r.N.Neg),.slice (A0) ((r.N.L).length) (c0),.slice (A2) ((r.D).length) (c2)]/\Ln=[.r A0 (r.N.L).length c0 3 1 ((r.N.L).flatMap Ar),.r A2 (r.D).length c2 3 1 ((r.D).flatMap Ar)]/\True):=⟨by
 rintro _ _ r rfl hx w hK;unfold Kn at hx;refine CtS Tryz.ntmps20 Tryz.results20 ?_;try (refine pre ?_;intros;rename_i hx)
 (with_reducible apply Afk 5 (sz:=1));exact rfl;exact aT;exact inferInstance;exact dL;exact (fun _=>rfl);exact rfl;exact rfl;exact sA
 exact au⟩
set_option maxRecDepth 100000 in
instance lidarref01_Q_Add_c (p0:Ax) (p1:Ax):Con (Ko p0 p1) Tryz.prog 68 (fun K vs=>∃ (A0_0:Option Addr) (c0_0:Nat) (A0_1:Option Addr) (c0_1:Nat) (A0_2:Option Addr) (c0_2:Nat) (A0_3:Option Addr) (c0_3:Nat),vs=[.agg #[.bool (p0.N.Neg),.slice (A0_0) ((p0.N.L).length) (c0_0),.slice (A0_1) ((p0.D).length) (c0_1)],.agg #[.bool (p1.N.Neg),.slice (A0_2) ((p1.N.L).length) (c0_2),.slice (A0_3) ((p1.D).length) (c0_3)]]/\Has K A0_0 (p0.N.L).length c0_0 1 Ar (p0.N.L)/\Has K A0_1 (p0.D).length c0_1 1 Ar (p0.D)/\Has K A0_2 (p1.N.L).length c0_2 1 Ar (p1.N.L)/\Has K A0_3 (p1.D).length c0_3 1 Ar (p1.D)/\True) (fun _ r=>fun v Ln=>∃ (A0:Option Addr) (c0:Nat) (A2:Option Addr) (c2:Nat),v = .agg #[.bool (r.N.Neg),.slice (A0) ((r.N.L).length) (c0),.slice (A2) ((r.D).length) (c2)]/\Ln=[.r A0 (r.N.L).length c0 3 1 ((r.N.L).flatMap Ar),.r A2 (r.D).length c2 3 1 ((r.D).flatMap Ar)]/\True):=⟨by
 rintro K _ r ⟨A0_0,c0_0,A0_1,c0_1,A0_2,c0_2,A0_3,c0_3,rfl,ha0,ha1,ha2,ha3,-⟩ hx w hK;replace ha0:=Has.lo ha0 hK;replace ha1:=Has.lo ha1 hK;replace ha2:=Has.lo ha2 hK;replace ha3:=Has.lo ha3 hK;unfold Ko at hx;have:=dl 1 [0,1,0,1,0,2,0,1,0,1,0,2,2,0,1,0,1,2,0,2,3] [0,1,2,3,4,6,7,8,9,10,13,14,15,16,5,11,12,17,18,19,20];refine CtS Tryz.ntmps68 Tryz.results68 ?_;exact au⟩
set_option maxRecDepth 100000 in
instance lidarref01_Q_Minus_c (p0:Ax):ConB (Lc p0) Tryz.prog 75 (fun K vs=>∃ (A0_0:Option Addr) (c0_0:Nat) (A0_1:Option Addr) (c0_1:Nat),vs=[.agg #[.bool (p0.N.Neg),.slice (A0_0) ((p0.N.L).length) (c0_0),.slice (A0_1) ((p0.D).length) (c0_1)]]/\Has K A0_0 (p0.N.L).length c0_0 1 Ar (p0.N.L)/\Has K A0_1 (p0.D).length c0_1 1 Ar (p0.D)/\True) (fun K r=>fun v Ln=>∃ (A0:Option Addr) (c0:Nat) (A2:Option Addr) (c2:Nat) (e:Ent),v = .agg #[.bool (r.N.Neg),.slice (A0) ((r.N.L).length) (c0),.slice (A2) ((r.D).length) (c2)]/\Ln=[e]/\Has (K++[e]) A0 (r.N.L).length c0 1 Ar (r.N.L)/\Has (K++[e]) A2 (r.D).length c2 1 Ar (r.D)/\True):=⟨by
 rintro K _ r ⟨A0_0,c0_0,A0_1,c0_1,rfl,ha0,ha1,-⟩ hx w hK;unfold Lc at hx;have:=dl 1 [0,1,2,0,1,0,3] [0,1,3,4,2,5,6];refine CtS Tryz.ntmps75 Tryz.results75 ?_;exact au⟩

set_option maxRecDepth 100000 in
instance lidarref01_Q_Sub_c (p0:Ax) (p1:Ax):Con (Nl p0 p1) Tryz.prog 22 (fun K vs=>∃ (A0_0:Option Addr) (c0_0:Nat) (A0_1:Option Addr) (c0_1:Nat) (A0_2:Option Addr) (c0_2:Nat) (A0_3:Option Addr) (c0_3:Nat),vs=[.agg #[.bool (p0.N.Neg),.slice (A0_0) ((p0.N.L).length) (c0_0),.slice (A0_1) ((p0.D).length) (c0_1)],.agg #[.bool (p1.N.Neg),.slice (A0_2) ((p1.N.L).length) (c0_2),.slice (A0_3) ((p1.D).length) (c0_3)]]/\Has K A0_0 (p0.N.L).length c0_0 1 Ar (p0.N.L)/\Has K A0_1 (p0.D).length c0_1 1 Ar (p0.D)/\Has K A0_2 (p1.N.L).length c0_2 1 Ar (p1.N.L)/\Has K A0_3 (p1.D).length c0_3 1 Ar (p1.D)/\True) (fun _ r=>fun v Ln=>∃ (A0:Option Addr) (c0:Nat) (A2:Option Addr) (c2:Nat),v = .agg #[.bool (r.N.Neg),.slice (A0) ((r.N.L).length) (c0),.slice (A2) ((r.D).length) (c2)]/\Ln=[.r A0 (r.N.L).length c0 3 1 ((r.N.L).flatMap Ar),.r A2 (r.D).length c2 3 1 ((r.D).flatMap Ar)]/\True):=⟨by
 rintro K _ r ⟨A0_0,c0_0,A0_1,c0_1,A0_2,c0_2,A0_3,c0_3,rfl,ha0,ha1,ha2,ha3,-⟩ hx w hK;replace ha0:=Has.lo ha0 hK;replace ha1:=Has.lo ha1 hK;replace ha2:=Has.lo ha2 hK;replace ha3:=Has.lo ha3 hK;unfold Nl at hx;have:=dl 1 [1,1,2,2,3] [0,1,2,3,4];refine CtS Tryz.ntmps22 Tryz.results22 ?_;exact au⟩
set_option maxRecDepth 100000 in
instance lidarref01_Q_Cmp_c (p0:Ax) (p1:Ax):Con (Kq p0 p1) Tryz.prog 70 (fun K vs=>∃ (A0_0:Option Addr) (c0_0:Nat) (A0_1:Option Addr) (c0_1:Nat) (A0_2:Option Addr) (c0_2:Nat) (A0_3:Option Addr) (c0_3:Nat),vs=[.agg #[.bool (p0.N.Neg),.slice (A0_0) ((p0.N.L).length) (c0_0),.slice (A0_1) ((p0.D).length) (c0_1)],.agg #[.bool (p1.N.Neg),.slice (A0_2) ((p1.N.L).length) (c0_2),.slice (A0_3) ((p1.D).length) (c0_3)]]/\Has K A0_0 (p0.N.L).length c0_0 1 Ar (p0.N.L)/\Has K A0_1 (p0.D).length c0_1 1 Ar (p0.D)/\Has K A0_2 (p1.N.L).length c0_2 1 Ar (p1.N.L)/\Has K A0_3 (p1.D).length c0_3 1 Ar (p1.D)/\True) (fun _ r=>fun v Ln=>v = .int .i64 (r)/\Ln=[]/\True):=⟨by
 rintro K _ r ⟨A0_0,c0_0,A0_1,c0_1,A0_2,c0_2,A0_3,c0_3,rfl,ha0,ha1,ha2,ha3,-⟩ hx w hK;replace ha0:=Has.lo ha0 hK;replace ha1:=Has.lo ha1 hK;replace ha2:=Has.lo ha2 hK;replace ha3:=Has.lo ha3 hK;unfold Kq at hx;refine CtS Tryz.ntmps70 Tryz.results70 ?_;exact au⟩
set_option maxRecDepth 100000 in
theorem Nu (p0:List Int) {K:List Ent} {A0_0:Option Addr} {c0_0:Nat} (ha0:Has K A0_0 p0.length c0_0 1 Bi (p0)) {r:(List Int) × Bool} (hx:Gl p0=some r) (w:World) (hK:∀ e∈K,Ent.ok w e):CtL Tryz.prog 127 [.slice (A0_0) (p0.length) (c0_0)] w fun v Ln=>∃ (A0:Option Addr) (c0:Nat),v = .tuple #[.slice (A0) (r.1.length) (c0),.bool (r.2)]/\Ln=[]/\Has (K++[]) A0 r.1.length c0 1 Ar (r.1)/\True:=by
 have ha0':=Has.up0 ha0;refine CtL.mk 45 Tryz.func127 rfl Tryz.ntmps127 (by kernel_rfl) rfl ?_;show T 45 _ [(0,.slice (A0_0) (p0.length) (c0_0))] _;unfold Gl at hx;refine Y9 ?_;refine Aw (Fc rfl 245 Tryz.underlying43) rfl ?_;refine Y3 ?_;refine Tj (γ:=Unit) hx (fun s3 y3=>[(0,.slice (A0_0) (p0.length) (c0_0)),(4,.int .i64 (((p0.length:Nat):Int)))]) (fun s3 y3=>[]++[.old w]) (fun s3 y3=>True) (fun s3 y3 hx0 hG0=>?_) (fun j3 hx=>?_)
 ·refine Y7 ?_;refine Ti hx0 (s:=22) rfl (fun h0 hx1=>?_) (fun h0 hx2=>?_)
  ·refine Y9 ?_;obtain rfl:=Option.some.inj hx1;exact Gp (rs:=[.tmp 2,.tmp 3]) Tryz.results127 (.tmp rfl (.tmp rfl (.nil))) (Ln:=[]) ⟨none,0,rfl,rfl,Has.nil,trivial⟩ (Gc) (by exact .refl)
  ·refine Y8 ?_;refine Tj (γ:=Unit) hx2 (fun s0 y0=>[(5,.slice (none) (0) (0))]) (fun s0 y0=>[]++[.old w]) (fun s0 y0=>True) (fun s0 y0 hx3 hG1=>?_) (fun j0 hx2=>?_)
   ·refine Y3 ?_;obtain ⟨r0,h1,hx4⟩:=Aj hx3;refine T_x (Ex rfl (fun w1 hw1=>Ir ([]:List Int) (Has.nil (K:=([]:List Ent))) h1 w1 (Ad1 (K:=([]:List Ent)) (by exact (SubE.nil)) hw1)) rfl ?_);rintro _ _ hlo ⟨rfl,rfl,hs0,-⟩;refine Pg ?_;refine Y5 ?_;obtain rfl:=Option.some.inj hx4;exact Gp (rs:=[.tmp 2,.tmp 3]) Tryz.results127 (.tmp rfl (.tmp rfl (.nil))) (Ln:=[]) ⟨none,0,rfl,rfl,Has.len' (Has.up (L:=(K++[])) hs0 (SubE.appR2 (SubE.nil))),trivial⟩ (Gc) (by exact .refl)
   ·refine Y6 ?_;obtain ⟨t0,hl0,ho0⟩:=Aj hx2;refine Lp (σ:=Unit) (γ:=Unit) hl0 (fun s1 y1=>[(0,.slice (A0_0) (p0.length) (c0_0)),(4,.int .i64 (((p0.length:Nat):Int))),(5,.slice (none) (0) (0)),(6,.int .i64 (0))]) (fun s1 y1=>[]++[.old w]) (fun s1 y1=>True) () trivial (by exact .refl) ?_;intro s1 y1 hG2 x0 hx5 ht0;unfold Nt at hx5;refine Y8 ?_;refine Ti hx5 (s:=25) rfl (fun h2 hx6=>?_) (fun h2 hx7=>?_)
    ·refine Y5 ?_;refine T_dr [0,0,0,0,1,0,0,0,0,0,1,0,0,2,3,2] (.q 0 (.q 1 (.q 2 (.q 3 (.q 4 (.q 5 (.q 6 (.q 7 (.q 8 (.q 9 (.q 10 (.q 11 (.q 12 (.e 13 (.e 14 (.e 15 (.done) (.stop)) (.stop)) (.stop))))))))))))))) mixed (by kernel_rfl) (by kernel_rfl) ?_;exact So hx6
    ·refine Y3 ?_;obtain rfl:=Fk ht0 hx7;refine Y2 ?_;exact Mt () () ho0 trivial (by exact .refl)
 ·refine Y ?_;obtain ⟨t1,hl1,ho1⟩:=Aj hx;refine Lp (σ:=Unit) (γ:=Unit) hl1 (fun s2 y2=>[(0,.slice (A0_0) (p0.length) (c0_0)),(4,.int .i64 (((p0.length:Nat):Int)))]) (fun s2 y2=>[]++[.old w]) (fun s2 y2=>True) () trivial (by exact .refl) ?_;intro s2 y2 hG3 x1 hx8 ht1;unfold Ns at hx8;refine Y ?_;refine Tj (γ:=Unit) hx8 (fun s7 y7=>[(0,.slice (A0_0) (p0.length) (c0_0)),(4,.int .i64 (((p0.length:Nat):Int))),(18,.bool (s7))]) (fun s7 y7=>[]++[.old w]) (fun s7 y7=>True) (fun s7 y7 hx9 hG4=>?_) (fun j7 hx8=>?_)
  ·refine Ha (s:=18) rfl (fun h3=>?_) (fun h3=>?_)
   ·have hx39:=Hd h3 hx9;refine Y5 ?_;exact So hx39
   ·have hx40:=Kf h3 hx9;refine Y3 ?_;obtain rfl:=Fk ht1 hx40;refine Y2 ?_;exact Mt () () ho1 trivial (by exact .refl)
  ·refine Y4 ?_;refine Ti hx8 (s:=11) rfl (fun h4 hx23=>?_) (fun h4 hx35=>?_)
   ·refine Y3 ?_;obtain ⟨x2,h5,hx26⟩:=Aj hx23;have hw0:=Has.low (E:=[]) ha0' hK;obtain ⟨b0,o0,j1,hA0,hj0,hl2,hp0⟩:=Has.at_idx hw0 h5;refine Qt rfl rfl rfl (Bo rfl rfl hA0 (j:=j1) hj0 hl2 Atm) rfl ?_;refine Qt rfl rfl rfl (Dj rfl hp0 (sb 0) rfl Anl) rfl ?_;refine Y3 ?_;exact Mt (decide (x2=0)) () hx26 trivial (by exact .refl)
   ·refine Y8 ?_;exact Mt false () hx35 trivial (by exact .refl)
set_option maxHeartbeats 1000000 in
set_option maxRecDepth 100000 in
instance lidarref01_limbs_c (p0:List Int):ConB (Gl p0) Tryz.prog 127 (fun K vs=>∃ (A0_0:Option Addr) (c0_0:Nat),vs=[.slice (A0_0) ((p0).length) (c0_0)]/\Has K A0_0 (p0).length c0_0 1 Bi (p0)/\True) (fun K r=>fun v Ln=>∃ (A0:Option Addr) (c0:Nat) (e:Ent),v = .tuple #[.slice (A0) ((r.1).length) (c0),.bool (r.2)]/\Ln=[e]/\Has (K++[e]) A0 (r.1).length c0 1 Ar (r.1)/\True):=⟨by
 rintro K _ r ⟨A0_0,c0_0,rfl,ha0,-⟩ hx w hK;exact CtL.bunB (Nu p0 ha0 hx w hK) (by
  rintro _ _ w1 hw ⟨_,_,rfl,rfl,_,-⟩
  exact ⟨_,_,_,rfl,rfl,hZ hw,trivial⟩)⟩
set_option maxRecDepth 100000 in
theorem Aam (p0:Bt) {K:List Ent} {A0_0:Option Addr} {c0_0:Nat} {A0_1:Option Addr} {c0_1:Nat} (ha0:Has K A0_0 p0.Num.length c0_0 1 Bi (p0.Num)) (ha1:Has K A0_1 p0.Den.length c0_1 1 Bi (p0.Den)) {r:Ax × Bool} (hx:Mh p0=some r) (w:World) (hK:∀ e∈K,Ent.ok w e):CtL Tryz.prog 69 [.agg #[.bool (p0.Neg),.slice (A0_0) (p0.Num.length) (c0_0),.slice (A0_1) (p0.Den.length) (c0_1)]] w fun v Ln=>∃ (A0:Option Addr) (c0:Nat) (A2:Option Addr) (c2:Nat),v = .tuple #[.agg #[.bool (r.1.N.Neg),.slice (A0) (r.1.N.L.length) (c0),.slice (A2) (r.1.D.length) (c2)],.bool (r.2)]/\Ln=[.r A0 r.1.N.L.length c0 3 1 (r.1.N.L.flatMap Ar),.r A2 r.1.D.length c2 3 1 (r.1.D.flatMap Ar)]/\True:=by
 have ha0':=Has.up0 ha0;have ha1':=Has.up0 ha1;refine CtL.mk 43 Tryz.func69 rfl Tryz.ntmps69 (by kernel_rfl) rfl ?_;show T 43 _ [(0,.agg #[.bool (p0.Neg),.slice (A0_0) (p0.Num.length) (c0_0),.slice (A0_1) (p0.Den.length) (c0_1)])] _;unfold Mh at hx;refine Y2 ?_;refine T_x (Py rfl rfl rfl (fun g1=>?_));refine T_x (Is Aom rfl (fun g2=>?_));refine Y5 ?_;refine Aw (Fh rfl Akk rfl) rfl ?_;refine Aw (Bl rfl (i:=1) rfl rfl Aon) rfl ?_;obtain ⟨r3,h4,hx5⟩:=Aj hx;refine T_x (Ex rfl (fun w1 hw1=>Nu p0.Num (Has.len' ha0') h4 w1 (Sp (K:=K) (K2:=[]) hK (by exact (sb 2)) (by exact (SubE.nil)) hw1)) rfl ?_);rintro _ _ hlo ⟨A6,c7,rfl,rfl,hs8,-⟩;refine Pg ?_;have hs9:Has (K++[]) _ _ _ _ _ _:=Has.assoc hs8;refine Y9 ?_;refine Aw (Fh rfl Akl rfl) rfl ?_;refine Aw (Bl rfl (i:=1) rfl rfl Aon) rfl ?_;obtain ⟨r0,h0,hx0⟩:=Aj hx5;refine T_x (Ex rfl (fun w1 hw1=>Nu p0.Den (Has.len' ha1') h0 w1 (Sp (K:=K) (K2:=[]) hK (by exact (sb 2)) (by exact (SubE.nil)) hw1)) rfl ?_);rintro _ _ hlo ⟨A1,c1,rfl,rfl,hs0,-⟩;refine Pg ?_;have hs1:Has (K++[]) _ _ _ _ _ _:=Has.assoc hs0;refine Y8 ?_;refine Tj (γ:=Unit) hx0 (fun s5 y5=>[(1,.pointer (some ⟨g1,0,none⟩)),(2,.pointer (some ⟨g2,0,none⟩)),(4,.slice (A6) (r3.1.length) (c7)),(6,.slice (A1) (r0.1.length) (c1)),(25,.bool (s5))]) (fun s5 y5=>[.m g2 52 [.bool (false),.slice (none) (0) (0),.slice (none) (0) (0)],.m g1 45 [.bool (p0.Neg),.slice (A0_0) (p0.Num.length) (c0_0),.slice (A0_1) (p0.Den.length) (c0_1)]]++[.old w]) (fun s5 y5=>True) (fun s5 y5 hx1 hG0=>?_) (fun j5 hx0=>?_)
 ·refine Ha (s:=25) rfl (fun h1=>?_) (fun h1=>?_)
  ·have hx2:=Hd h1 hx1;refine Y3 ?_;refine Aw (Dy rfl (Aoo)) rfl ?_;refine T_h (Gb rfl rfl rfl (.here) (.put (.put (.put (.done)))) rfl (List.cons_ne_nil _ _) Zg.2 ?_);refine Y5 ?_;refine Az 3 1 ?_;refine Az 3 1 ?_;obtain rfl:=Option.some.inj hx2;exact Gp (rs:=[.cell 2 52,.tmp 3]) Tryz.results69 (.cell rfl (i:=2) rfl rfl Zg (.tmp rfl (.nil))) (Ln:=[.r (none) (0) (0) 3 1 ((([]:List Int)).flatMap Ar),.r (none) (0) (0) 3 1 ((([]:List Int)).flatMap Ar)]) ⟨none,0,none,0,rfl,rfl,trivial⟩ (By rfl (By rfl (Gc))) (by exact .pick 1 rfl (.pick 0 rfl (.drop 0 rfl (.drop 0 rfl (.refl)))))
  ·have hx3:=Kf h1 hx1;refine Y3 ?_;obtain ⟨j7,hj7,hx3⟩:=Zy hx3;refine Wc (τ:=List Int) (γ:=(Option Addr) × Nat × Ent) (J:=j7) (out:=r) (fun s7 y7=>[(1,.pointer (some ⟨g1,0,none⟩)),(2,.pointer (some ⟨g2,0,none⟩)),(4,.slice (A6) (r3.1.length) (c7)),(6,.slice (y7.1) (s7.length) (y7.2.1))]) (fun s7 y7=>[y7.2.2,.m g2 52 [.bool (false),.slice (none) (0) (0),.slice (none) (0) (0)],.m g1 45 [.bool (p0.Neg),.slice (A0_0) (p0.Num.length) (c0_0),.slice (A0_1) (p0.Den.length) (c0_1)]]++[.old w]) (fun s7 y7=>y7.2.2.low=0/\Has (K++[y7.2.2]) (y7.1) (s7.length) (y7.2.1) 1 Ar (s7)/\True) ?_ ?_
   ·intro s7 y7 hx4 hG1;obtain ⟨lo31,hs2,-⟩:=hG1;subst hj7;refine Tj (γ:=(Option Addr) × Nat × (Option Addr) × Nat) hx4 (fun s9 y9=>[(2,.pointer (some ⟨g2,0,none⟩)),(3,.bool (true))]) (fun s9 y9=>[.r (y9.1) (s9.2.1.length) (y9.2.1) 3 1 (s9.2.1.flatMap Ar),.r (y9.2.2.1) (s9.2.2.length) (y9.2.2.2) 3 1 (s9.2.2.flatMap Ar),.m g2 52 [.bool (s9.1),.slice (y9.1) (s9.2.1.length) (y9.2.1),.slice (y9.2.2.1) (s9.2.2.length) (y9.2.2.2)]]++[.old w]) (fun s9 y9=>True) (fun s9 y9 hx6 hG2=>?_) (fun j9 hx4=>?_)
    ·refine Y ?_;obtain rfl:=Option.some.inj hx6;exact Gp (rs:=[.cell 2 52,.tmp 3]) Tryz.results69 (.cell rfl (i:=2) rfl rfl Zg (.tmp rfl (.nil))) (Ln:=[.r (y9.1) (s9.2.1.length) (y9.2.1) 3 1 (s9.2.1.flatMap Ar),.r (y9.2.2.1) (s9.2.2.length) (y9.2.2.2) 3 1 (s9.2.2.flatMap Ar)]) ⟨y9.1,y9.2.1,y9.2.2.1,y9.2.2.2,rfl,rfl,trivial⟩ (By rfl (By rfl (Gc))) (by exact .pick 0 rfl (.pick 0 rfl (.drop 0 rfl (.refl))))
    ·refine Y ?_;refine Aw (Fh rfl Akm rfl) rfl ?_;refine Aw (Bl rfl (i:=2) rfl rfl one4) rfl ?_;refine Y ?_;refine Ha (s:=33) rfl (fun h2=>?_) (fun h2=>?_)
     ·have hx7:=Hd h2 hx4;refine Y ?_;refine Qt rfl rfl rfl (Fc rfl 3 Tryz.underlying48) rfl ?_;refine Y3 ?_;refine Aw (Dy rfl (Oi _ _ _ _)) rfl ?_;refine Y ?_;refine Aw (Dy rfl (Oi _ _ _ _)) rfl ?_;obtain ⟨r1,h3,hx8⟩:=Aj hx7;refine T_x (Ex rfl (fun w1 hw1=>Ok (⟨decide (0 < (((r3.1.length:Nat):Int))),r3.1⟩:Al) (⟨false,s7⟩:Al) (Has.len' (Has.up (L:=(K++[y7.2.2])) hs9 (SubE.app2 SubE.nil))) (Has.len' hs2) h3 w1 (Sp (K:=K) (K2:=[y7.2.2]) hK (by exact (sb 3)) (by exact (sb 0)) hw1)) rfl ?_);rintro _ _ hlo ⟨A3,c3,A4,c4,rfl,rfl,-⟩;refine Qa ?_;refine T_h (Gb rfl rfl rfl (.there (.there (.there (.here)))) (.put (.put (.put (.done)))) rfl (List.cons_ne_nil _ _) Zg.2 ?_);refine Y2 ?_;exact Mt (r1.N.Neg,r1.N.L,r1.D) (A3,c3,A4,c4) hx8 trivial (by exact .pick 0 rfl (.pick 0 rfl (.pick 1 rfl (.drop 0 rfl (.drop 0 rfl (.refl))))))
     ·have hx9:=Kf h2 hx4;refine Y5 ?_;refine Aw (Dy rfl (Oi _ _ _ _)) rfl ?_;refine Y ?_;refine Aw (Dy rfl (Oi _ _ _ _)) rfl ?_;obtain ⟨r2,h5,hx45⟩:=Aj hx9;refine T_x (Ex rfl (fun w1 hw1=>Ok (⟨false,r3.1⟩:Al) (⟨false,s7⟩:Al) (Has.len' (Has.up (L:=(K++[y7.2.2])) hs9 (SubE.app2 SubE.nil))) (Has.len' hs2) h5 w1 (Sp (K:=K) (K2:=[y7.2.2]) hK (by exact (sb 3)) (by exact (sb 0)) hw1)) rfl ?_);rintro _ _ hlo ⟨A5,c5,A7,c6,rfl,rfl,-⟩;refine Qa ?_;refine T_h (Gb rfl rfl rfl (.there (.there (.there (.here)))) (.put (.put (.put (.done)))) rfl (List.cons_ne_nil _ _) Zg.2 ?_);refine Y2 ?_;exact Mt (r2.N.Neg,r2.N.L,r2.D) (A5,c5,A7,c6) hx45 trivial (by exact .pick 0 rfl (.pick 0 rfl (.pick 1 rfl (.drop 0 rfl (.drop 0 rfl (.refl))))))
   ·skip;refine Y3 ?_;refine Aw (Fc rfl 3 Tryz.underlying48) rfl ?_;refine Y3 ?_;refine Ti hx3 (s:=29) rfl (fun h6 hx26=>?_) (fun h6 hx28=>?_)
    ·refine Y2 ?_;refine T_x (Dn rfl (Ri _) rfl (fun g0=>?_));refine Y2 ?_;refine T_mr (enc:=Ar) (sz:=1) ([1]) (.here) rfl rfl (fun _=>rfl) (by show 1<=maxLen;decide) ?_;refine Aax (k:=0) rfl (by decide) (fun _=>rfl) (fun hn0 hs3=>?_);refine Qv (s:=6) (v':=.slice (some ⟨g0,0,none⟩) (([1]).length) (1)) rfl (by have hn1:(1)=([1]).length:=(Has.len hs3).symm;first | (rw [<- hn1];done) | rfl) ?_;exact Mt ([1]) (some ⟨g0,0,none⟩,1,.r (some ⟨g0,0,none⟩) (1) (1) 3 1 (([1]).flatMap Ar)) hx26 ((by exact ⟨rfl,Has.len' ((Has.up (L:=(K++[.r (some ⟨g0,0,none⟩) (1) (1) 3 1 (([1]).flatMap Ar)])) hs3 (SubE.appR2 (sb 0)))),trivial⟩)) (by exact .pick 0 rfl (.pick 0 rfl (.pick 0 rfl (.refl))))
    ·refine Y2 ?_;refine Az 0 1 ?_;exact Mt r0.1 (A1,c1,.r none 0 0 0 1 []) hx28 ((by exact ⟨rfl,Has.len' ((Has.up (L:=(K++[.r none 0 0 0 1 []])) hs1 (SubE.app2 SubE.nil))),trivial⟩)) (by exact .pick 0 rfl (.pick 0 rfl (.pick 0 rfl (.refl))))
 ·refine Y4 ?_;refine Wg (s:=22) rfl (fun h7=>?_) (fun h7=>?_)
  ·have hx18:=Kf h7 hx0;refine Y4 ?_;exact Mt true () hx18 trivial (by exact .pick 0 rfl (.pick 0 rfl (.refl)))
  ·have hx19:=Hd h7 hx0;refine Y4 ?_;exact Mt (!(r0.2)) () hx19 trivial (by exact .pick 0 rfl (.pick 0 rfl (.refl)))
set_option maxHeartbeats 1000000 in
set_option maxRecDepth 100000 in
instance lidarref01_Of_c (p0:Bt):Con (Mh p0) Tryz.prog 69 (fun K vs=>∃ (A0_0:Option Addr) (c0_0:Nat) (A0_1:Option Addr) (c0_1:Nat),vs=[.agg #[.bool (p0.Neg),.slice (A0_0) ((p0.Num).length) (c0_0),.slice (A0_1) ((p0.Den).length) (c0_1)]]/\Has K A0_0 (p0.Num).length c0_0 1 Bi (p0.Num)/\Has K A0_1 (p0.Den).length c0_1 1 Bi (p0.Den)/\True) (fun _ r=>fun v Ln=>∃ (A0:Option Addr) (c0:Nat) (A2:Option Addr) (c2:Nat),v = .tuple #[.agg #[.bool (r.1.N.Neg),.slice (A0) ((r.1.N.L).length) (c0),.slice (A2) ((r.1.D).length) (c2)],.bool (r.2)]/\Ln=[.r A0 (r.1.N.L).length c0 3 1 ((r.1.N.L).flatMap Ar),.r A2 (r.1.D).length c2 3 1 ((r.1.D).flatMap Ar)]/\True):=⟨by
 rintro K _ r ⟨A0_0,c0_0,A0_1,c0_1,rfl,ha0,ha1,-⟩ hx w hK;exact Aam p0 ha0 ha1 hx w hK⟩
end Go.Proofs.YtoojmkhjdjianaaGreat
