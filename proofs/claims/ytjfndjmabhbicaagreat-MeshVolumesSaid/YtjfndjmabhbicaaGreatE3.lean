/- Walks of the program, with their plain functions: the reference's mesh. -/
import Derived.Test.YtjfndjmabhbicaaGreatE2
namespace Go.Proofs.YtjfndjmabhbicaaGreat
open Go Go.RowKit
theorem Bbv:Md Tryz.prog 94 [.int .i64 (0),.int .i64 (0),.int .i64 (0)]:=⟨_,Tryz.zeroValue94,rfl⟩
instance:Tg Tryz.prog 94 [.int .i64 (0),.int .i64 (0),.int .i64 (0)]:=⟨Bbv⟩
theorem Wo (x0:Int) (x1:Int) (x2:Int) (x3:Int):De Tryz.prog 22 1 [(0,.agg #[.int .i64 x0,.int .i64 x1,.int .i64 x2,.int .i64 x3])] 70 [.int .i64 x0,.int .i64 x1,.int .i64 x2,.int .i64 x3]:=fun w=>by kernel_rfl
instance (x0:Int) (x1:Int) (x2:Int) (x3:Int):Of Tryz.prog 22 1 [(0,.agg #[.int .i64 x0,.int .i64 x1,.int .i64 x2,.int .i64 x3])] 70 [.int .i64 x0,.int .i64 x1,.int .i64 x2,.int .i64 x3]:=⟨Wo _ _ _ _⟩
noncomputable def Ho (p0:Ae) (p1:Ae):Int->Option (Sum Int (Sum Unit Bool)):=fun s0=>
 if s0 < 3 then (bnd (idx [p0.a0,p0.a1,p0.a2] s0) fun x0=>
 bnd (idx [p1.a0,p1.a1,p1.a2] s0) fun x1=>
 if x0=x1 then (some (.inl (w64 (s0+1))))
 else (bnd (idx [p0.a0,p0.a1,p0.a2] s0) fun x2=>
 bnd (idx [p1.a0,p1.a1,p1.a2] s0) fun x3=>
 some (.inr (.inr (decide (x2 < x3))))))
 else (some (.inr (.inl ())))
noncomputable def Nm (p0:Ae) (p1:Ae):Option Bool :=
 jn (fun (s2:Unit)=>
 some false)
 (fun j2=>bnd (lfix (Ho p0 p1) 0) fun t0=>
 (match t0 with
 | (.inl z0)=>j2 z0
 | (.inr (z0))=>some z0
 ))
noncomputable def Hz  : ((List Ae) × Int)->Option (Sum ((List Ae) × Int) (List Ae)):=fun s0=>
 jn (fun (s1:Bool)=>
 if s1=true then (bnd (idx s0.1 (w64 (s0.2-1))) fun x0=>
 bnd (idx s0.1 s0.2) fun x1=>
 bnd (idx s0.1 s0.2) fun x2=>
 bnd (idx (setI s0.1 s0.2 x0) (w64 (s0.2-1))) fun x3=>
 some (.inl (setI (setI s0.1 s0.2 x0) (w64 (s0.2-1)) x1,w64 (s0.2-1))))
 else (some (.inr s0.1)))
 (fun j0=>if 0 < s0.2 then (bnd (idx s0.1 s0.2) fun x4=>
 bnd (idx s0.1 (w64 (s0.2-1))) fun x5=>
 bnd (Nm x4 x5) fun r0=>
 j0 r0)
 else (j0 false))
noncomputable def Ia (p0:List Ae):((List Ae) × Int)->Option (Sum ((List Ae) × Int) (List Ae)):=fun s0=>
 if s0.2 < ((((p0).length:Nat):Int)) then (jn (fun (s1:List Ae)=>
 some (.inl (s1,w64 (s0.2+1))))
 (fun j0=>bnd (lfix (Hz) (s0.1,s0.2)) fun t0=>
 j0 t0))
 else (some (.inr s0.1))
noncomputable def Lg (p0:List Ae):Option (List Ae) :=
 jn (fun (s2:List Ae)=>
 some s2)
 (fun j2=>bnd (lfix (Ia p0) (p0,0)) fun t0=>
 j2 t0)
noncomputable def Fq  : (Int × Int × Int)->Option (Sum (Int × Int × Int) (Int × Int × Int)):=fun s0=>
 jn (fun (s6:Bool)=>
 if s6=true then (some (.inl (s0.2.1,s0.2.2,s0.1)))
 else (some (.inr (s0.1,s0.2.1,s0.2.2))))
 (fun j6=>if s0.2.1 < s0.1 then (j6 true)
 else (j6 (decide (s0.2.2 < s0.1))))
noncomputable def Lh (p0:Ae):Option Ae :=
 jn (fun (s2:Int × Int × Int)=>
 some (⟨s2.1,s2.2.1,s2.2.2⟩:Ae))
 (fun j2=>bnd (lfix (Fq) (p0.a0,p0.a1,p0.a2)) fun t0=>
 j2 t0)
noncomputable def Nn (p0:Aa) (p1:Aa):Option Bool :=
 jn (fun (s2:Bool)=>
 some s2)
 (fun j2=>if p0.a0 < p1.a0 then (j2 true)
 else (if p0.a0=p1.a0 then (j2 (decide (p0.a1 < p1.a1)))
 else (j2 false)))
noncomputable def Kj (p0:List Aa):((List Aa) × Int)->Option (Sum ((List Aa) × Int) (List Aa)):=fun s0=>
 if s0.2 < ((((p0).length:Nat):Int)) then (bnd (idx p0 s0.2) fun x0=>
 bnd (idx p0 s0.2) fun x1=>
 bnd (idx p0 s0.2) fun x2=>
 bnd (idx p0 s0.2) fun x3=>
 gd (((s0.1).length+1)*16<=140737488355328) <|
 some (.inl (s0.1++[(⟨min x0.a0 x1.a1,max x2.a0 x3.a1⟩:Aa)],w64 (s0.2+1))))
 else (some (.inr s0.1))
noncomputable def Gh  : ((List Aa) × Int)->Option (Sum ((List Aa) × Int) (List Aa)):=fun s0=>
 jn (fun (s1:Bool)=>
 if s1=true then (bnd (idx s0.1 (w64 (s0.2-1))) fun x0=>
 bnd (idx s0.1 s0.2) fun x1=>
 bnd (idx s0.1 s0.2) fun x2=>
 bnd (idx (setI s0.1 s0.2 x0) (w64 (s0.2-1))) fun x3=>
 some (.inl (setI (setI s0.1 s0.2 x0) (w64 (s0.2-1)) x1,w64 (s0.2-1))))
 else (some (.inr s0.1)))
 (fun j0=>if 0 < s0.2 then (bnd (idx s0.1 s0.2) fun x4=>
 bnd (idx s0.1 (w64 (s0.2-1))) fun x5=>
 bnd (Nn x4 x5) fun r0=>
 j0 r0)
 else (j0 false))
noncomputable def Ha (s3:List Aa):((List Aa) × Int)->Option (Sum ((List Aa) × Int) (List Aa)):=fun s0=>
 if s0.2 < ((((s3).length:Nat):Int)) then (jn (fun (s1:List Aa)=>
 some (.inl (s1,w64 (s0.2+1))))
 (fun j0=>bnd (lfix (Gh) (s0.1,s0.2)) fun t0=>
 j0 t0))
 else (some (.inr s0.1))
noncomputable def Kg (p0:List Aa):Option (List Aa) :=
 jn (fun (s3:List Aa)=>
 jn (fun (s0:List Aa)=>
 some s0)
 (fun j0=>bnd (lfix (Ha s3) (s3,0)) fun t0=>
 j0 t0))
 (fun j3=>bnd (lfix (Kj p0) (([]:List Aa),0)) fun t1=>
 j3 t1)
noncomputable def Cq (r0:Ae) (s0:(List Aa) × (List (Aa × Bool)) × (List Ae)):((List Aa) × (List (Aa × Bool)) × Int)->Option (Sum ((List Aa) × (List (Aa × Bool)) × Int) ((List Aa) × (List (Aa × Bool)) × (List Ae))):=fun s1=>
 if s1.2.2 < 3 then (bnd (idx [r0.a0,r0.a1,r0.a2] s1.2.2) fun x0=>
 bnd (idx [r0.a0,r0.a1,r0.a2] (Int.tmod (w64 (s1.2.2+1)) 3)) fun x1=>
 gd ((-9223372036854775808<=x0/\x0<=9223372036854775807)/\(-9223372036854775808<=x1/\x1<=9223372036854775807)) <|
 gd ((s1.2.1).length < 9223372036854775807) <|
 gd (((s1.1).length+1)*16<=140737488355328) <|
 some (.inl (s1.1++[(⟨x1,x0⟩:Aa)],mput s1.2.1 ((⟨x0,x1⟩:Aa)) true,w64 (s1.2.2+1))))
 else (some (.inr (s1.1,s1.2.1,s0.2.2++[r0])))
noncomputable def Fs (p0:List Ab) (p1:List Aa):((List Aa) × (List (Aa × Bool)) × (List Ae))->Option (Sum ((List Aa) × (List (Aa × Bool)) × (List Ae)) (List Ae)):=fun s0=>
 if 0 < ((((s0.1).length:Nat):Int)) then (bnd (idx s0.1 (w64 (((((s0.1).length:Nat):Int))-1))) fun x0=>
 gd (0<=(w64 (((((s0.1).length:Nat):Int))-1))/\(w64 (((((s0.1).length:Nat):Int))-1))<=(((s0.1).length:Nat):Int)) <|
 gd ((-9223372036854775808<=x0.a0/\x0.a0<=9223372036854775807)/\(-9223372036854775808<=x0.a1/\x0.a1<=9223372036854775807)) <|
 bnd (some ((mget s0.2.1 x0).getD false)) fun x1=>
 if x1=true then (some (.inl (List.take (Int.toNat (w64 (((((s0.1).length:Nat):Int))-1))) s0.1,s0.2.1,s0.2.2)))
 else (bnd (Nl p0 p1 x0.a0 x0.a1) fun r0=>
 if r0 < 0 then (gd ((-9223372036854775808<=x0.a0/\x0.a0<=9223372036854775807)/\(-9223372036854775808<=x0.a1/\x0.a1<=9223372036854775807)) <|
 gd ((s0.2.1).length < 9223372036854775807) <|
 some (.inl (List.take (Int.toNat (w64 (((((s0.1).length:Nat):Int))-1))) s0.1,mput s0.2.1 x0 true,s0.2.2)))
 else (bnd (Lh (⟨x0.a0,x0.a1,r0⟩:Ae)) fun r1=>
 gd (((s0.2.2).length+1)*24<=140737488355328) <|
 bnd (lfix (Cq r1 s0) (List.take (Int.toNat (w64 (((((s0.1).length:Nat):Int))-1))) s0.1,s0.2.1,0)) fun t0=>
 some (.inl t0))))
 else (some (.inr s0.2.2))
noncomputable def Cm (p0:List Ab) (p1:List Aa):Option (List Ae) :=
 jn (fun (s3:Bool)=>
 if s3=true then (some ([]:List Ae))
 else (bnd (Ly p0) fun r0=>
 bnd (Ng p0 r0 false) fun r1=>
 jn (fun (s9:List Ae)=>
 bnd (Lg s9) fun r2=>
 some r2)
 (fun j9=>bnd (lfix (Fs p0 p1) ([(⟨r0,r1⟩:Aa)],([]:List (Aa × Bool)),([]:List Ae))) fun t0=>
 j9 t0)))
 (fun j3=>if ((((p0).length:Nat):Int)) < 3 then (j3 true)
 else (bnd (Nh p0) fun r4=>
 j3 r4))
noncomputable def Iw (p0:List Ab):((List Ab) × Int)->Option (Sum ((List Ab) × Int) (List Ab)):=fun s0=>
 if s0.2 < ((((p0).length:Nat):Int)) then (bnd (idx p0 s0.2) fun x0=>
 gd (((s0.1).length+1)*32<=140737488355328) <|
 some (.inl (s0.1++[(⟨x0.X,x0.Y,(⟨x0.Z.Lo,x0.Z.Hi⟩:Al)⟩:Ab)],w64 (s0.2+1))))
 else (some (.inr s0.1))
noncomputable def Cb (p0:List Ab) (p1:List Aa):Option (Bj × Int) :=
 bnd (Jn p0 p1) fun r2=>
 if r2=0 then (jn (fun (s7:List Ab)=>
 bnd (Kg p1) fun r0=>
 bnd (Cm p0 r0) fun r1=>
 some ((⟨s7,r1,r0⟩:Bj),0))
 (fun j7=>bnd (lfix (Iw p0) (([]:List Ab),0)) fun t0=>
 j7 t0))
 else (some ((⟨([]:List Ab),([]:List Ae),([]:List Aa)⟩:Bj),r2))
set_option maxHeartbeats 1000000 in
set_option maxRecDepth 100000 in
instance lidarref06_less_c (p0:Ae) (p1:Ae):Con (Nm p0 p1) Tryz.prog 186 (fun _ vs=>vs=[.agg #[.int .i64 (p0.a0),.int .i64 (p0.a1),.int .i64 (p0.a2)],.agg #[.int .i64 (p1.a0),.int .i64 (p1.a1),.int .i64 (p1.a2)]]) (fun _ r=>fun v Ln=>v = .bool (r)/\Ln=[]/\True):=⟨by
 rintro _ _ r rfl hx w hK;unfold Nm at hx;have:=dl 4 [0,0,1,0,0,1,0] [0,1,2,3,4,5,6];have:=dl 5 [0,0,1,0,0,1,0,2] [0,1,2,3,4,5,6,7];refine CtS Tryz.ntmps186 Tryz.results186 ?_;try (refine pre ?_;intros;rename_i hx)
 refine Bn ?_;try (refine pre ?_;intros;rename_i hx)
 apply Jr (γ:=Unit) hx [] (fun s2 y2 f=>f) [999] (fun s2 y2 l=>l);exact kk
 ·intro s2 y2 hx;exact au
 ·intro _ hx;try (refine pre ?_;intros;rename_i hx)
  apply Lr (γ:=Unit) hx [2,3] (fun s0 y0 f=>(6,.int .i64 (s0))::f) [0,1,999] (fun s0 y0 l=>l) ();exact kk;exact sk;intro s0 y0 x0 hx _;unfold Ho at hx
  exact au⟩
set_option maxHeartbeats 1000000 in
set_option maxRecDepth 100000 in
instance lidarref06_sorted_c (p0:List Ae):ConK (Lg p0) Tryz.prog 116 (fun ug0 ug1 ug2 B0_0 d0_0 ua0 uc0 vs Lp=>vs=[.slice (B0_0) ((p0).length) (d0_0)]/\Lp=[.r (B0_0) ((p0).length) (d0_0) 94 3 ((p0).flatMap Bc)]/\ug0=0/\ug1=0/\ug2=0/\ua0=none/\uc0=0/\True) (fun B0_0 d0_0 ua0 uc0 K K2=>True) (fun ug0 ug1 ug2 B0_0 d0_0 ua0 uc0 K r=>fun v Ln=>∃ (A0:Option Addr) (c0:Nat),v = .slice (A0) ((r).length) (c0)/\Ln=[.r A0 (r).length c0 94 3 ((r).flatMap Bc)]/\True):=⟨by
 rintro _ _ _ B0_0 d0_0 _ _ K K2 _ _ r ⟨rfl,rfl,rfl,rfl,rfl,rfl,rfl,-⟩ ⟨-⟩ hx;unfold Lg at hx;have:=dl 5 [0,0,0,0,0,0,1,0,0,0,0,1,2,0] [0,1,2,3,4,5,6,7,8,9,10,11,12,13];have:=dl 7 [0,0,0,0,0,0,0,0,0,1,0,0,0,1,0,3,0,3] [0,1,2,3,4,5,6,7,8,9,10,11,12,13,14,15,16,17];refine CtSK Tryz.ntmps116 Tryz.results116 ?_;intro Lf hKf;have hKg:=hKf.r;replace hKf:=hKf.l;refine Xt ?_;try (refine pre ?_;intros;rename_i hx)
 refine Bn ?_;try (refine pre ?_;intros;rename_i hx)
 apply Jr (γ:=(Option Addr) × Nat) hx [] (fun s2 y2 f=>(0,.slice (y2.1) ((s2).length) (y2.2))::f) [1001] (fun s2 y2 l=>.r (y2.1) ((s2).length) (y2.2) 94 3 ((s2).flatMap Bc)::l);exact kk
 ·intro s2 y2 hx;exact au
 ·intro _ hx;try (refine pre ?_;intros;rename_i hx)
  apply Lr (γ:=(Option Addr) × Nat) hx [6] (fun s0 y0 f=>(0,.slice (y0.1) ((s0.1).length) (y0.2))::(7,.int .i64 (s0.2))::f) [1001] (fun s0 y0 l=>.r (y0.1) ((s0.1).length) (y0.2) 94 3 ((s0.1).flatMap Bc)::l) (_,_);exact kk;exact sk;intro s0 y0 x0 hx _;unfold Ia at hx
  try (refine pre ?_;intros;rename_i hx)
  refine Cq1 (s:=8) hx rfl (fun _ hx=>?_) (fun _ hx=>?_)
  ·try (refine pre ?_;intros;rename_i hx)
   apply Jr (γ:=(Option Addr) × Nat) hx [6,7] (fun s1 y1 f=>(0,.slice (y1.1) ((s1).length) (y1.2))::f) [1001] (fun s1 y1 l=>.r (y1.1) ((s1).length) (y1.2) 94 3 ((s1).flatMap Bc)::l);exact kk
   ·intro s1 y1 hx;exact au
   ·intro _ hx;try (refine pre ?_;intros;rename_i hx)
    apply Lr (γ:=(Option Addr) × Nat) hx [6,7] (fun s3 y3 f=>(0,.slice (y3.1) ((s3.1).length) (y3.2))::(4,.int .i64 (s3.2))::f) [1001] (fun s3 y3 l=>.r (y3.1) ((s3.1).length) (y3.2) 94 3 ((s3.1).flatMap Bc)::l) (_,_);exact kk;exact sk;intro s3 y3 x1 hx _;unfold Hz at hx
    try (refine pre ?_;intros;rename_i hx)
    refine Bn ?_;try (refine pre ?_;intros;rename_i hx)
    apply Jr (γ:=Unit) hx [0,4,6,7] (fun s4 y4 f=>(24,.bool (s4))::f) [0,1001] (fun s4 y4 l=>l);exact kk
    ·intro s4 y4 hx;exact au
    ·intro _ hx;exact au
  ·exact au⟩
set_option maxHeartbeats 1000000 in
set_option maxRecDepth 100000 in
instance lidarref06_turned_c (p0:Ae):Con (Lh p0) Tryz.prog 115 (fun _ vs=>vs=[.agg #[.int .i64 (p0.a0),.int .i64 (p0.a1),.int .i64 (p0.a2)]]) (fun _ r=>fun v Ln=>v = .agg #[.int .i64 (r.a0),.int .i64 (r.a1),.int .i64 (r.a2)]/\Ln=[]/\True):=⟨by
 rintro _ _ r rfl hx w hK;unfold Lh at hx;refine CtS Tryz.ntmps115 Tryz.results115 ?_;try (refine pre ?_;intros;rename_i hx)
 refine Bn ?_;try (refine pre ?_;intros;rename_i hx)
 apply Jr (γ:=(Nat)) hx [2] (fun s2 y2 f=>(1,.pointer (some ⟨y2,0,none⟩))::f) [0,999] (fun s2 y2 l=>.m y2 94 [.int .i64 (s2.1),.int .i64 (s2.2.1),.int .i64 (s2.2.2)]::l);exact kk
 ·intro s2 y2 hx;exact au
 ·intro _ hx;try (refine pre ?_;intros;rename_i hx)
  apply Lr (γ:=(Nat)) hx [2] (fun s0 y0 f=>(1,.pointer (some ⟨y0,0,none⟩))::f) [0,999] (fun s0 y0 l=>.m y0 94 [.int .i64 (s0.1),.int .i64 (s0.2.1),.int .i64 (s0.2.2)]::l) _;exact kk;exact sk;intro s0 y0 x0 hx _;unfold Fq at hx
  exact au⟩
set_option maxRecDepth 100000 in
instance lidarref06_Less_c (p0:Aa) (p1:Aa):Con (Nn p0 p1) Tryz.prog 59 (fun _ vs=>vs=[.agg #[.int .i64 (p0.a0),.int .i64 (p0.a1)],.agg #[.int .i64 (p1.a0),.int .i64 (p1.a1)]]) (fun _ r=>fun v Ln=>v = .bool (r)/\Ln=[]/\True):=⟨by
 rintro _ _ r rfl hx w hK;unfold Nn at hx;refine CtS Tryz.ntmps59 Tryz.results59 ?_;exact au⟩
set_option maxHeartbeats 1000000 in
set_option maxRecDepth 100000 in
instance lidarref06_ordered_c (p0:List Aa):Con (Kg p0) Tryz.prog 46 (fun K vs=>∃ (A0_0:Option Addr) (c0_0:Nat),vs=[.slice (A0_0) ((p0).length) (c0_0)]/\Has K A0_0 (p0).length c0_0 2 Ak (p0)/\True) (fun _ r=>fun v Ln=>∃ (A0:Option Addr) (c0:Nat),v = .slice (A0) ((r).length) (c0)/\Ln=[.r A0 (r).length c0 62 2 ((r).flatMap Ak)]/\True):=⟨by
 rintro K _ r ⟨A0_0,c0_0,rfl,ha0,-⟩ hx w hK;replace ha0:=Has.lo ha0 hK;unfold Kg at hx;have:=dl 5 [0,0,0,0,0,1,0,0,0,0,1,0,0,0,0,0,1,0,0,0,0,1,0,0,2,3,2] [0,1,2,3,4,5,6,7,8,9,10,11,12,13,14,15,16,17,18,19,20,21,22,23,24,25,26];have:=dl 11 [0,0,0,0,0,0,1,0,0,0,0,1,2,0] [0,1,2,3,4,5,6,7,8,9,10,11,12,13];have:=dl 13 [0,0,0,0,0,0,0,0,0,1,0,0,0,1,0,3,0,3] [0,1,2,3,4,5,6,7,8,9,10,11,12,13,14,15,16,17];refine CtS Tryz.ntmps46 Tryz.results46 ?_;try (refine pre ?_;intros;rename_i hx)
 refine Bn ?_;try (refine pre ?_;intros;rename_i hx)
 refine Bn ?_;try (refine pre ?_;intros;rename_i hx)
 apply Jr (γ:=(Option Addr) × Nat) hx [] (fun s3 y3 f=>(3,.slice (y3.1) ((s3).length) (y3.2))::f) [999] (fun s3 y3 l=>.r (y3.1) ((s3).length) (y3.2) 62 2 ((s3).flatMap Ak)::l);exact kk
 ·intro s3 y3 hx;apply Jr (γ:=(Option Addr) × Nat) hx [] (fun s0 y0 f=>(3,.slice (y0.1) ((s0).length) (y0.2))::f) [999] (fun s0 y0 l=>.r (y0.1) ((s0).length) (y0.2) 62 2 ((s0).flatMap Ak)::l);exact kk
  ·intro s0 y0 hx;exact au
  ·intro _ hx;try (refine pre ?_;intros;rename_i hx)
   apply Lr (γ:=(Option Addr) × Nat) hx [40] (fun s1 y1 f=>(3,.slice (y1.1) ((s1.1).length) (y1.2))::(41,.int .i64 (s1.2))::f) [999] (fun s1 y1 l=>.r (y1.1) ((s1.1).length) (y1.2) 62 2 ((s1.1).flatMap Ak)::l) (_,_);exact kk;exact sk;intro s1 y1 x0 hx _;unfold Ha at hx
   try (refine pre ?_;intros;rename_i hx)
   refine Cq1 (s:=42) hx rfl (fun _ hx=>?_) (fun _ hx=>?_)
   ·try (refine pre ?_;intros;rename_i hx)
    apply Jr (γ:=(Option Addr) × Nat) hx [40,41] (fun s2 y2 f=>(3,.slice (y2.1) ((s2).length) (y2.2))::f) [999] (fun s2 y2 l=>.r (y2.1) ((s2).length) (y2.2) 62 2 ((s2).flatMap Ak)::l);exact kk
    ·intro s2 y2 hx;exact au
    ·intro _ hx;try (refine pre ?_;intros;rename_i hx)
     apply Lr (γ:=(Option Addr) × Nat) hx [40,41] (fun s4 y4 f=>(3,.slice (y4.1) ((s4.1).length) (y4.2))::(6,.int .i64 (s4.2))::f) [999] (fun s4 y4 l=>.r (y4.1) ((s4.1).length) (y4.2) 62 2 ((s4.1).flatMap Ak)::l) (_,_);exact kk;exact sk;intro s4 y4 x1 hx _;unfold Gh at hx
     try (refine pre ?_;intros;rename_i hx)
     refine Bn ?_;try (refine pre ?_;intros;rename_i hx)
     apply Jr (γ:=Unit) hx [3,6,40,41] (fun s5 y5 f=>(58,.bool (s5))::f) [0,999] (fun s5 y5 l=>l);exact kk
     ·intro s5 y5 hx;exact au
     ·intro _ hx;exact au
   ·exact au
 ·intro _ hx;try (refine pre ?_;intros;rename_i hx)
  refine Az 62 2 ?_
  apply Lr (γ:=(Option Addr) × Nat) hx [0,8] (fun s6 y6 f=>(3,.slice (y6.1) ((s6.1).length) (y6.2))::(9,.int .i64 (s6.2))::f) [999] (fun s6 y6 l=>.r (y6.1) ((s6.1).length) (y6.2) 62 2 ((s6.1).flatMap Ak)::l) (_,_);exact kk;exact sk;intro s6 y6 x2 hx _;unfold Kj at hx
  exact au⟩
set_option maxHeartbeats 1000000 in
set_option maxRecDepth 100000 in
instance lidarref06_triangles_c (p0:List Ab) (p1:List Aa):Con (Cm p0 p1) Tryz.prog 47 (fun K vs=>∃ (A0_0:Option Addr) (c0_0:Nat) (A0_1:Option Addr) (c0_1:Nat),vs=[.slice (A0_0) ((p0).length) (c0_0),.slice (A0_1) ((p1).length) (c0_1)]/\Has K A0_0 (p0).length c0_0 4 Ah (p0)/\Has K A0_1 (p1).length c0_1 2 Ak (p1)/\True) (fun _ r=>fun v Ln=>∃ (A0:Option Addr) (c0:Nat),v = .slice (A0) ((r).length) (c0)/\Ln=[.r A0 (r).length c0 94 3 ((r).flatMap Bc)]/\True):=⟨by
 rintro K _ r ⟨A0_0,c0_0,A0_1,c0_1,rfl,ha0,ha1,-⟩ hx w hK;replace ha0:=Has.lo ha0 hK;replace ha1:=Has.lo ha1 hK;unfold Cm at hx;have:=dl 19 [0,0,1,0,0,0,0,1,2,2] [0,1,2,3,4,5,6,7,8,9];refine CtS Tryz.ntmps47 Tryz.results47 ?_;try (refine pre ?_;intros;rename_i hx)
 refine Bn ?_;try (refine pre ?_;intros;rename_i hx)
 refine Bn ?_;try (refine pre ?_;intros;rename_i hx)
 apply Jr (γ:=Unit) hx [0,1] (fun s3 y3 f=>(21,.bool (s3))::f) [999] (fun s3 y3 l=>l);exact kk
 ·intro s3 y3 hx;refine Cq3 (s:=21) hx rfl (fun _ hx=>?_) (fun _ hx=>?_)
  ·exact au
  ·try (refine pre ?_;intros;rename_i hx)
   refine Bn ?_;try (refine pre ?_;intros;rename_i hx)
   refine Bn ?_;try (refine pre ?_;intros;rename_i hx)
   apply Jr (γ:=(Option Addr) × Nat) hx [] (fun s9 y9 f=>(8,.slice (y9.1) ((s9).length) (y9.2))::f) [999] (fun s9 y9 l=>.r (y9.1) ((s9).length) (y9.2) 94 3 ((s9).flatMap Bc)::l);exact kk
   ·intro s9 y9 hx;exact au
   ·intro _ hx;try (refine pre ?_;intros;rename_i hx)
    (with_reducible apply Ag8 29 (sz:=2));exact rfl;exact aT;exact inferInstance;exact dL;exact (fun _=>rfl);exact rfl;exact rfl;exact sA
    try (refine pre ?_;intros;rename_i hx)
    refine Az 94 3 ?_
    apply Lr (γ:=(Option Addr) × (Nat) × (Option Addr) × (Nat) × (Nat)) hx [0,1] (fun s0 y0 f=>(6,.slice (y0.1) ((s0.1).length) (y0.2.1))::(7,.map (some (y0.2.2.2.2)))::(8,.slice (y0.2.2.1) ((s0.2.2).length) (y0.2.2.2.1))::f) [999] (fun s0 y0 l=>.r (y0.2.2.1) ((s0.2.2).length) (y0.2.2.2.1) 94 3 ((s0.2.2).flatMap Bc)::Aw Tryz.prog 62 Af Bh (y0.2.2.2.2) (s0.2.1) :: .r (y0.1) ((s0.1).length) (y0.2.1) 62 2 ((s0.1).flatMap Ak)::l) (_,_,_,_,_);exact kk;exact sk;intro s0 y0 x0 hx _;unfold Fs at hx
    try (refine pre ?_;intros;rename_i hx)
    refine Cq1e (s:=33) hx rfl cQ (fun _ hx=>?_) (fun _ hx=>?_)
    ·try (refine pre ?_;intros;rename_i hx)
     refine Cq3 (s:=47) hx rfl (fun _ hx=>?_) (fun _ hx=>?_)
     ·try (refine pre ?_;intros;rename_i hx)
      (with_reducible apply Th 6);exact rfl;exact aT;(with_reducible assumption);exact rfl;exact (fun _=>rfl);exact sA
      exact au
     ·try (refine pre ?_;intros;rename_i hx)
      refine Cq1e (s:=56) hx rfl cQ (fun _ hx=>?_) (fun _ hx=>?_)
      ·try (refine pre ?_;intros;rename_i hx)
       (with_reducible apply Th 6);exact rfl;exact aT;(with_reducible assumption);exact rfl;exact (fun _=>rfl);exact sA
       exact au
      ·try (refine pre ?_;intros;rename_i hx)
       (with_reducible apply Th 6);exact rfl;exact aT;(with_reducible assumption);exact rfl;exact (fun _=>rfl);exact sA
       try (refine pre ?_;intros;rename_i hx)
       apply Lr (γ:=(Option Addr) × (Nat) × (Nat)) hx [0,1,8,11] (fun s1 y1 f=>(6,.slice (y1.1) ((s1.1).length) (y1.2.1))::(7,.map (some (y1.2.2)))::(70,.int .i64 (s1.2.2))::f) [0,2,999] (fun s1 y1 l=>.r (y1.1) ((s1.1).length) (y1.2.1) 62 2 ((s1.1).flatMap Ak)::Aw Tryz.prog 62 Af Bh (y1.2.2) (s1.2.1)::l) (_,_,_);exact kk;exact sk;intro s1 y1 x1 hx _;unfold Cq at hx
       exact au
    ·exact au
 ·intro _ hx;exact au⟩
set_option maxHeartbeats 1000000 in
set_option maxRecDepth 100000 in
instance lidarref06_Build_c (p0:List Ab) (p1:List Aa):Con (Cb p0 p1) Tryz.prog 11 (fun K vs=>∃ (A0_0:Option Addr) (c0_0:Nat) (A0_1:Option Addr) (c0_1:Nat),vs=[.slice (A0_0) ((p0).length) (c0_0),.slice (A0_1) ((p1).length) (c0_1)]/\Has K A0_0 (p0).length c0_0 4 Ah (p0)/\Has K A0_1 (p1).length c0_1 2 Ak (p1)/\True) (fun _ r=>fun v Ln=>∃ (A0:Option Addr) (c0:Nat) (A2:Option Addr) (c2:Nat) (A4:Option Addr) (c4:Nat),v = .tuple #[.agg #[.slice (A0) ((r.1.V).length) (c0),.slice (A2) ((r.1.T).length) (c2),.slice (A4) ((r.1.Lines).length) (c4)],.int .i64 (r.2)]/\Ln=[.r A0 (r.1.V).length c0 70 4 ((r.1.V).flatMap Ah),.r A2 (r.1.T).length c2 94 3 ((r.1.T).flatMap Bc),.r A4 (r.1.Lines).length c4 62 2 ((r.1.Lines).flatMap Ak)]/\True):=⟨by
 rintro K _ r ⟨A0_0,c0_0,A0_1,c0_1,rfl,ha0,ha1,-⟩ hx w hK;replace ha0:=Has.lo ha0 hK;replace ha1:=Has.lo ha1 hK;unfold Cb at hx;refine CtS Tryz.ntmps11 Tryz.results11 ?_;try (refine pre ?_;intros;rename_i hx)
 refine Cq2 (s:=14) hx rfl (fun _ hx=>?_) (fun _ hx=>?_)
 ·exact au
 ·try (refine pre ?_;intros;rename_i hx)
  refine Bn ?_;try (refine pre ?_;intros;rename_i hx)
  apply Jr (γ:=(Option Addr) × Nat) hx [0,1,4] (fun s7 y7 f=>(7,.slice (y7.1) ((s7).length) (y7.2))::f) [0,999] (fun s7 y7 l=>.r (y7.1) ((s7).length) (y7.2) 70 4 ((s7).flatMap Ah)::l);exact kk
  ·intro s7 y7 hx;exact au
  ·intro _ hx;try (refine pre ?_;intros;rename_i hx)
   refine Az 70 4 ?_
   apply Lr (γ:=(Option Addr) × Nat) hx [0,1,4,18] (fun s0 y0 f=>(7,.slice (y0.1) ((s0.1).length) (y0.2))::(19,.int .i64 (s0.2))::f) [1,999] (fun s0 y0 l=>.r (y0.1) ((s0.1).length) (y0.2) 70 4 ((s0.1).flatMap Ah)::l) (_,_);exact kk;exact sk;intro s0 y0 x0 hx _;unfold Iw at hx
   exact au⟩
end Go.Proofs.YtjfndjmabhbicaaGreat
