import Derived.Test.YthlkpgdfifnagaaGreatV5
set_option maxRecDepth 100000
set_option maxHeartbeats 1000000
namespace Go.Proofs.YthlkpgdfifnagaaGreat
open Go Go.RowKit Tryz
noncomputable section
section
instance:Um prog 101 [iq 0,iq 0,iq 0]:=⟨⟨_,zeroValue101,rfl⟩⟩
instance(x0:Int)(x1:Int)(x2:Int)(x3:Int):Ns prog 22 1 [(0,.agg #[iq x0,iq x1,iq x2,iq x3])] 108 [iq x0,iq x1,iq x2,iq x3]:=⟨fun w=>kr⟩
def Ho(p0:Ag)(p1:Ag):Int->Option (Sum Int (Sum Unit Bool)):=fun s0=>
 if s0<3 then (bnd (idx [p0.a0,p0.a1,p0.a2] s0) fun x0=>
 bnd (idx [p1.a0,p1.a1,p1.a2] s0) fun x1=>
 if x0=x1 then (some (.inl (w64 (s0+1))))
 else (bnd (idx [p0.a0,p0.a1,p0.a2] s0) fun x2=>
 bnd (idx [p1.a0,p1.a1,p1.a2] s0) fun x3=>
 some (.inr (.inr (decide (x2<x3))))))
 else (some (.inr (.inl ())))
def Qd(p0:Ag)(p1:Ag):Option Bool :=
 jn (fun (s2:Unit)=>
 some false)
 (fun j2=>bnd (lfix (Ho p0 p1) 0) fun t0=>
 (match t0 with
 |(.inl z0)=>j2 z0
 |(.inr z0)=>some z0
 ))
def Ip  : (List Ag×Int)->Option (Sum (List Ag×Int) (List Ag)):=fun s0=>
 jn (fun (s1:Bool)=>
 if s1=true then (bnd (idx s0.1 (w64 (s0.2-1))) fun x0=>
 bnd (idx s0.1 s0.2) fun x1=>
 bnd (idx s0.1 s0.2) fun x2=>
 bnd (idx (setI s0.1 s0.2 x0) (w64 (s0.2-1))) fun x3=>
 some (.inl (setI (setI s0.1 s0.2 x0) (w64 (s0.2-1)) x1,w64 (s0.2-1))))
 else (some (.inr s0.1)))
 (fun j0=>if 0<s0.2 then (bnd (idx s0.1 s0.2) fun x4=>
 bnd (idx s0.1 (w64 (s0.2-1))) fun x5=>
 bnd (Qd x4 x5) fun r0=>
 j0 r0)
 else (j0 false))
def Iq(p0:List Ag):(List Ag×Int)->Option (Sum (List Ag×Int) (List Ag)):=fun s0=>
 if s0.2<(p0.length:Int) then (jn (fun (s1:List Ag)=>
 some (.inl (s1,w64 (s0.2+1))))
 (fun j0=>bnd (lfix Ip (s0.1,s0.2)) fun t0=>
 j0 t0))
 else (some (.inr s0.1))
def Nf(p0:List Ag):Option (List Ag):=
 jn (fun (s2:List Ag)=>
 some s2)
 (fun j2=>bnd (lfix (Iq p0) (p0,0)) fun t0=>
 j2 t0)
def Fo  : (Int×Int×Int)->Option (Sum (Int×Int×Int) (Int×Int×Int)):=fun s0=>
 jn (fun (s6:Bool)=>
 if s6=true then (some (.inl (s0.2.1,s0.2.2,s0.1)))
 else (some (.inr (s0.1,s0.2.1,s0.2.2))))
 (fun j6=>if s0.2.1<s0.1 then (j6 true)
 else (j6 (decide (s0.2.2<s0.1))))
def Ng(p0:Ag):Option Ag :=
 jn (fun (s2:Int×Int×Int)=>
 some (⟨s2.1,s2.2.1,s2.2.2⟩:Ag))
 (fun j2=>bnd (lfix Fo (p0.a0,p0.a1,p0.a2)) fun t0=>
 j2 t0)
def Qe(p0:Ac)(p1:Ac):Option Bool :=
 jn (fun (s2:Bool)=>
 some s2)
 (fun j2=>if p0.a0<p1.a0 then (j2 true)
 else (if p0.a0=p1.a0 then (j2 (decide (p0.a1<p1.a1)))
 else (j2 false)))
def Hg(p0:List Ac):(List Ac×Int)->Option (Sum (List Ac×Int) (List Ac)):=fun s0=>
 if s0.2<(p0.length:Int) then (bnd (idx p0 s0.2) fun x0=>
 bnd (idx p0 s0.2) fun x1=>
 bnd (idx p0 s0.2) fun x2=>
 bnd (idx p0 s0.2) fun x3=>
 gd ((s0.1.length+1)*16<=140737488355328)<|
 some (.inl (s0.1++[(⟨min x0.a0 x1.a1,max x2.a0 x3.a1⟩:Ac)],w64 (s0.2+1))))
 else (some (.inr s0.1))
def Gc  : (List Ac×Int)->Option (Sum (List Ac×Int) (List Ac)):=fun s0=>
 jn (fun (s1:Bool)=>
 if s1=true then (bnd (idx s0.1 (w64 (s0.2-1))) fun x0=>
 bnd (idx s0.1 s0.2) fun x1=>
 bnd (idx s0.1 s0.2) fun x2=>
 bnd (idx (setI s0.1 s0.2 x0) (w64 (s0.2-1))) fun x3=>
 some (.inl (setI (setI s0.1 s0.2 x0) (w64 (s0.2-1)) x1,w64 (s0.2-1))))
 else (some (.inr s0.1)))
 (fun j0=>if 0<s0.2 then (bnd (idx s0.1 s0.2) fun x4=>
 bnd (idx s0.1 (w64 (s0.2-1))) fun x5=>
 bnd (Qe x4 x5) fun r0=>
 j0 r0)
 else (j0 false))
def Em(s3:List Ac):(List Ac×Int)->Option (Sum (List Ac×Int) (List Ac)):=fun s0=>
 if s0.2<(s3.length:Int) then (jn (fun (s1:List Ac)=>
 some (.inl (s1,w64 (s0.2+1))))
 (fun j0=>bnd (lfix Gc (s0.1,s0.2)) fun t0=>
 j0 t0))
 else (some (.inr s0.1))
def Dk(p0:List Ac):Option (List Ac):=
 jn (fun (s3:List Ac)=>
 jn (fun (s0:List Ac)=>
 some s0)
 (fun j0=>bnd (lfix (Em s3) (s3,0)) fun t0=>
 j0 t0))
 (fun j3=>bnd (lfix (Hg p0) (([]:List Ac),0)) fun t1=>
 j3 t1)
def Ch(r0:Ag)(s0:List Ac×(List (Ac×Bool))×List Ag):(List Ac×(List (Ac×Bool))×Int)->Option (Sum (List Ac×(List (Ac×Bool))×Int) (List Ac×(List (Ac×Bool))×List Ag)):=fun s1=>
 if s1.2.2<3 then (bnd (idx [r0.a0,r0.a1,r0.a2] s1.2.2) fun x0=>
 bnd (idx [r0.a0,r0.a1,r0.a2] (Int.tmod (w64 (s1.2.2+1)) 3)) fun x1=>
 gd ((-9223372036854775808<=x0/\x0<=9223372036854775807)/\(-9223372036854775808<=x1/\x1<=9223372036854775807))<|
 gd (s1.2.1.length<9223372036854775807)<|
 gd ((s1.1.length+1)*16<=140737488355328)<|
 some (.inl (s1.1++[(⟨x1,x0⟩:Ac)],mput s1.2.1 ((⟨x0,x1⟩:Ac)) true,w64 (s1.2.2+1))))
 else (some (.inr (s1.1,s1.2.1,s0.2.2++[r0])))
def Fp(p0:List Ae)(p1:List Ac):(List Ac×(List (Ac×Bool))×List Ag)->Option (Sum (List Ac×(List (Ac×Bool))×List Ag) (List Ag)):=fun s0=>
 if 0<(s0.1.length:Int) then (bnd (idx s0.1 (w64 ((s0.1.length:Int)-1))) fun x0=>
 gd (0<=(w64 ((s0.1.length:Int)-1))/\(w64 ((s0.1.length:Int)-1))<=(s0.1.length:Int))<|
 gd ((-9223372036854775808<=x0.a0/\x0.a0<=9223372036854775807)/\(-9223372036854775808<=x0.a1/\x0.a1<=9223372036854775807))<|
 bnd (some ((mget s0.2.1 x0).getD false)) fun x1=>
 if x1=true then (some (.inl (List.take (Int.toNat (w64 ((s0.1.length:Int)-1))) s0.1,s0.2.1,s0.2.2)))
 else (bnd (Qm p0 p1 x0.a0 x0.a1) fun r0=>
 if r0<0 then (gd ((-9223372036854775808<=x0.a0/\x0.a0<=9223372036854775807)/\(-9223372036854775808<=x0.a1/\x0.a1<=9223372036854775807))<|
 gd (s0.2.1.length<9223372036854775807)<|
 some (.inl (List.take (Int.toNat (w64 ((s0.1.length:Int)-1))) s0.1,mput s0.2.1 x0 true,s0.2.2)))
 else (bnd (Ng (⟨x0.a0,x0.a1,r0⟩:Ag)) fun r1=>
 gd ((s0.2.2.length+1)*24<=140737488355328)<|
 bnd (lfix (Ch r1 s0) (List.take (Int.toNat (w64 ((s0.1.length:Int)-1))) s0.1,s0.2.1,0)) fun t0=>
 some (.inl t0))))
 else (some (.inr s0.2.2))
def Ir(p0:List Ae)(p1:List Ac):Option (List Ag):=
 jn (fun (s3:Bool)=>
 if s3=true then (some ([]:List Ag))
 else (bnd (Po p0) fun r0=>
 bnd (Qn p0 r0 false) fun r1=>
 jn (fun (s9:List Ag)=>
 bnd (Nf s9) fun r2=>
 some r2)
 (fun j9=>bnd (lfix (Fp p0 p1) ([(⟨r0,r1⟩:Ac)],([]:List (Ac×Bool)),([]:List Ag))) fun t0=>
 j9 t0)))
 (fun j3=>if (p0.length:Int)<3 then (j3 true)
 else (bnd (Qo p0) fun r4=>
 j3 r4))
def Jn(p0:List Ae):(List Ae×Int)->Option (Sum (List Ae×Int) (List Ae)):=fun s0=>
 if s0.2<(p0.length:Int) then (bnd (idx p0 s0.2) fun x0=>
 gd ((s0.1.length+1)*32<=140737488355328)<|
 some (.inl (s0.1++[x0],w64 (s0.2+1))))
 else (some (.inr s0.1))
def Kr(p0:List Ae)(p1:List Ac):Option (Ak×Int):=
 bnd (Sm p0 p1) fun r2=>
 if r2=0 then (jn (fun (s7:List Ae)=>
 bnd (Dk p1) fun r0=>
 bnd (Ir p0 r0) fun r1=>
 some ((⟨s7,r1,r0⟩:Ak),0))
 (fun j7=>bnd (lfix (Jn p0) (([]:List Ae),0)) fun t0=>
 j7 t0))
 else (some ((⟨([]:List Ae),([]:List Ag),([]:List Ac)⟩:Ak),r2))
instance(p0:Ag)(p1:Ag):Con (Qd p0 p1) prog 249 (fun _ vs=>vs=[.agg #[iq p0.a0,iq p0.a1,iq p0.a2],.agg #[iq p1.a0,iq p1.a1,iq p1.a2]]) (fun _ r=>fun v Ln=>v=.bool r/\Ln=[]/\True):=⟨by
 rintro _ _ r rfl hx w hK;unfold Qd at hx;have:=dl 4 [0,0,1,0,0,1,0] [0,1,2,3,4,5,6];have:=dl 5 [0,0,1,0,0,1,0,2] [0,1,2,3,4,5,6,7];refine CtS ntmps249 results249 ?_;refine pq ?_;intros;rename_i hx
 refine pA ?_;intros;rename_i hx
 apply Jr (γ:=Unit) hx [] (fun s2 y2 f=>f) [999] (fun s2 y2 l=>l);exact kk
 .exact aI
 .refine pI ?_;intros;rename_i hx
  apply Lr (γ:=Unit) hx [2,3] (fun s0 y0 f=>(6,iq s0)::f) [0,1,999] (fun s0 y0 l=>l) ();exact kk;exact sk;intro s0 y0 x0 hx _;unfold Ho at hx;exact au⟩
instance(p0:List Ag):ConK (Nf p0) prog 201 (fun ug0 ug1 ug2 B0_0 d0_0 ua0 uc0 vs Lp=>vs=[.slice B0_0 p0.length d0_0]/\Lp=[.r B0_0 p0.length d0_0 101 3 (p0.flatMap Az)]/\ug0=0/\ug1=0/\ug2=0/\ua0=none/\uc0=0/\True) (fun B0_0 d0_0 ua0 uc0 K K2=>True) (fun ug0 ug1 ug2 B0_0 d0_0 ua0 uc0 K r=>fun v Ln=>∃A0 c0,v=.slice A0 r.length c0/\Ln=[.r A0 r.length c0 101 3 (r.flatMap Az)]/\True):=⟨by
 rintro _ _ _ B0_0 d0_0 _ _ K K2 _ _ r ⟨rfl,rfl,rfl,rfl,rfl,rfl,rfl,-⟩ ⟨-⟩ hx;unfold Nf at hx;have:=dl 5 [0,0,0,0,0,0,1,0,0,0,0,1,2,0] [0,1,2,3,4,5,6,7,8,9,10,11,12,13];have:=dl 7 [0,0,0,0,0,0,0,0,0,1,0,0,0,1,0,3,0,3] [0,1,2,3,4,5,6,7,8,9,10,11,12,13,14,15,16,17];refine CtSK ntmps201 results201 ?_;intro Lf hKf;have hKg:=hKf.r;replace hKf:=hKf.l;refine Yx ?_;refine pq ?_;intros;rename_i hx
 refine pA ?_;intros;rename_i hx
 apply Jr (γ:=OA×Nat) hx [] (fun s2 y2 f=>(0,.slice y2.1 s2.length y2.2)::f) [1001] (fun s2 y2 l=>.r y2.1 s2.length y2.2 101 3 (s2.flatMap Az)::l);exact kk
 .exact aI
 .refine pI ?_;intros;rename_i hx
  apply Lr (γ:=OA×Nat) hx [6] (fun s0 y0 f=>(0,.slice y0.1 s0.1.length y0.2)::(7,iq s0.2)::f) [1001] (fun s0 y0 l=>.r y0.1 s0.1.length y0.2 101 3 (s0.1.flatMap Az)::l) (_,_);exact kk;exact sk;intro s0 y0 x0 hx _;unfold Iq at hx;refine pq ?_;intros;rename_i hx
  refine Cq1 (s:=8) hx rfl ?_ ?_
  .refine pI ?_;intros;rename_i hx
   apply Jr (γ:=OA×Nat) hx [6,7] (fun s1 y1 f=>(0,.slice y1.1 s1.length y1.2)::f) [1001] (fun s1 y1 l=>.r y1.1 s1.length y1.2 101 3 (s1.flatMap Az)::l);exact kk
   .exact aI
   .refine pI ?_;intros;rename_i hx
    apply Lr (γ:=OA×Nat) hx [6,7] (fun s3 y3 f=>(0,.slice y3.1 s3.1.length y3.2)::(4,iq s3.2)::f) [1001] (fun s3 y3 l=>.r y3.1 s3.1.length y3.2 101 3 (s3.1.flatMap Az)::l) (_,_);exact kk;exact sk;intro s3 y3 x1 hx _;unfold Ip at hx;refine pq ?_;intros;rename_i hx
    refine pA ?_;intros;rename_i hx
    apply Jr (γ:=Unit) hx [0,4,6,7] (fun s4 y4 f=>(24,.bool s4)::f) [0,1001] (fun s4 y4 l=>l);exact kk
    .exact aI
    .exact aI
  .exact aI⟩
instance(p0:Ag):Con (Ng p0) prog 200 (fun _ vs=>vs=[.agg #[iq p0.a0,iq p0.a1,iq p0.a2]]) (fun _ r=>fun v Ln=>v=.agg #[iq r.a0,iq r.a1,iq r.a2]/\Ln=[]/\True):=⟨by
 rintro _ _ r rfl hx w hK;unfold Ng at hx;refine CtS ntmps200 results200 ?_;refine pq ?_;intros;rename_i hx
 refine pA ?_;intros;rename_i hx
 apply Jr (γ:=Nat) hx [2] (fun s2 y2 f=>(1,.pointer (some ⟨y2,0,none⟩))::f) [0,999] (fun s2 y2 l=>.m y2 101 [iq s2.1,iq s2.2.1,iq s2.2.2]::l);exact kk
 .exact aI
 .refine pI ?_;intros;rename_i hx
  apply Lr (γ:=Nat) hx [2] (fun s0 y0 f=>(1,.pointer (some ⟨y0,0,none⟩))::f) [0,999] (fun s0 y0 l=>.m y0 101 [iq s0.1,iq s0.2.1,iq s0.2.2]::l) _;exact kk;exact sk;intro s0 y0 x0 hx _;unfold Fo at hx;exact au⟩
instance(p0:Ac)(p1:Ac):Con (Qe p0 p1) prog 195 (fun _ vs=>vs=[.agg #[iq p0.a0,iq p0.a1],.agg #[iq p1.a0,iq p1.a1]]) (fun _ r=>fun v Ln=>v=.bool r/\Ln=[]/\True):=⟨by
 rintro _ _ r rfl hx w hK;unfold Qe at hx;refine CtS ntmps195 results195 ?_;exact au⟩
instance(p0:List Ac):Con (Dk p0) prog 137 (fun K vs=>∃U0 E0,vs=[.slice U0 p0.length E0]/\Has K U0 p0.length E0 2 Ar p0/\True) (fun _ r=>fun v Ln=>∃A0 c0,v=.slice A0 r.length c0/\Ln=[.r A0 r.length c0 103 2 (r.flatMap Ar)]/\True):=⟨by
 rintro K _ r ⟨U0,E0,rfl,ha0,-⟩ hx w hK;replace ha0:=ha0.lo hK;unfold Dk at hx;have:=dl 5 [0,0,0,0,0,1,0,0,0,0,1,0,0,0,0,0,1,0,0,0,0,1,0,0,2,3,2] [0,1,2,3,4,5,6,7,8,9,10,11,12,13,14,15,16,17,18,19,20,21,22,23,24,25,26];have:=dl 11 [0,0,0,0,0,0,1,0,0,0,0,1,2,0] [0,1,2,3,4,5,6,7,8,9,10,11,12,13];have:=dl 13 [0,0,0,0,0,0,0,0,0,1,0,0,0,1,0,3,0,3] [0,1,2,3,4,5,6,7,8,9,10,11,12,13,14,15,16,17];refine CtS ntmps137 results137 ?_;refine pq ?_;intros;rename_i hx
 refine pA ?_;intros;rename_i hx
 refine pA ?_;intros;rename_i hx
 apply Jr (γ:=OA×Nat) hx [] (fun s3 y3 f=>(3,.slice y3.1 s3.length y3.2)::f) [999] (fun s3 y3 l=>.r y3.1 s3.length y3.2 103 2 (s3.flatMap Ar)::l);exact kk
 .intro s3 y3 hx;apply Jr (γ:=OA×Nat) hx [] (fun s0 y0 f=>(3,.slice y0.1 s0.length y0.2)::f) [999] (fun s0 y0 l=>.r y0.1 s0.length y0.2 103 2 (s0.flatMap Ar)::l);exact kk
  .exact aI
  .refine pI ?_;intros;rename_i hx
   apply Lr (γ:=OA×Nat) hx [40] (fun s1 y1 f=>(3,.slice y1.1 s1.1.length y1.2)::(41,iq s1.2)::f) [999] (fun s1 y1 l=>.r y1.1 s1.1.length y1.2 103 2 (s1.1.flatMap Ar)::l) (_,_);exact kk;exact sk;intro s1 y1 x0 hx _;unfold Em at hx;refine pq ?_;intros;rename_i hx
   refine Cq1 (s:=42) hx rfl ?_ ?_
   .refine pI ?_;intros;rename_i hx
    apply Jr (γ:=OA×Nat) hx [40,41] (fun s2 y2 f=>(3,.slice y2.1 s2.length y2.2)::f) [999] (fun s2 y2 l=>.r y2.1 s2.length y2.2 103 2 (s2.flatMap Ar)::l);exact kk
    .exact aI
    .refine pI ?_;intros;rename_i hx
     apply Lr (γ:=OA×Nat) hx [40,41] (fun s4 y4 f=>(3,.slice y4.1 s4.1.length y4.2)::(6,iq s4.2)::f) [999] (fun s4 y4 l=>.r y4.1 s4.1.length y4.2 103 2 (s4.1.flatMap Ar)::l) (_,_);exact kk;exact sk;intro s4 y4 x1 hx _;unfold Gc at hx;refine pq ?_;intros;rename_i hx
     refine pA ?_;intros;rename_i hx
     apply Jr (γ:=Unit) hx [3,6,40,41] (fun s5 y5 f=>(58,.bool s5)::f) [0,999] (fun s5 y5 l=>l);exact kk
     .exact aI
     .exact aI
   .exact aI
 .refine pI ?_;intros;rename_i hx
  refine Bb 103 2 ?_;apply Lr (γ:=OA×Nat) hx [0,8] (fun s6 y6 f=>(3,.slice y6.1 s6.1.length y6.2)::(9,iq s6.2)::f) [999] (fun s6 y6 l=>.r y6.1 s6.1.length y6.2 103 2 (s6.1.flatMap Ar)::l) (_,_);exact kk;exact sk;intro s6 y6 x2 hx _;unfold Hg at hx;exact au⟩
instance(p0:List Ae)(p1:List Ac):Con (Ir p0 p1) prog 138 (fun K vs=>∃U0 E0 U1 E1,vs=[.slice U0 p0.length E0,.slice U1 p1.length E1]/\Has K U0 p0.length E0 4 Al p0/\Has K U1 p1.length E1 2 Ar p1/\True) (fun _ r=>fun v Ln=>∃A0 c0,v=.slice A0 r.length c0/\Ln=[.r A0 r.length c0 101 3 (r.flatMap Az)]/\True):=⟨by
 rintro K _ r ⟨U0,E0,U1,E1,rfl,ha0,ha1,-⟩ hx w hK;replace ha0:=ha0.lo hK;replace ha1:=ha1.lo hK;unfold Ir at hx;have:=dl 19 [0,0,1,0,0,0,0,1,2,2] [0,1,2,3,4,5,6,7,8,9];refine CtS ntmps138 results138 ?_;refine pq ?_;intros;rename_i hx
 refine pA ?_;intros;rename_i hx
 refine pA ?_;intros;rename_i hx
 apply Jr (γ:=Unit) hx [0,1] (fun s3 y3 f=>(21,.bool s3)::f) [999] (fun s3 y3 l=>l);exact kk
 .intro s3 y3 hx;refine Cq3 (s:=21) hx rfl ?_ ?_
  .exact aI
  .refine pI ?_;intros;rename_i hx
   refine pA ?_;intros;rename_i hx
   refine pA ?_;intros;rename_i hx
   apply Jr (γ:=OA×Nat) hx [] (fun s9 y9 f=>(8,.slice y9.1 s9.length y9.2)::f) [999] (fun s9 y9 l=>.r y9.1 s9.length y9.2 101 3 (s9.flatMap Az)::l);exact kk
   .exact aI
   .refine pI ?_;intros;rename_i hx
    (with_reducible apply Ae2 29 (sz:=2));exact rfl;exact aT;exact inferInstance;exact dL;exact (fun _=>rfl);exact rfl;exact rfl;exact sA
    refine pq ?_;intros;rename_i hx
    refine Bb 101 3 ?_;apply Lr (γ:=OA×Nat×OA×Nat×Nat) hx [0,1] (fun s0 y0 f=>(6,.slice y0.1 s0.1.length y0.2.1)::(7,.map (some y0.2.2.2.2))::(8,.slice y0.2.2.1 s0.2.2.length y0.2.2.2.1)::f) [999] (fun s0 y0 l=>.r y0.2.2.1 s0.2.2.length y0.2.2.2.1 101 3 (s0.2.2.flatMap Az)::Be prog 103 At By y0.2.2.2.2 s0.2.1 :: .r y0.1 s0.1.length y0.2.1 103 2 (s0.1.flatMap Ar)::l) (_,_,_,_,_);exact kk;exact sk;intro s0 y0 x0 hx _;unfold Fp at hx;refine pq ?_;intros;rename_i hx
    refine Cq1e (s:=33) hx rfl cQ ?_ ?_
    .refine pI ?_;intros;rename_i hx
     refine Cq3 (s:=47) hx rfl ?_ ?_
     .refine pI ?_;intros;rename_i hx
      (with_reducible apply Yg 6);exact rfl;exact aT;(with_reducible assumption);exact rfl;exact (fun _=>rfl);exact sA
      exact au
     .refine pI ?_;intros;rename_i hx
      refine Cq1e (s:=56) hx rfl cQ ?_ ?_
      .refine pI ?_;intros;rename_i hx
       (with_reducible apply Yg 6);exact rfl;exact aT;(with_reducible assumption);exact rfl;exact (fun _=>rfl);exact sA
       exact au
      .refine pI ?_;intros;rename_i hx
       (with_reducible apply Yg 6);exact rfl;exact aT;(with_reducible assumption);exact rfl;exact (fun _=>rfl);exact sA
       refine pq ?_;intros;rename_i hx
       apply Lr (γ:=OA×Nat×Nat) hx [0,1,8,11] (fun s1 y1 f=>(6,.slice y1.1 s1.1.length y1.2.1)::(7,.map (some y1.2.2))::(70,iq s1.2.2)::f) [0,2,999] (fun s1 y1 l=>.r y1.1 s1.1.length y1.2.1 103 2 (s1.1.flatMap Ar)::Be prog 103 At By y1.2.2 s1.2.1::l) (_,_,_);exact kk;exact sk;intro s1 y1 x1 hx _;unfold Ch at hx;exact au
    .exact aI
 .exact aI⟩
instance(p0:List Ae)(p1:List Ac):Con (Kr p0 p1) prog 82 (fun K vs=>∃U0 E0 U1 E1,vs=[.slice U0 p0.length E0,.slice U1 p1.length E1]/\Has K U0 p0.length E0 4 Al p0/\Has K U1 p1.length E1 2 Ar p1/\True) (fun _ r=>fun v Ln=>∃A0 c0 A2 c2 A4 c4,v=.tuple #[.agg #[.slice A0 r.1.V.length c0,.slice A2 r.1.T.length c2,.slice A4 r.1.Lines.length c4],iq r.2]/\Ln=[.r A0 r.1.V.length c0 108 4 (r.1.V.flatMap Al),.r A2 r.1.T.length c2 101 3 (r.1.T.flatMap Az),.r A4 r.1.Lines.length c4 103 2 (r.1.Lines.flatMap Ar)]/\True):=⟨by
 rintro K _ r ⟨U0,E0,U1,E1,rfl,ha0,ha1,-⟩ hx w hK;replace ha0:=ha0.lo hK;replace ha1:=ha1.lo hK;unfold Kr at hx;refine CtS ntmps82 results82 ?_;refine pq ?_;intros;rename_i hx
 refine Cq2 (s:=14) hx rfl ?_ ?_
 .exact aI
 .refine pI ?_;intros;rename_i hx
  refine pA ?_;intros;rename_i hx
  apply Jr (γ:=OA×Nat) hx [0,1,4] (fun s7 y7 f=>(7,.slice y7.1 s7.length y7.2)::f) [0,999] (fun s7 y7 l=>.r y7.1 s7.length y7.2 108 4 (s7.flatMap Al)::l);exact kk
  .exact aI
  .refine pI ?_;intros;rename_i hx
   refine Bb 108 4 ?_;apply Lr (γ:=OA×Nat) hx [0,1,4,18] (fun s0 y0 f=>(7,.slice y0.1 s0.1.length y0.2)::(19,iq s0.2)::f) [1,999] (fun s0 y0 l=>.r y0.1 s0.1.length y0.2 108 4 (s0.1.flatMap Al)::l) (_,_);exact kk;exact sk;intro s0 y0 x0 hx _;unfold Jn at hx;exact au⟩
theorem Aia(v:List Ae):Qi v []=some 0:=by
 unfold Qi;rw[jn_d,Ay];unfold Tw;try dsimp only
 rw[if_neg s_];try dsimp only
 rw[Ad];try dsimp only
 rw[jn_d,Ay];unfold Sq;try dsimp only
 rw[if_neg s_];rfl
theorem Apr:Wi []=some []:=by
 unfold Wi;rw[jn_d,Ay];unfold Yd;try dsimp only
 rw[if_neg s_];try dsimp only
 rw[Ad];try dsimp only
 rw[gd_t s_];rw[show Bi cmp2 []=[] from by simp[Bi]]
theorem Ajj:lfix (Vb []) ()=some ():=by
 rw[Ay];unfold Vb;rw[if_neg s_]
theorem Aib{v:List Ae}(h:Ahp v):Vh v [] :=
 ⟨List.Pairwise.nil,List.nodup_nil,fun t=>⟨fun h=>(by cases h),fun g=>(by have:=h _ _ _ g.2.2.1 g.2.2.2.1 g.2.2.2.2.1;have:=g.2.2.2.2.2.1;omega)⟩⟩
theorem Ane{v:List Ae}(h:Vs v=0):∃T,Rx v []=some (⟨v,T,[]⟩,0)/\Vh v T:=by
 obtain⟨hn,_,hv⟩:=Agp h;obtain⟨l,hl,hr⟩:=Amt hv hn;obtain⟨m,h1,h2⟩:=Ay1 hv hn hr [];unfold Rx;rw[Agq,h,Ad,if_pos rfl,Aia,Ad,if_pos rfl,Apr,Ad,hl,Ad,h1,Ad,jn_d];dsimp only;have hcl:Pm v=some v:=by
  unfold Pm;rw[gd_t oo]
 rcases h2 with⟨h3,rfl⟩|⟨h3,h4,h5,h6,h7⟩
 .rw[if_neg s_];have ht:=Aeb (n:=v.length) hn (b:=⟨v,[],[]⟩) ⟨List.Pairwise.nil,s_⟩;rw[hcl,Ad,ht,Ad];exact⟨_,rfl,by simpa[Bi] using Aib h3⟩
 .have hpos:0<m.length:=List.length_pos_iff.2 h7;rw[if_pos oo,jn_d,Ajj,Ad];obtain⟨m',g1,g2,g3⟩:=Ath (b:=⟨v,m,[]⟩) hv hn h4 h5;rw[g1,Ad];dsimp only at g1 g2 g3 ⊢;have ht:=Aeb (n:=v.length) hn (b:=⟨v,m',[]⟩) g2.map;rw[hcl,Ad,ht,Ad];refine⟨_,rfl,Bbn g2.map (Aox hv g2.map g2.tri (g3.cov _ h6) (fun i j k l hk hl=>?_) ?_)⟩
  .rcases g2.pend i j k l hk hl with q|q|q
   .cases q
   .unfold Fx mget at q;simp at q
   .exact q
  .exact g3.ne h7
theorem Aj7{v:List Ae}(lines:List Ac)(h:Vs v≠0):Rx v lines=some (⟨[],[],[]⟩,Vs v):=by
 unfold Rx;rw[Agq,Ad,if_neg h]
section
variable {α:Type}{lt:α->α->Bool}
theorem Awn(htr:∀ x y z,lt y x=false->lt z y=false->lt z x=false)(has:∀ x y,lt x y=true->lt y x=false){B:List α × Int->Option (Sum (List α × Int) (List α))}(hB:∀ (A:List α) (y x:α) (R:List α),A.length<=100000000->B (A++y::x::R,((A.length+1:Nat):Int))=if lt x y=true then some (.inl (A++x::y::R,(A.length:Int))) else some (.inr (A++y::x::R)))(hB0:∀ (x:α) (R:List α),B (x::R,0)=some (.inr (x::R))):
  ∀(n:Nat) (A C D:List α) (x:α),A.length=n->n<=100000000->((A++C).Pairwise fun x y=>lt y x=false)->(∀c∈C,lt x c=true)->∃A' C',A'++C'=A++C/\lfix B (A++x::(C++D),(A.length:Int))=some (A'++x::(C'++D))/\(A'++x::C').Pairwise fun x y=>lt y x=false:=by
 intro n
 induction n with
 |zero=>
  intro A C D x hA _ hs hc;have:A=[]:=List.eq_nil_of_length_eq_zero hA;subst this;refine⟨[],C,rfl,?_,?_⟩
  .rw[List.nil_append,Ay,show ((([]:List α).length:Nat):Int)=0 from rfl,hB0]
  .exact List.pairwise_cons.2 ⟨fun c hc'=>has _ _ (hc c hc'),hs⟩
 |succ n ih=>
  intro A C D x hA hn hs hc;obtain⟨A',y,rfl⟩:∃A' y,A=A'++[y]:=⟨A.dropLast,A.getLast (fun e=>by rw[e] at hA;simp at hA),(List.dropLast_concat_getLast _).symm⟩;have hA':A'.length=n:=by simpa using hA
  have e1:(A'++[y])++x::(C++D)=A'++y::x::(C++D):=s_;have e2:(((A'++[y]).length:Nat):Int)=((A'.length+1:Nat):Int):=s_;rw[e1,e2,Ay,hB _ _ _ _ oo]
  by_cases c:lt x y=true
  .rw[if_pos c];dsimp only;obtain⟨A2,C2,g1,g2,g3⟩:=ih A' (y::C) D x hA' oo (by simpa using hs) (fun z hz=>by rcases List.mem_cons.1 hz with rfl|hz;exact c;exact hc z hz);exact⟨A2,C2,by rw[g1];simp,g2,g3⟩
  .rw[if_neg c];have c':lt x y=false:=by simpa using c
   refine⟨A'++[y],C,rfl,s_,?_⟩;rw[List.pairwise_append] at hs⊢;obtain⟨h1,h2,h3⟩:=hs;refine⟨h1,List.pairwise_cons.2 ⟨fun z hz=>has _ _ (hc z hz),h2⟩,fun z hz w hw=>?_⟩;rcases List.mem_cons.1 hw with rfl|hw
   .rw[List.pairwise_append] at h1;rcases List.mem_append.1 hz with hz|hz
    .exact htr _ _ _ (h1.2.2 z hz y s_) c'
    .rw[List.mem_singleton] at hz;subst hz;exact c'
   .exact h3 z hz w hw
theorem Anf(htr:∀ x y z,lt y x=false->lt z y=false->lt z x=false)(has:∀ x y,lt x y=true->lt y x=false){B:List α × Int->Option (Sum (List α × Int) (List α))}{B2:List α × Int->Option (Sum (List α × Int) (List α))}{p:List α}(hB:∀ (A:List α) (y x:α) (R:List α),A.length<=100000000->B (A++y::x::R,((A.length+1:Nat):Int))=if lt x y=true then some (.inl (A++x::y::R,(A.length:Int))) else some (.inr (A++y::x::R)))(hB0:∀ (x:α) (R:List α),B (x::R,0)=some (.inr (x::R)))(hp:p.length<=100000000)(h2:∀ (l:List α) (k:Nat),k<p.length->B2 (l,(k:Int))=bnd (lfix B (l,(k:Int))) fun t=>some (.inl (t,((k+1:Nat):Int))))(h3:∀ l:List α,B2 (l,(p.length:Int))=some (.inr l)):
  ∃r,lfix B2 (p,0)=some r/\r.Perm p/\r.Pairwise fun x y=>lt y x=false:=by
 refine Aw (B:=B2) (fun s=>p.length-s.2.toNat) (fun s=>∃S D:List α,s=(S++D,(S.length:Int))/\(S++D).Perm p/\S.Pairwise fun x y=>lt y x=false) _ (fun s hs=>?_) _ ⟨[],p,rfl,List.Perm.refl _,List.Pairwise.nil⟩;obtain⟨S,D,rfl,h4,h5⟩:=hs;have hlen:=h4.length_eq;rw[List.length_append] at hlen;rcases D with _|⟨x,D⟩
 .right;have:S.length=p.length:=by simpa using hlen
  rw[this,h3];exact⟨_,rfl,h4,by simpa using h5⟩
 .left;rw[List.length_cons] at hlen;rw[h2 _ _ oo];obtain⟨A',C',g1,g2,g3⟩:=Awn htr has hB hB0 S.length S [] D x rfl oo (by simpa using h5) (fun c hc=>(by cases hc));rw[List.append_nil] at g1;rw[List.nil_append] at g2;rw[g2,Ad];have hl:A'.length+C'.length=S.length:=by rw[<-List.length_append,g1]
  have e:(A'++x::(C'++D))=(A'++x::C')++D:=s_;refine⟨_,rfl,⟨A'++x::C',D,by rw[e,List.length_append,List.length_cons,<-hl];congr 2,?_,g3⟩,by dsimp only;omega⟩;rw[<-e];refine List.Perm.trans ?_ h4;rw[<-g1];have:(A'++x::(C'++D)).Perm (x::(A'++(C'++D))):=List.perm_middle;refine this.trans ?_;have:((A'++C')++x::D).Perm (x::((A'++C')++D)):=List.perm_middle;rw[<-List.append_assoc];exact this.symm
end
theorem All{α:Type}(A:List α)(y x:α)(R:List α):idx (A++y::x::R) (A.length:Int)=some y/\idx (A++y::x::R) ((A.length+1:Nat):Int)=some x:=by
 constructor
 .rw[Am s_];simp
 .rw[Am s_];simp
theorem Bab(x y:Ag):Qd x y=some (decide (cmp3 x y<0)):=by
 obtain⟨x0,x1,x2⟩:=x;obtain⟨y0,y1,y2⟩:=y;have step:∀(a b c a' b' c':Int) (i:Int) (h:Int),w64 (i+1)=h->∀p q,i<3->idx [a,b,c] i=some p->idx [a',b',c'] i=some q->Ho ⟨a,b,c⟩ ⟨a',b',c'⟩ i=if p=q then some (.inl h) else some (.inr (.inr (decide (p<q)))):=by
  intro a b c a' b' c' i h hh p q hi hp hq;unfold Ho;dsimp only;rw[if_pos hi,hp,Ad,hq,Ad,Ad,Ad,hh]
 have w1:w64 (0+1)=1:=Aq oo oo;have w2:w64 (1+1)=2:=Aq oo oo;have w3:w64 (2+1)=3:=Aq oo oo;have s0:=step x0 x1 x2 y0 y1 y2 0 1 w1 x0 y0 oo rfl rfl;have s1:=step x0 x1 x2 y0 y1 y2 1 2 w2 x1 y1 oo rfl rfl;have s2:=step x0 x1 x2 y0 y1 y2 2 3 w3 x2 y2 oo rfl rfl;have s3:Ho ⟨x0,x1,x2⟩ ⟨y0,y1,y2⟩ 3=some (.inr (.inl ())):=by unfold Ho;rw[if_neg oo]
 unfold Qd;rw[jn_d,Ay,s0];have key:∀P:Prop,∀Q:Prop,[Decidable P]->[Decidable Q]->(P↔Q)->some (decide P)=some (decide Q):=fun P Q _ _ h=>by rw[decide_eq_decide.2 h]
 have hc:=Acq ⟨x0,x1,x2⟩ ⟨y0,y1,y2⟩;dsimp only at hc
 by_cases h0:x0=y0
 .rw[if_pos h0];dsimp only;rw[Ay,s1]
  by_cases h1:x1=y1
  .rw[if_pos h1];dsimp only;rw[Ay,s2]
   by_cases h2:x2=y2
   .rw[if_pos h2];dsimp only;rw[Ay,s3,Ad];dsimp only;rw[decide_eq_false (fun g=>by have:=hc.1 g;omega)]
   .rw[if_neg h2,Ad];dsimp only;exact key _ _ (by rw[hc];omega)
  .rw[if_neg h1,Ad];dsimp only;exact key _ _ (by rw[hc];omega)
 .rw[if_neg h0,Ad];dsimp only;exact key _ _ (by rw[hc];omega)
theorem Aps(p:List Ag)(hp:p.length<=100000000):∃r,Nf p=some r/\r.Perm p/\r.Pairwise fun x y=>¬cmp3 y x<0:=by
 have:=Anf (lt:=fun x y:Ag=>decide (cmp3 x y<0)) (B:=Ip) (B2:=Iq p) (p:=p)
  (fun x y z h1 h2=>by
   simp only[decide_eq_false_iff_not,Acq] at *;omega)
  (fun x y h=>by
   simp only[decide_eq_false_iff_not,decide_eq_true_eq,Acq] at *;omega)
  (fun A y x R hA=>by
   obtain⟨i0,i1⟩:=All A y x R;have w1:w64 (((A.length+1:Nat):Int)-1)=(A.length:Int):=by rw[Aq oo oo];omega
   unfold Ip;dsimp only;rw[jn_d,if_pos oo,w1,i1,Ad,i0,Ad,Bab,Ad]
   by_cases c:decide (cmp3 x y<0)=true
   .have e1:(A++y::x::R).set (A.length+1) y=A++y::y::R:=by simp[List.set_append]
    have e2:(A++y::y::R).set A.length x=A++x::y::R:=by simp[List.set_append]
    have j0:∃z,idx (A++y::y::R) (A.length:Int)=some z:=⟨_,(All A y y R).1⟩;obtain⟨z,j0⟩:=j0;dsimp only;rw[if_pos c,if_pos c,Ad,Ad,Ad,Io,e1,j0,Ad,Io,e2]
   .dsimp only;rw[if_neg c,if_neg c])
  (fun x R=>by
   unfold Ip;dsimp only;rw[jn_d,if_neg oo];dsimp only;rw[if_neg s_])
  hp
  (fun l k hk=>by
   unfold Iq;dsimp only;rw[if_pos oo,jn_d,show w64 ((k:Int)+1)=((k+1:Nat):Int) from by rw[Aq oo oo];omega])
  (fun l=>by
   unfold Iq;dsimp only;rw[if_neg oo])
 obtain⟨r,h1,h2,h3⟩:=this;refine⟨r,?_,h2,h3.imp fun h=>by simpa using h⟩;unfold Nf;rw[jn_d,h1,Ad]
variable {v:List Ae}
theorem Atz{a b c:Int}(h:Del v a b c):∃t,Ng ⟨a,b,c⟩=some t/\Akv v t/\Ty t a b/\(∀p q,Ty t p q↔Ty ⟨a,b,c⟩ p q):=by
 have hn:=Aat (P:=plV v) (a:=a) (b:=b) (c:=c) (by have:=h.2.2.2.1;omega);have stop:∀x y z:Int,¬y<x->¬z<x->Fo (x,y,z)=some (.inr (x,y,z)):=fun x y z h1 h2=>by
  unfold Fo;dsimp only;rw[jn_d,if_neg h1,decide_eq_false h2];dsimp only;rw[if_neg s_]
 have more:∀x y z:Int,y<x\/z<x->Fo (x,y,z)=some (.inl (y,z,x)):=fun x y z h1=>by
  unfold Fo;dsimp only;rw[jn_d]
  by_cases c:y<x
  .rw[if_pos c];dsimp only;rw[if_pos rfl]
  .rw[if_neg c,decide_eq_true (h1.resolve_left c)];dsimp only;rw[if_pos rfl]
 unfold Ng;rw[jn_d];dsimp only
 by_cases h1:b<a\/c<a
 .rw[Ay,more _ _ _ h1];dsimp only
  by_cases h2:c<b\/a<b
  .rw[Ay,more _ _ _ h2];dsimp only;rw[Ay,stop _ _ _ oo oo,Ad];refine⟨_,rfl,⟨by dsimp only;omega,by dsimp only;omega,h.rot.rot⟩,.inr (.inl ⟨rfl,rfl⟩),fun p q=>?_⟩;unfold Ty;dsimp only;omega
  .rw[Ay,stop _ _ _ oo oo,Ad];refine⟨_,rfl,⟨by dsimp only;omega,by dsimp only;omega,h.rot⟩,.inr (.inr ⟨rfl,rfl⟩),fun p q=>?_⟩;unfold Ty;dsimp only;omega
 .rw[Ay,stop _ _ _ oo oo,Ad];exact⟨_,rfl,⟨by dsimp only;omega,by dsimp only;omega,h⟩,.inl ⟨rfl,rfl⟩,fun p q=>Iff.rfl⟩
theorem Bc4{n:Nat}(hn:n<=1024){t:Ag}(h0:inN n t.a0)(h1:inN n t.a1)(h2:inN n t.a2){s:List Ac × (List (Ac × Bool)) × List Ag}{op:List Ac}{dn:List (Ac × Bool)}(hop:op.length<=10000000)(hdn:dn.length<=10000000)(hpl:∀ (m:List (Ac × Bool)) (x:Ac),(mput m x true).length<=m.length+1):
  lfix (Ch t s) (op,dn,0)=some (op++[⟨t.a1,t.a0⟩,⟨t.a2,t.a1⟩,⟨t.a0,t.a2⟩],mput (mput (mput dn ⟨t.a0,t.a1⟩ true) ⟨t.a1,t.a2⟩ true) ⟨t.a2,t.a0⟩ true,s.2.2++[t]):=by
 unfold inN at h0 h1 h2;have step:∀ (op:List Ac) (dn:List (Ac × Bool)) (i j:Int) (p q:Int),op.length<=20000000->dn.length<=20000000->0<=i->i<3->Int.tmod (w64 (i+1)) 3=j->idx [t.a0,t.a1,t.a2] i=some p->idx [t.a0,t.a1,t.a2] j=some q->(0<=p/\p<1024)->(0<=q/\q<1024) ->
   Ch t s (op,dn,i)=some (.inl (op++[⟨q,p⟩],mput dn ⟨p,q⟩ true,i+1)):=fun op dn i j p q ho hd hi hi3 hj hp hq hpr hqr=>by
  unfold Ch;dsimp only;rw[if_pos hi3,hp,Ad,hj,hq,Ad,gd_t ⟨⟨oo,oo⟩,oo,oo⟩,gd_t oo,gd_t oo,Aq oo oo]
 have last:∀(op:List Ac) (dn:List (Ac×Bool)),Ch t s (op,dn,3)=some (.inr (op,dn,s.2.2++[t])):=fun op dn=>by
  unfold Ch;dsimp only;rw[if_neg oo]
 have l1:=hpl dn ⟨t.a0,t.a1⟩;have l2:=hpl (mput dn ⟨t.a0,t.a1⟩ true) ⟨t.a1,t.a2⟩;have m0:Int.tmod (w64 (0+1)) 3=1:=by rw[Aq oo oo];rfl
 have m1:Int.tmod (w64 (1+1)) 3=2:=by rw[Aq oo oo];rfl
 have m2:Int.tmod (w64 (2+1)) 3=0:=by rw[Aq oo oo];rfl
 rw[Ay,step op dn 0 1 t.a0 t.a1 oo oo oo oo m0 rfl rfl oo oo];dsimp only;rw[Ay,show (0:Int)+1=1 from rfl,step _ _ 1 2 t.a1 t.a2 (by simp;omega) oo oo oo m1 rfl rfl oo oo];dsimp only;rw[Ay,show (1:Int)+1=2 from rfl,step _ _ 2 0 t.a2 t.a0 (by simp;omega) oo oo oo m2 rfl rfl oo oo];dsimp only;rw[Ay,show (2:Int)+1=3 from rfl,last];simp
def dnM(m:List (Ac×Bool))(p q:Int):Prop:=(mget m ⟨p,q⟩).getD false=true
theorem Ag8{m:List (Ac×Bool)}(hm:Cv m)(x y p q:Int):dnM (mput m ⟨x,y⟩ true) p q↔dnM m p q\/(p=x/\q=y):=by
 unfold dnM;rw[Lx hm]
 by_cases h:(⟨p,q⟩:Ac)=⟨x,y⟩
 .rw[if_pos h];simp only[Ac.mk.injEq] at h;simp[h]
 .rw[if_neg h];simp only[Ac.mk.injEq] at h;exact⟨.inl,fun g=>g.elim id fun g=>absurd g h⟩
theorem Zp(m:List (Ac×Bool))(x:Ac):(mput m x true).length<=m.length+1:=by
 unfold mput;have:(mdel m x).length<=m.length:=List.length_filter_le _ _;simp only[List.length_cons,List.length_append,List.length_nil];omega
theorem Aic(hv:Ie v)(hn:v.length<=1024){p0 q0:Int}(h0:okS v p0 q0)(hs:∃ e,Del v p0 q0 e):
  ∃out,lfix (Fp v []) ([⟨p0,q0⟩],([]:List (Ac×Bool)),([]:List Ag))=some out/\out.Nodup/\out.length<=1048576/\∀t,t∈out↔t.a0<t.a1/\t.a0<t.a2/\Del v t.a0 t.a1 t.a2:=by
 have hsq:=Af0 hn;refine Aw (B:=Fp v []) (fun s=>4*(v.length*v.length-s.2.2.length)+s.1.length)
  (fun s=>Tr v p0 q0 s.1 (dnM s.2.1) s.2.2/\Cv s.2.1/\s.2.1.length+s.1.length<=1+6*s.2.2.length) _ (fun s hst=>?_) _ ⟨Tr.init h0 (fun p q h=>by simp[dnM,Am9] at h),List.Pairwise.nil,s_⟩
 obtain⟨op,dn,out⟩:=s;obtain⟨h1,h2,h3⟩:=hst;dsimp only at h1 h2 h3;have hb:=h1.bound;have hl:=h1.len;unfold Fp;dsimp only
 by_cases hop:op=[]
 .right;subst hop;rw[if_neg s_];exact⟨_,rfl,h1.nd,oo,h1.full hs⟩
 .left;obtain⟨r,s,rfl⟩:∃r s,op=r++[s]:=⟨op.dropLast,op.getLast hop,(List.dropLast_concat_getLast hop).symm⟩;obtain⟨s1,s2,s3⟩:=h1.opn s s_;have hln:(r++[s]).length=r.length+1:=s_;have w1:w64 ((((r++[s]).length:Nat):Int)-1)=(r.length:Int):=by rw[hln,Aq oo oo];omega
  have i1:idx (r++[s]) (r.length:Int)=some s:=by rw[Am s_];simp
  have tk:List.take (Int.toNat (r.length:Int)) (r++[s])=r:=s_;have hr1:=Uq hn s1 s2;rw[if_pos oo,w1,i1,Ad,gd_t ⟨oo,oo⟩,gd_t hr1,Ad,tk]
  by_cases c1:(mget dn s).getD false=true
  .rw[if_pos c1];exact⟨_,rfl,⟨h1.skip c1,h2,by dsimp only;omega⟩,by dsimp only;omega⟩
  .rw[if_neg c1];obtain⟨c,e1,e2⟩:=Al8 hv hn s1 s2;rw[e1,Ad];have hput:=Zp dn s
   by_cases c2:c<0
   ·have hno:noT v s.a0 s.a1:=by
     rcases e2 with⟨_,g⟩|g
     .exact g
     .have:=g.1.1;omega
    rw[if_pos c2,gd_t hr1,gd_t oo];exact⟨_,rfl,⟨h1.none (fun p q=>Ag8 h2 s.a0 s.a1 p q) hno,h2.put _ _,by dsimp only;omega⟩,by dsimp only;omega⟩
   ·have ht:Top v s.a0 s.a1 c:=by
     rcases e2 with⟨g,_⟩|g
     .omega
     .exact g
    have hd:Del v s.a0 s.a1 c:=by
     rcases s3 with g|⟨e,he⟩
     .have:=g c ht.1;have:=ht.2.1;omega
     .rw[<-he.top.unique ht];exact he
    obtain⟨t,t1,t2,t3,t4⟩:=Atz hd;have tin:inN v.length t.a0/\inN v.length t.a1/\inN v.length t.a2:=⟨t2.2.2.1,t2.2.2.2.1,t2.2.2.2.2.1⟩;have hnew:=h1.more (dn':=dnM (mput (mput (mput dn ⟨t.a0,t.a1⟩ true) ⟨t.a1,t.a2⟩ true) ⟨t.a2,t.a0⟩ true)) c1 t2 t3 (fun p q=>by
      rw[Ag8 ((h2.put _ _).put _ _),Ag8 (h2.put _ _),Ag8 h2];unfold Ty;constructor
      .rintro (((g|g)|g)|g)
       .exact .inl g
       .exact .inr (.inl g)
       .exact .inr (.inr (.inl g))
       .exact .inr (.inr (.inr g))
      .rintro (g|g|g|g)
       .exact .inl (.inl (.inl g))
       .exact .inl (.inl (.inr g))
       .exact .inl (.inr g)
       .exact .inr g) (fun p q hpq=>by
      obtain⟨e,he⟩:=t2.side hpq;refine⟨he.2.1,he.1,?_⟩;obtain⟨x,_,hx⟩:=Al8 hv hn he.2.1 he.1;rcases hx with⟨_,hx⟩|hx
      .exact .inl hx
      .exact .inr ⟨x,Top.across he hx⟩)
    have hb2:=hnew.bound;rw[List.length_append,List.length_singleton] at hb2;have q1:=Zp dn ⟨t.a0,t.a1⟩;have q2:=Zp (mput dn ⟨t.a0,t.a1⟩ true) ⟨t.a1,t.a2⟩;have q3:=Zp (mput (mput dn ⟨t.a0,t.a1⟩ true) ⟨t.a1,t.a2⟩ true) ⟨t.a2,t.a0⟩;rw[if_neg c2,t1,Ad,gd_t oo,Bc4 hn tin.1 tin.2.1 tin.2.2 oo oo Zp,Ad];refine⟨_,rfl,⟨hnew,((h2.put _ _).put _ _).put _ _,?_⟩,?_⟩
    .dsimp only;simp only[List.length_append,List.length_cons,List.length_nil];rw[hln] at h3;omega
    .dsimp only;simp only[List.length_append,List.length_cons,List.length_nil];omega
theorem Awo(hv:Ie v)(hn:v.length<=1024){f b:Int}(hf:inN v.length f)(low:∀k,inN v.length k->k=f\/befP (plV v f) (plV v k))(hb:inN v.length b)(hbf:b≠f)(hh:∀k,inN v.length k->k≠f->behind v f b k)(hfl:¬Ahp v):∃e,Del v f b e:=by
 obtain⟨c,_,hc⟩:=Al8 hv hn hf hb;have left:∀d,inN v.length d->0<=crs (plV v f) (plV v b) (plV v d):=fun d hd=>by
  by_cases e:d=f
  .rw[e,Gt];exact Int.le_refl _
  .rcases hh d hd e with g|g <;> omega
 rcases hc with⟨_,hc⟩|hc
 .exfalso;have on:∀d,inN v.length d->crs (plV v f) (plV v b) (plV v d)=0:=fun d hd=>by have:=left d hd;have:=hc d hd;omega
  exact hfl fun i j k hi hj hk=>Aea (Aah hv hf hb (fun e=>hbf e.symm)) (on i hi) (on j hj) (on k hk)
 ·refine⟨c,hc.hull hv hf hb left fun d hd n1 n2 h0 x hx=>?_⟩;have h1:befP (plV v f) (plV v b):=(low b hb).resolve_left hbf;have h2:befP (plV v b) (plV v d):=by
   rcases hh d hd n1 with g|g
   .omega
   .exact (Px (Aah hv hb hd (fun e=>n2 e.symm))).resolve_right g.2
  exact Aq3 (hv.ok _ hf) (hv.ok _ hb) (hv.ok _ hd) h1 h2 h0 hx
theorem Awp(hv:Ie v)(hn:v.length<=1024)(h0:0<v.length):∃f,inN v.length f/\∀k,inN v.length k->k=f\/befP (plV v f) (plV v k):=by
 obtain⟨l,hl,hr⟩:=Amt hv hn;have hlen:=hr.len;have g0:0<l.length:=oo;refine⟨l[0],hr.val.1 (List.getElem_mem g0),fun k hk=>?_⟩;obtain⟨j,hj,rfl⟩:=List.getElem_of_mem (hr.val.2 hk)
 by_cases e:j=0
 .subst e;exact .inl rfl
 .exact .inr (hr.lt g0 hj oo)
theorem Ang(hv:Ie v)(h3:3<=v.length):(∀k,2<=k->inN v.length k->crs (plV v 0) (plV v 1) (plV v k)=0)↔Ahp v:=by
 have i0:inN v.length 0:=⟨oo,oo⟩;have i1:inN v.length 1:=⟨oo,oo⟩;constructor
 ·intro h i j k hi hj hk;have on:∀ d,inN v.length d->crs (plV v 0) (plV v 1) (plV v d)=0:=fun d hd=>by
   by_cases e0:d=0
   .subst e0;exact Gt _ _
   .by_cases e1:d=1
    .subst e1;exact Cd _ _
    .exact h d (by have:=hd.1;omega) hd
  exact Aea (Aah hv i0 i1 oo) (on i hi) (on j hj) (on k hk)
 .intro h k _ hk;exact h 0 1 k i0 i1 hk
theorem Ajk(hv:Ie v)(hn:v.length<=1024):∃T,Ir v []=some T/\Vh v T:=by
 unfold Ir;rw[jn_d];have flatT:Ahp v->∃T,(some ([]:List Ag))=some T/\Vh v T:=fun h=>⟨[],rfl,Aib h⟩
 by_cases c:v.length<3
 .rw[if_pos oo];dsimp only;rw[if_pos rfl];refine flatT fun i j k hi hj hk=>?_
  unfold inN at hi hj hk;have:i=j\/j=k\/i=k:=oo;rcases this with rfl|rfl|rfl
  .exact Aac _ _
  .exact Cd _ _
  .exact Gt _ _
 .rw[if_neg oo];obtain⟨x,f1,f2⟩:=Bbq hv hn;rw[f1,Ad];dsimp only
  by_cases hx:x=true
  .rw[if_pos hx];exact flatT ((Ang hv oo).1 (f2.1 hx))
  .rw[if_neg hx];have hfl:¬Ahp v:=fun g=>hx (f2.2 ((Ang hv oo).2 g))
   obtain⟨f,hf,low⟩:=Awp hv hn oo;obtain⟨b,b1,b2,b3,b4⟩:=Au2 hv hn hf low oo;obtain⟨e,he⟩:=Awo hv hn hf low b2 b3 b4 hfl;obtain⟨out,o1,o2,o3,o4⟩:=Aic hv hn ⟨hf,b2,.inr ⟨e,he⟩⟩ ⟨e,he⟩;obtain⟨r,r1,r2,r3⟩:=Aps out oo;rw[first_eq hn hf low,Ad,b1,Ad,jn_d,o1,Ad];dsimp only;rw[r1,Ad];exact⟨r,rfl,r3,r2.nodup_iff.2 o2,fun t=>by rw[r2.mem_iff];exact o4 t⟩
theorem Adm(v:List Ae):Hm v []=some 0:=by
 unfold Hm;rw[jn_d,Ay];unfold Oe;try dsimp only
 rw[if_neg s_];try dsimp only
 rw[Ad];try dsimp only
 rw[jn_d,Ay];unfold Mi;try dsimp only
 rw[if_neg s_];rfl
theorem Awq(v:List Ae)(hn:v.length<=1024):lfix (Jn v) (([]:List Ae),0)=some v:=by
 have:=Aw (B:=Jn v) (fun s=>v.length-s.2.toNat) (fun s=>∃k:Nat,k<=v.length/\s=(v.take k,(k:Int))) (fun t=>t=v) (fun s hs=>by
  obtain⟨k,hk,rfl⟩:=hs;unfold Jn;dsimp only
  by_cases hk2:k<v.length
  .left;rw[if_pos oo,Am hk2,Ad,gd_t (by rw[List.length_take];omega),show w64 ((k:Int)+1)=((k+1:Nat):Int) from by rw[Aq oo oo];omega];exact⟨_,rfl,⟨k+1,hk2,by rw[List.take_succ_eq_append_getElem hk2]⟩,by dsimp only;omega⟩
  .right;rw[if_neg oo];have:k=v.length:=oo;subst this;exact⟨_,rfl,by rw[List.take_length]⟩) (([]:List Ae),0) ⟨0,oo,s_⟩
 obtain⟨t,ht,rfl⟩:=this;exact ht
theorem Agt:Dk []=some []:=by
 unfold Dk;rw[jn_d,Ay];unfold Hg;try dsimp only
 rw[if_neg s_];try dsimp only
 rw[Ad];try dsimp only
 rw[jn_d,Ay];unfold Em;try dsimp only
 rw[if_neg s_];rfl
theorem Aej{v:List Ae}(h:Vs v=0):∃T,Kr v []=some (⟨v,T,[]⟩,0)/\Rx v []=some (⟨v,T,[]⟩,0)/\Vh v T:=by
 obtain⟨hn,_,hv⟩:=Agp h;obtain⟨T,t1,t2⟩:=Ane h;obtain⟨T',e1,e2⟩:=Ajk hv hn;have:T'=T:=e2.unique t2;subst this;refine⟨T',?_,t1,t2⟩;unfold Kr Sm;rw[Agy,h,Ad,if_pos rfl,Adm,Ad,Ad,if_pos rfl,jn_d,Awq v hn,Ad,Agt];dsimp only;rw[Ad,e1,Ad]
end
def Rn(p0:Aa)(p1:Aa):Option Int :=
 some (w64 (p0.Id-p1.Id))
instance Afh(p0:Aa)(p1:Aa):Con (Rn p0 p1) prog 153 (fun _ vs=>vs=[.agg #[iq p0.Id,iq p0.X,iq p0.Y,iq p0.Z.Lo,iq p0.Z.Hi,iq p0.Wide,iq p0.Num,iq p0.Of,iq p0.Class],.agg #[iq p1.Id,iq p1.X,iq p1.Y,iq p1.Z.Lo,iq p1.Z.Hi,iq p1.Wide,iq p1.Num,iq p1.Of,iq p1.Class]]) (fun _ r=>fun v Ln=>v=iq r/\Ln=[]/\True):=⟨by
 rintro _ _ r rfl hx w hK;unfold Rn at hx;refine CtS ntmps153 results153 ?_;exact au⟩
theorem Aek(p0:Aa)(p1:Aa){r:Int}(hx:Rn p0 p1=some r)(w:World):CtL prog 153 [.agg #[iq p0.Id,iq p0.X,iq p0.Y,iq p0.Z.Lo,iq p0.Z.Hi,iq p0.Wide,iq p0.Num,iq p0.Of,iq p0.Class],.agg #[iq p1.Id,iq p1.X,iq p1.Y,iq p1.Z.Lo,iq p1.Z.Hi,iq p1.Wide,iq p1.Num,iq p1.Of,iq p1.Class]] w fun v Ln=>v=iq r/\Ln=[]/\True:=(Afh p0 p1).h [] _ _ rfl hx w (fun _ h=>absurd h List.not_mem_nil)
section
open Go.Shelf Go.Lib Go.Sort
def Aj8(l:List Aa):Prop:=(l.map (·.Id)).Nodup/\∀x∈l,0<=x.Id/\x.Id<=1152921504606846976
def ptIn(l:List Aa)(x:Aa):Prop:=x∈l/\Aj8 l
instance(l:List Aa)(x:Aa):Decidable (ptIn l x):=Classical.propDecidable _
def So(x y:Aa):Int:=x.Id-y.Id
theorem Apt{l:List Aa}(h:(l.map (·.Id)).Nodup){x y:Aa}(hx:x∈l)(hy:y∈l)(e:x.Id=y.Id):x=y:=by
 obtain⟨i,hi,rfl⟩:=List.getElem_of_mem hx;obtain⟨j,hj,rfl⟩:=List.getElem_of_mem hy;have:=List.pairwise_iff_getElem.1 (List.pairwise_map.1 h);rcases Nat.lt_trichotomy i j with g|g|g
 .exact absurd e (this i j hi hj g)
 .subst g;rfl
 .exact absurd e.symm (this j i hj hi g)
theorem totP(l:List Aa):Zq (ptIn l) So where
 irr x _:=by unfold So;omega
 trans x y z _ _ _ h1 h2:=by unfold So at *;omega
 tot x y hx hy h1 h2:=Apt hx.2.1 hx.1 hy.1 (by unfold So at h1 h2;omega)
theorem Apu{l:List Aa}{x y:Aa}(hx:ptIn l x)(hy:ptIn l y):Rn x y=some (So x y):=by
 have h1:=hx.2.2 x hx.1;have h2:=hy.2.2 y hy.1;unfold Rn So;rw[Aq oo oo]
theorem Aid(l:List Aa)(hb:l.length<=1000000000)(hp:∀x∈l,ptIn l x){A:OA}{m c:Nat}{t:TypeId}{gf:Nat}{cb:Array Value}(w:World)(hok:Ent.ok w (.r A m c t 9 (l.flatMap Ah)))(hcmp:Ac4 prog (ptIn l) So (fun x=>.agg #[iq x.Id,iq x.X,iq x.Y,iq x.Z.Lo,iq x.Z.Hi,iq x.Wide,iq x.Num,iq x.Of,iq x.Class]) A m c t 9 gf cb w (l.flatMap Ah))(eg:Wu prog gf):Ac3 prog 60 A m c t 9 gf cb w (l.flatMap Ah) ((Bi So l).flatMap Ah):=
 Adp (ρ:=Tryz.laysSortP_ren) Tryz.laysSortP (k:=9) isAgg30 sizeOf30 (enc:=Ah) (fun _=>rfl) dD (fun x v hv=>by simp[Ah] at hv;rcases hv with rfl|rfl|rfl|rfl|rfl|rfl|rfl|rfl|rfl <;> rfl) (totP l) (Aco eg) l hb hp w hok hcmp
end
instance(x0:Int)(x1:Int)(x2:Int)(x3:Int):Iy prog 108 [(0,iq x0),(1,iq x1),(2,.agg #[iq x2,iq x3])] [iq x0,iq x1,iq x2,iq x3]:=⟨fun w=>kr⟩
instance:UndI prog 186 (.map 3 30):=⟨underlying186⟩
instance:MkI prog 41 30 9 72 Ah ((⟨0,0,0,(⟨0,0⟩:Av),0,0,0,0⟩:Aa)):=⟨t30,.agg #[iq 0,iq 0,iq 0,iq 0,iq 0,iq 0,iq 0,iq 0,iq 0],underlying41,kr,kr,rfl,kr,kr⟩
instance:SrtI prog 60 153 Ah 9 (fun l=>(ptIn l)) So (fun x=>.agg #[iq x.Id,iq x.X,iq x.Y,iq x.Z.Lo,iq x.Z.Hi,iq x.Wide,iq x.Num,iq x.Of,iq x.Class]):=⟨⟨_,func60,rfl,rfl⟩,fun l hb hp A m c t w hok hcm=>Aid l hb hp w hok hcm ⟨_,func153,rfl,rfl⟩,fun _ W x y px py=>⟨[.agg #[iq x.Id,iq x.X,iq x.Y,iq x.Z.Lo,iq x.Z.Hi,iq x.Wide,iq x.Num,iq x.Of,iq x.Class],.agg #[iq y.Id,iq y.X,iq y.Y,iq y.Z.Lo,iq y.Z.Hi,iq y.Wide,iq y.Num,iq y.Of,iq y.Class]],rfl,Aek x y (Apu px py) W⟩⟩
def Qf(p0:List Aa):((List (Int×Aa))×Int)->Option (Sum ((List (Int×Aa))×Int) (List (Int×Aa))):=fun s0=>
 if s0.2<(p0.length:Int) then (bnd (idx p0 s0.2) fun x0=>
 gd ((-9223372036854775808<=x0.Id/\x0.Id<=9223372036854775807))<|
 gd (s0.1.length<9223372036854775807)<|
 some (.inl (mput s0.1 x0.Id x0,w64 (s0.2+1))))
 else (some (.inr s0.1))
def Mr(p1:LI):((List (Int×Aa))×List Aa×Int)->Option (Sum ((List (Int×Aa))×List Aa×Int) (Sum (List Aa) (List Aa×Bool))):=fun s0=>
 if s0.2.2<(p1.length:Int) then (bnd (idx p1 s0.2.2) fun x0=>
 gd ((-9223372036854775808<=x0/\x0<=9223372036854775807))<|
 bnd (some ((mget s0.1 x0).getD ((⟨0,0,0,(⟨0,0⟩:Av),0,0,0,0⟩:Aa)))) fun x1=>
 if ((mget s0.1 x0).isSome)=true then (gd ((-9223372036854775808<=x0/\x0<=9223372036854775807))<|
 gd ((s0.2.1.length+1)*72<=140737488355328)<|
 some (.inl (mdel s0.1 x0,s0.2.1++[x1],w64 (s0.2.2+1))))
 else (some (.inr (.inr (([]:List Aa),false)))))
 else (some (.inr (.inl s0.2.1)))
def Uv(p0:List Aa)(p1:LI):Option (List Aa×Bool):=
 jn (fun (s3:List (Int×Aa))=>
 gd ((0:Int)<=(p1.length:Int)/\72*Int.toNat (p1.length:Int)<=140737488355328)<|
 jn (fun (s0:List Aa)=>
 gd (s0.length<=1000000000/\(∀x∈s0,(ptIn s0) x))<|
 some (Bi So s0,true))
 (fun j0=>bnd (lfix (Mr p1) (s3,([]:List Aa),0)) fun t0=>
 (match t0 with
 |(.inl z0)=>j0 z0
 |(.inr z0)=>some z0
 )))
 (fun j3=>bnd (lfix (Qf p0) (([]:List (Int×Aa)),0)) fun t1=>
 j3 t1)
instance:MkI prog 22 108 4 32 Al ((⟨0,0,(⟨0,0⟩:Av)⟩:Ae)):=⟨t108,.agg #[iq 0,iq 0,iq 0,iq 0],underlying22,kr,kr,rfl,kr,kr⟩
def Rq(p0:List Aa):(List Ae×Int)->Option (Sum (List Ae×Int) (List Ae)):=fun s0=>
 if s0.2<(p0.length:Int) then (bnd (idx p0 s0.2) fun x0=>
 gd ((s0.1.length+1)*32<=140737488355328)<|
 some (.inl (s0.1++[(⟨x0.X,x0.Y,x0.Z⟩:Ae)],w64 (s0.2+1))))
 else (some (.inr s0.1))
def Nh(p0:List Aa):Option (Ak×Int):=
 gd ((0:Int)<=(p0.length:Int)/\32*Int.toNat (p0.length:Int)<=140737488355328)<|
 jn (fun (s3:List Ae)=>
 bnd (Rx s3 ([]:List Ac)) fun r0=>
 if r0.2=0 then (some (r0.1,0))
 else (some ((⟨([]:List Ae),([]:List Ag),([]:List Ac)⟩:Ak),11)))
 (fun j3=>bnd (lfix (Rq p0) (([]:List Ae),0)) fun t0=>
 j3 t0)
def Bv(p0:List Aa)(p1:LI):Option (Ak×Int):=
 bnd (Uv p0 p1) fun r2=>
 if r2.2=true then (bnd (Nh r2.1) fun r0=>
 some (r0.1,r0.2))
 else (some ((⟨([]:List Ae),([]:List Ag),([]:List Ac)⟩:Ak),2))
instance(p0:List Aa)(p1:LI):Con (Uv p0 p1) prog 102 (fun K vs=>∃U0 E0 U1 E1,vs=[.slice U0 p0.length E0,.slice U1 p1.length E1]/\Has K U0 p0.length E0 9 Ah p0/\Has K U1 p1.length E1 1 Aj p1/\True) (fun _ r=>fun v Ln=>∃A0 c0,v=.tuple #[.slice A0 r.1.length c0,.bool r.2]/\Ln=[.r A0 r.1.length c0 30 9 (r.1.flatMap Ah)]/\True):=⟨by
 rintro K _ r ⟨U0,E0,U1,E1,rfl,ha0,ha1,-⟩ hx w hK;replace ha0:=ha0.lo hK;replace ha1:=ha1.lo hK;unfold Uv at hx;refine CtS ntmps102 results102 ?_;refine pq ?_;intros;rename_i hx
 refine pA ?_;intros;rename_i hx
 refine pA ?_;intros;rename_i hx
 apply Jr (γ:=Nat) hx [1] (fun s3 y3 f=>(6,.map (some y3))::f) [999] (fun s3 y3 l=>Be prog 3 Cw Bw y3 s3::l);exact kk
 .intro s3 y3 hx;refine pq ?_;intros;rename_i hx
  apply Jr (γ:=OA×Nat) hx [] (fun s0 y0 f=>(9,.slice y0.1 s0.length y0.2)::f) [999] (fun s0 y0 l=>.r y0.1 s0.length y0.2 30 9 (s0.flatMap Ah)::l);exact kk
  .exact aI
  .refine pI ?_;intros;rename_i hx
   apply Lr (γ:=OA×Nat×Nat) hx [31,32] (fun s1 y1 f=>(6,.map (some y1.2.2))::(9,.slice y1.1 s1.2.1.length y1.2.1)::(33,iq s1.2.2)::f) [999] (fun s1 y1 l=>.r y1.1 s1.2.1.length y1.2.1 30 9 (s1.2.1.flatMap Ah)::Be prog 3 Cw Bw y1.2.2 s1.1::l) (_,_,_);exact kk;exact sk;intro s1 y1 x0 hx _;unfold Mr at hx;exact au
 .refine pI ?_;intros;rename_i hx
  apply Lr (γ:=Nat) hx [1,17,18] (fun s2 y2 f=>(6,.map (some y2))::(19,iq s2.2)::f) [999] (fun s2 y2 l=>Be prog 3 Cw Bw y2 s2.1::l) _;exact kk;exact sk;intro s2 y2 x1 hx _;unfold Qf at hx;exact au⟩
instance(p0:List Aa):Con (Nh p0) prog 103 (fun K vs=>∃U0 E0,vs=[.slice U0 p0.length E0]/\Has K U0 p0.length E0 9 Ah p0/\True) (fun _ r=>fun v Ln=>∃A0 c0 A2 c2 A4 c4,v=.tuple #[.agg #[.slice A0 r.1.V.length c0,.slice A2 r.1.T.length c2,.slice A4 r.1.Lines.length c4],iq r.2]/\Ln=[.r A0 r.1.V.length c0 108 4 (r.1.V.flatMap Al),.r A2 r.1.T.length c2 101 3 (r.1.T.flatMap Az),.r A4 r.1.Lines.length c4 103 2 (r.1.Lines.flatMap Ar)]/\True):=⟨by
 rintro K _ r ⟨U0,E0,rfl,ha0,-⟩ hx w hK;replace ha0:=ha0.lo hK;unfold Nh at hx;refine CtS ntmps103 results103 ?_;refine pq ?_;intros;rename_i hx
 apply Jr (γ:=OA×Nat) hx [2] (fun s3 y3 f=>(4,.slice y3.1 s3.length y3.2)::f) [1,999] (fun s3 y3 l=>.r y3.1 s3.length y3.2 108 4 (s3.flatMap Al)::l);exact kk
 .exact aI
 .refine pI ?_;intros;rename_i hx
  apply Lr (γ:=OA×Nat) hx [2,12,13] (fun s29 y29 f=>(4,.slice y29.1 s29.1.length y29.2)::(14,iq s29.2)::f) [1,999] (fun s29 y29 l=>.r y29.1 s29.1.length y29.2 108 4 (s29.1.flatMap Al)::l) (_,_);exact kk;exact sk;intro s29 y29 x29 hx _;unfold Rq at hx;exact au⟩
instance(p0:List Aa)(p1:LI):Con (Bv p0 p1) prog 51 (fun K vs=>∃U0 E0 U1 E1,vs=[.slice U0 p0.length E0,.slice U1 p1.length E1]/\Has K U0 p0.length E0 9 Ah p0/\Has K U1 p1.length E1 1 Aj p1/\True) (fun _ r=>fun v Ln=>∃A0 c0 A2 c2 A4 c4,v=.tuple #[.agg #[.slice A0 r.1.V.length c0,.slice A2 r.1.T.length c2,.slice A4 r.1.Lines.length c4],iq r.2]/\Ln=[.r A0 r.1.V.length c0 108 4 (r.1.V.flatMap Al),.r A2 r.1.T.length c2 101 3 (r.1.T.flatMap Az),.r A4 r.1.Lines.length c4 103 2 (r.1.Lines.flatMap Ar)]/\True):=⟨by
 rintro K _ r ⟨U0,E0,U1,E1,rfl,ha0,ha1,-⟩ hx w hK;replace ha0:=ha0.lo hK;replace ha1:=ha1.lo hK;unfold Bv at hx;refine CtS ntmps51 results51 ?_;exact au⟩
end
end Go.Proofs.YthlkpgdfifnagaaGreat
