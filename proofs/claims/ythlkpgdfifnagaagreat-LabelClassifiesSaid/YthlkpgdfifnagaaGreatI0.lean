import Derived.Test.YthlkpgdfifnagaaGreatFlow26
set_option maxRecDepth 100000
set_option maxHeartbeats 1000000
namespace Go.Proofs.YthlkpgdfifnagaaGreat
open Go Go.RowKit Tryz List
noncomputable section
def Eb(p0:List Ag)(s0:List Ac×(List (Ac×Bool))×Int):(List Ac×(List (Ac×Bool))×Int)->Option (Sum (List Ac×(List (Ac×Bool))×Int) (List Ac×(List (Ac×Bool)))):=fun s1=>
 if s1.2.2<3 then (jn (fun (s2:List Ac×(List (Ac×Bool)))=>
 some (.inl (s2.1,s2.2,w64 (s1.2.2+1))))
 (fun j0=>bnd (idx p0 s0.2.2) fun x0=>
 bnd (idx [x0.a0,x0.a1,x0.a2] s1.2.2) fun x1=>
 bnd (idx p0 s0.2.2) fun x2=>
 bnd (idx [x2.a0,x2.a1,x2.a2] (Int.tmod (w64 (s1.2.2+1)) 3)) fun x3=>
 gd ((-9223372036854775808<=(min x1 x3)/\(min x1 x3)<=9223372036854775807)/\(-9223372036854775808<=(max x1 x3)/\(max x1 x3)<=9223372036854775807))<|
 bnd (some ((mget s1.2.1 ((⟨min x1 x3,max x1 x3⟩:Ac))).getD false)) fun x4=>
 if x4=true then (j0 (s1.1,s1.2.1))
 else (gd ((-9223372036854775808<=(min x1 x3)/\(min x1 x3)<=9223372036854775807)/\(-9223372036854775808<=(max x1 x3)/\(max x1 x3)<=9223372036854775807))<|
 gd (s1.2.1.length<9223372036854775807)<|
 gd ((s1.1.length+1)*16<=140737488355328)<|
 j0 (s1.1++[(⟨min x1 x3,max x1 x3⟩:Ac)],mput s1.2.1 ((⟨min x1 x3,max x1 x3⟩:Ac)) true))))
 else (some (.inr (s1.1,s1.2.1)))
def Jl(p0:List Ag):(List Ac×(List (Ac×Bool))×Int)->Option (Sum (List Ac×(List (Ac×Bool))×Int) (List Ac)):=fun s0=>
 if s0.2.2<(p0.length:Int) then (jn (fun (s1:List Ac×(List (Ac×Bool)))=>
 some (.inl (s1.1,s1.2,w64 (s0.2.2+1))))
 (fun j0=>bnd (lfix (Eb p0 s0) (s0.1,s0.2.1,0)) fun t0=>
 j0 t0))
 else (some (.inr s0.1))
def Oq(p0:List Ag):Option (List Ac):=
 jn (fun (s4:List Ac)=>
 bnd (Dk s4) fun r0=>
 some r0)
 (fun j4=>bnd (lfix (Jl p0) (([]:List Ac),([]:List (Ac×Bool)),0)) fun t0=>
 j4 t0)
def Sc(p0:Ak):Option (List Ac×Int):=
 bnd (Kx p0) fun r2=>
 if r2=0 then (bnd (Oq p0.T) fun r8=>
 some (r8,0))
 else (some (([]:List Ac),64))
def Mj(p0:Ak)(p1:Aa):Option (Av×Bool):=
 bnd (Gi p0 (⟨p1.X,p1.Y⟩:Ab)) fun r4=>
 if r4.2=0 then (some ((⟨w64 (p1.Z.Lo-r4.1.Hi),w64 (p1.Z.Hi-r4.1.Lo)⟩:Av),true))
 else (some ((⟨0,0⟩:Av),false))
def Gn(p0:List Aa)(p2:Ak)(p3:Af)(p1:LI):(List Aa×Int)->Option (Sum (List Aa×Int) (List Aa)):=fun s0=>
 if s0.2<(p0.length:Int) then (jn (fun (s1:List Aa)=>
 some (.inl (s1,w64 (s0.2+1))))
 (fun j0=>bnd (idx p0 s0.2) fun x0=>
 bnd (Mj p2 x0) fun r0=>
 jn (fun (s2:Bool)=>
 if s2=true then (bnd (idx p0 s0.2) fun x1=>
 gd ((s0.1.length+1)*72<=140737488355328)<|
 j0 (s0.1++[x1]))
 else (j0 s0.1))
 (fun j1=>if r0.2=true then (bnd (idx p0 s0.2) fun x2=>
 if x2.Of=1 then (if p3.Tall<=r0.1.Lo then (if r0.1.Lo<=p3.High then (bnd (idx p0 s0.2) fun x3=>
 bnd (Es p1 x3.Id) fun r1=>
 if r1=true then (j1 false)
 else (bnd (idx p0 s0.2) fun x4=>
 bnd (Ji p0 x4 p3) fun r2=>
 j1 (!(r2))))
 else (j1 false))
 else (j1 false))
 else (j1 false))
 else (j1 false))))
 else (some (.inr s0.1))
def Ff(r0:List Aa):(LI×Int)->Option (Sum (LI×Int) LI):=fun s0=>
 if s0.2<(r0.length:Int) then (bnd (idx s0.1 s0.2) fun x0=>
 some (.inl (setI s0.1 s0.2 s0.2,w64 (s0.2+1))))
 else (some (.inr s0.1))
def Ik(x0:Int)(x1:Int):(LI×Int)->Option (Sum (LI×Int) LI):=fun s0=>
 if s0.2<(s0.1.length:Int) then (jn (fun (s1:LI)=>
 some (.inl (s1,w64 (s0.2+1))))
 (fun j0=>bnd (idx s0.1 s0.2) fun x2=>
 if x2=x0 then (bnd (idx s0.1 s0.2) fun x3=>
 j0 (setI s0.1 s0.2 x1))
 else (j0 s0.1)))
 else (some (.inr s0.1))
def Fg(r0:List Ac×Int)(r1:List Aa)(p3:Af):(LI×Int)->Option (Sum (LI×Int) LI):=fun s0=>
 if s0.2<(r0.1.length:Int) then (jn (fun (s1:LI)=>
 some (.inl (s1,w64 (s0.2+1))))
 (fun j0=>bnd (idx r0.1 s0.2) fun x0=>
 bnd (idx r0.1 s0.2) fun x1=>
 jn (fun (s2:Bool)=>
 if s2=true then (j0 s0.1)
 else (bnd (idx s0.1 x1.a1) fun x2=>
 bnd (idx s0.1 x0.a0) fun x3=>
 bnd (lfix (Ik x2 x3) (s0.1,0)) fun t0=>
 j0 t0))
 (fun j1=>bnd (idx r1 x0.a0) fun x4=>
 bnd (idx r1 x1.a1) fun x5=>
 bnd (Bu x4 x5) fun r2=>
 if (w64 (p3.Link*p3.Link))<r2 then (j1 true)
 else (bnd (idx r1 x0.a0) fun x6=>
 bnd (idx r1 x1.a1) fun x7=>
 bnd (Ex x6.Z x7.Z) fun r3=>
 j1 (decide (p3.Flat<r3))))))
 else (some (.inr s0.1))
def Il(r0:List Aa)(s0:LI)(s1:List Aa×Int):(Int×Int)->Option (Sum (Int×Int) Int):=fun s2=>
 if s2.2<(r0.length:Int) then (jn (fun (s3:Int)=>
 some (.inl (s3,w64 (s2.2+1))))
 (fun j0=>bnd (idx s0 s2.2) fun x0=>
 bnd (idx s0 s1.2) fun x1=>
 if x0=x1 then (j0 (w64 (s2.1+1)))
 else (j0 s2.1)))
 else (some (.inr s2.1))
def Fh(r0:List Aa)(p3:Af)(s0:LI):(List Aa×Int)->Option (Sum (List Aa×Int) (List Aa)):=fun s1=>
 if s1.2<(r0.length:Int) then (jn (fun (s2:List Aa)=>
 some (.inl (s2,w64 (s1.2+1))))
 (fun j0=>jn (fun (s3:Int)=>
 if p3.Few<=s3 then (bnd (idx r0 s1.2) fun x0=>
 gd ((s1.1.length+1)*72<=140737488355328)<|
 j0 (s1.1++[x0]))
 else (j0 s1.1))
 (fun j1=>bnd (lfix (Il r0 s0 s1) (0,0)) fun t0=>
 j1 t0)))
 else (some (.inr s1.1))
def Ot(p0:List Aa)(p1:LI)(p2:Ak)(p3:Af):Option (List Aa):=
 jn (fun (s3:List Aa)=>
 bnd (Hv s3) fun r0=>
 bnd (Gd r0) fun r1=>
 bnd (Fb r1) fun r2=>
 bnd (Sc r2.1) fun r3=>
 gd ((0:Int)<=(r1.length:Int)/\8*Int.toNat (r1.length:Int)<=140737488355328)<|
 jn (fun (s0:LI)=>
 jn (fun (s1:LI)=>
 jn (fun (s2:List Aa)=>
 some s2)
 (fun j0=>bnd (lfix (Fh r1 p3 s1) (([]:List Aa),0)) fun t0=>
 j0 t0))
 (fun j1=>bnd (lfix (Fg r3 r1 p3) (s0,0)) fun t1=>
 j1 t1))
 (fun j2=>bnd (lfix (Ff r1) (List.replicate (Int.toNat (r1.length:Int)) (0:Int),0)) fun t2=>
 j2 t2))
 (fun j3=>bnd (lfix (Gn p0 p2 p3 p1) (([]:List Aa),0)) fun t3=>
 j3 t3)
instance(p0:List Ag):Con (Oq p0) prog 157 (fun K vs=>∃U0 E0,vs=[.slice U0 p0.length E0]/\Has K U0 p0.length E0 3 Az p0/\True) (fun _ r=>fun v Ln=>∃A0 c0,v=.slice A0 r.length c0/\Ln=[.r A0 r.length c0 103 2 (r.flatMap Ar)]/\True):=⟨by
 rintro K _ r ⟨U0,E0,rfl,ha0,-⟩ hx w hK;replace ha0:=ha0.lo hK;unfold Oq at hx;have:=dl 9 [0,0,0,0,0,1,0,0,0,0,0,0,0,1,2,2] [0,1,2,3,4,5,6,7,8,9,10,11,12,13,14,15];refine CtS ntmps157 results157 ?_;refine pq ?_;intros;rename_i hx
 refine pA ?_;intros;rename_i hx
 refine pA ?_;intros;rename_i hx
 refine pA ?_;intros;rename_i hx
 apply Jr (γ:=OA×Nat) hx [] (fun s4 y4 f=>(3,.slice y4.1 s4.length y4.2)::f) [999] (fun s4 y4 l=>.r y4.1 s4.length y4.2 103 2 (s4.flatMap Ar)::l);exact kk
 .exact aI
 .refine pI ?_;intros;rename_i hx
  refine Bb 103 2 ?_;apply Lr (γ:=OA×Nat×Nat) hx [0,12] (fun s0 y0 f=>(3,.slice y0.1 s0.1.length y0.2.1)::(4,.map (some y0.2.2))::(13,.int .i64 s0.2.2)::f) [999] (fun s0 y0 l=>.r y0.1 s0.1.length y0.2.1 103 2 (s0.1.flatMap Ar)::Be prog 103 At By y0.2.2 s0.2.1::l) (_,_,_);exact kk;exact sk;intro s0 y0 x0 hx _;unfold Jl at hx;refine pq ?_;intros;rename_i hx
  refine Cq1 (s:=14) hx rfl ?_ ?_
  .refine pI ?_;intros;rename_i hx
   apply Jr (γ:=OA×Nat×Nat) hx [0,12,13] (fun s1 y1 f=>(3,.slice y1.1 s1.1.length y1.2.1)::(4,.map (some y1.2.2))::f) [999] (fun s1 y1 l=>.r y1.1 s1.1.length y1.2.1 103 2 (s1.1.flatMap Ar)::Be prog 103 At By y1.2.2 s1.2::l);exact kk
   .exact aI
   .refine pI ?_;intros;rename_i hx
    apply Lr (γ:=OA×Nat×Nat) hx [0,5,12,13] (fun s2 y2 f=>(3,.slice y2.1 s2.1.length y2.2.1)::(4,.map (some y2.2.2))::(16,.int .i64 s2.2.2)::f) [999] (fun s2 y2 l=>.r y2.1 s2.1.length y2.2.1 103 2 (s2.1.flatMap Ar)::Be prog 103 At By y2.2.2 s2.2.1::l) (_,_,_);exact kk;exact sk;intro s2 y2 x1 hx _;unfold Eb at hx;exact au
  .exact aI⟩
instance(p0:Ak):Con (Sc p0) prog 108 (fun K vs=>∃U0 E0 U1 E1 U2 E2,vs=[.agg #[.slice U0 p0.V.length E0,.slice U1 p0.T.length E1,.slice U2 p0.Lines.length E2]]/\Has K U0 p0.V.length E0 4 Al p0.V/\Has K U1 p0.T.length E1 3 Az p0.T/\Has K U2 p0.Lines.length E2 2 Ar p0.Lines/\True) (fun _ r=>fun v Ln=>∃A0 c0,v=.tuple #[.slice A0 r.1.length c0,.int .i64 r.2]/\Ln=[.r A0 r.1.length c0 103 2 (r.1.flatMap Ar)]/\True):=⟨by
 rintro K _ r ⟨U0,E0,U1,E1,U2,E2,rfl,ha0,ha1,ha2,-⟩ hx w hK;replace ha0:=ha0.lo hK;replace ha1:=ha1.lo hK;replace ha2:=ha2.lo hK;unfold Sc at hx;refine CtS ntmps108 results108 ?_;exact au⟩
instance(p0:Ak)(p1:Aa):Con (Mj p0 p1) prog 40 (fun K vs=>∃U0 E0 U1 E1 U2 E2,vs=[.agg #[.slice U0 p0.V.length E0,.slice U1 p0.T.length E1,.slice U2 p0.Lines.length E2],.agg #[.int .i64 p1.Id,.int .i64 p1.X,.int .i64 p1.Y,.int .i64 p1.Z.Lo,.int .i64 p1.Z.Hi,.int .i64 p1.Wide,.int .i64 p1.Num,.int .i64 p1.Of,.int .i64 p1.Class]]/\Has K U0 p0.V.length E0 4 Al p0.V/\Has K U1 p0.T.length E1 3 Az p0.T/\Has K U2 p0.Lines.length E2 2 Ar p0.Lines/\True) (fun _ r=>fun v Ln=>v=.tuple #[.agg #[.int .i64 r.1.Lo,.int .i64 r.1.Hi],.bool r.2]/\Ln=[]/\True):=⟨by
 rintro K _ r ⟨U0,E0,U1,E1,U2,E2,rfl,ha0,ha1,ha2,-⟩ hx w hK;replace ha0:=ha0.lo hK;replace ha1:=ha1.lo hK;replace ha2:=ha2.lo hK;unfold Mj at hx;refine CtS ntmps40 results40 ?_;exact au⟩
instance(p0:List Aa)(p1:LI)(p2:Ak)(p3:Af):Con (Ot p0 p1 p2 p3) prog 54 (fun K vs=>∃U0 E0 U1 E1 U2 E2 U3 E3 U4 E4,vs=[.slice U0 p0.length E0,.slice U1 p1.length E1,.agg #[.slice U2 p2.V.length E2,.slice U3 p2.T.length E3,.slice U4 p2.Lines.length E4],.agg #[.int .i64 p3.Cell,.int .i64 p3.Reach,.int .i64 p3.Slope,.int .i64 p3.Link,.int .i64 p3.Flat,.int .i64 p3.Tall,.int .i64 p3.High,.int .i64 p3.Low,.int .i64 p3.Brush,.int .i64 p3.Few]]/\Has K U0 p0.length E0 9 Ah p0/\Has K U1 p1.length E1 1 Aj p1/\Has K U2 p2.V.length E2 4 Al p2.V/\Has K U3 p2.T.length E3 3 Az p2.T/\Has K U4 p2.Lines.length E4 2 Ar p2.Lines/\True) (fun _ r=>fun v Ln=>∃A0 c0,v=.slice A0 r.length c0/\Ln=[.r A0 r.length c0 30 9 (r.flatMap Ah)]/\True):=⟨by
 rintro K _ r ⟨U0,E0,U1,E1,U2,E2,U3,E3,U4,E4,rfl,ha0,ha1,ha2,ha3,ha4,-⟩ hx w hK;replace ha0:=ha0.lo hK;replace ha1:=ha1.lo hK;replace ha2:=ha2.lo hK;replace ha3:=ha3.lo hK;replace ha4:=ha4.lo hK;unfold Ot at hx;have:=dl 5 [1,0,0,0,1,2,0,0,0,4,3,2] [0,1,2,3,4,5,6,7,8,9,10,11] [9];have:=dl 6 [0,0,0,0,0,0,1,0,0,0,0,1,0,1,0,0,0,0,1,0,1,0,0,0,0,0,0,0,0,1,2,0,0,0,0,0,0,0,1,1,2,0,0] [0,1,2,3,4,5,6,7,8,9,10,11,12,13,14,15,16,17,18,19,20,21,22,23,24,25,26,27,28,29,30,31,32,33,34,35,36,37,38,39,40,41,42];have:=dl 19 [0,0,0,0,1,0,0,0,0,1,2,2] [0,1,2,3,4,5,6,7,8,9,10,11];have:=dl 20 [0,0,0,1,0,0,0,1,2,0,1,0,1,0,0,0,0,0,0,0,1,0,0,0,0,1,2,0,1,0,0] [0,1,2,3,4,5,6,7,9,10,11,12,13,8,14,15,16,17,18,19,20,21,22,23,24,25,27,28,26,29,30];have:=dl 21 [0,0,0,1,0,0,0,1,2,2] [0,1,2,3,4,5,6,7,8,9];have:=dl 35 [0,0,0,1,0,0,0,1,0] [0,1,2,3,4,5,6,7,8];refine CtS ntmps54 results54 ?_;refine pq ?_;intros;rename_i hx
 refine pA ?_;intros;rename_i hx
 refine pA ?_;intros;rename_i hx
 apply Jr (γ:=OA×Nat) hx [7] (fun s3 y3 f=>(9,.slice y3.1 s3.length y3.2)::f) [0,999] (fun s3 y3 l=>.r y3.1 s3.length y3.2 30 9 (s3.flatMap Ah)::l);exact kk
 .intro s3 y3 hx;refine pq ?_;intros;rename_i hx
  apply Jr (γ:=OA×Nat) hx [7,13,16] (fun s0 y0 f=>(18,.slice y0.1 s0.length y0.2)::f) [1,6,9,999] (fun s0 y0 l=>.r y0.1 s0.length y0.2 3 1 (s0.flatMap Aj)::l);exact kk
  .intro s0 y0 hx;apply Jr (γ:=OA×Nat) hx [7,13] (fun s1 y1 f=>(18,.slice y1.1 s1.length y1.2)::f) [2,3,999] (fun s1 y1 l=>.r y1.1 s1.length y1.2 3 1 (s1.flatMap Aj)::l);exact kk
   .intro s1 y1 hx;refine pq ?_;intros;rename_i hx
    refine pA ?_;intros;rename_i hx
    apply Jr (γ:=OA×Nat) hx [] (fun s2 y2 f=>(26,.slice y2.1 s2.length y2.2)::f) [999] (fun s2 y2 l=>.r y2.1 s2.length y2.2 30 9 (s2.flatMap Ah)::l);exact kk
    .exact aI
    .refine pI ?_;intros;rename_i hx
     refine Bb 30 9 ?_;apply Lr (γ:=OA×Nat) hx [7,13,18] (fun s4 y4 f=>(26,.slice y4.1 s4.1.length y4.2)::(27,.int .i64 s4.2)::f) [1,2,3,999] (fun s4 y4 l=>.r y4.1 s4.1.length y4.2 30 9 (s4.1.flatMap Ah)::l) (_,_);exact kk;exact sk;intro s4 y4 x0 hx _;unfold Fh at hx;refine pq ?_;intros;rename_i hx
     refine Cq1 (s:=195) hx rfl ?_ ?_
     .refine pI ?_;intros;rename_i hx
      apply Jr (γ:=OA×Nat) hx [7,13,18,27] (fun s5 y5 f=>(26,.slice y5.1 s5.length y5.2)::f) [1,2,3,999] (fun s5 y5 l=>.r y5.1 s5.length y5.2 30 9 (s5.flatMap Ah)::l);exact kk
      .exact aI
      .refine pI ?_;intros;rename_i hx
       refine pA ?_;intros;rename_i hx
       apply Jr (γ:=Unit) hx [7,13,18,26,27] (fun s6 y6 f=>(28,.int .i64 s6)::f) [0,1,2,3,999] (fun s6 y6 l=>l);exact kk
       .exact aI
       .refine pI ?_;intros;rename_i hx
        apply Lr (γ:=Unit) hx [7,13,18,26,27] (fun s7 y7 f=>(28,.int .i64 s7.1)::(29,.int .i64 s7.2)::f) [0,1,2,3,999] (fun s7 y7 l=>l) ();exact kk;exact sk;intro s7 y7 x1 hx _;unfold Il at hx;exact au
     .exact aI
   .refine pI ?_;intros;rename_i hx
    apply Lr (γ:=OA×Nat) hx [7,13,16] (fun s8 y8 f=>(18,.slice y8.1 s8.1.length y8.2)::(20,.int .i64 s8.2)::f) [1,2,3,999] (fun s8 y8 l=>.r y8.1 s8.1.length y8.2 3 1 (s8.1.flatMap Aj)::l) (_,_);exact kk;exact sk;intro s8 y8 x2 hx _;unfold Fg at hx;refine pq ?_;intros;rename_i hx
    refine Cq1 (s:=124) hx rfl ?_ ?_
    .refine pI ?_;intros;rename_i hx
     apply Jr (γ:=OA×Nat) hx [7,13,16,20] (fun s9 y9 f=>(18,.slice y9.1 s9.length y9.2)::f) [1,2,3,999] (fun s9 y9 l=>.r y9.1 s9.length y9.2 3 1 (s9.flatMap Aj)::l);exact kk
     .exact aI
     .intro _ hx;refine Aqq hx ?_;clear hx;intro _ hq_ hx;replace hx:=Asl hx hq_;refine pq ?_;intros;rename_i hx
      refine pA ?_;intros;rename_i hx
      refine pA ?_;intros;rename_i hx
      apply Jr (γ:=Unit) hx [7,13,16,18,20,21,22] (fun s50 y50 f=>(167,.bool s50)::f) [0,1,2,3,999] (fun s50 y50 l=>l);exact kk
      .intro s50 y50 hx;refine Cq3 (s:=167) hx rfl ?_ ?_
       .exact aI
       .refine pI ?_;intros;rename_i hx
        apply Lr (γ:=OA×Nat) hx [7,13,16,20,23,24] (fun s10 y10 f=>(18,.slice y10.1 s10.1.length y10.2)::(25,.int .i64 s10.2)::f) [1,2,3,999] (fun s10 y10 l=>.r y10.1 s10.1.length y10.2 3 1 (s10.1.flatMap Aj)::l) (_,_);exact kk;exact sk;intro s10 y10 x3 hx _;unfold Ik at hx;exact au
      .exact aI
    .exact aI
  .refine pI ?_;intros;rename_i hx
   apply Lr (γ:=OA×Nat) hx [7,13,16] (fun s11 y11 f=>(18,.slice y11.1 s11.1.length y11.2)::(19,.int .i64 s11.2)::f) [1,6,9,999] (fun s11 y11 l=>.r y11.1 s11.1.length y11.2 3 1 (s11.1.flatMap Aj)::l) (_,_);exact kk;exact sk;intro s11 y11 x4 hx _;unfold Ff at hx;exact au
 .refine pI ?_;intros;rename_i hx
  refine Bb 30 9 ?_;apply Lr (γ:=OA×Nat) hx [0,1,6,7] (fun s13 y13 f=>(9,.slice y13.1 s13.1.length y13.2)::(10,.int .i64 s13.2)::f) [1,2,999] (fun s13 y13 l=>.r y13.1 s13.1.length y13.2 30 9 (s13.1.flatMap Ah)::l) (_,_);exact kk;exact sk;intro s13 y13 x5 hx _;unfold Gn at hx;refine pq ?_;intros;rename_i hx
  refine Cq1 (s:=33) hx rfl ?_ ?_
  .refine pI ?_;intros;rename_i hx
   apply Jr (γ:=OA×Nat) hx [0,1,6,7,10] (fun s12 y12 f=>(9,.slice y12.1 s12.length y12.2)::f) [1,2,999] (fun s12 y12 l=>.r y12.1 s12.length y12.2 30 9 (s12.flatMap Ah)::l);exact kk
   .exact aI
   .refine pI ?_;intros;rename_i hx
    apply Jr (γ:=Unit) hx [0,1,6,7,9,10] (fun s14 y14 f=>(87,.bool s14)::f) [1,2,3,999] (fun s14 y14 l=>l);exact kk
    .exact aI
    .refine pI ?_;intros;rename_i hx
     refine (Cb3 (s:=46) hx rfl (fun _ hx=>?_) (fun _ hx=>?_)) ⟨_,_,rfl,rfl⟩
     .refine pq ?_;intros;rename_i hx
      refine (Cb1 (s:=54) hx rfl (fun _ hx=>?_) (fun _ hx=>?_)) ⟨_,_,rfl,rfl⟩
      .exact au
      .exact au
     .exact au
  .exact aI⟩
section
open Go.Sort
section
variable {l:List Ac}{T:List Ag}
def prL(s:Ac):Ac:=pr2 s.a0 s.a1
theorem Abg{α:Type}{l:List α}{k:Nat}(h:k<l.length):l.take (k+1)=l.take k++[l[k]]:=by
 rw[take_add_one,List.getElem?_eq_getElem h];rfl
theorem Ao7{α:Type}{l:List α}{x:α}:(l++[x]).Nodup↔l.Nodup/\x∉l:=by
 rw[nodup_append];constructor
 .rintro⟨h1,_,h3⟩;exact⟨h1,fun h=>h3 x h x s_ rfl⟩
 .rintro⟨h1,h2⟩;exact⟨h1,s_,fun a ha b hb e=>h2 (by rw[mem_singleton] at hb;rw[<-hb,<-e];exact ha)⟩
theorem Bcm{s:Ac}(h:s.a0<=s.a1):prL s=s:=by
 obtain⟨x,y⟩:=s;unfold prL pr2;dsimp only at h⊢;rw[Int.min_eq_left h,Int.max_eq_right h]
theorem Azj{L:List Ac}(h:∀s∈L,s.a0<=s.a1):L.map prL=L:=by
 induction L with
 |nil=>rfl
 |cons x r ih=>rw[map_cons,Bcm (h x s_),ih (fun s hs=>h s (by simp[hs]))]
theorem Azk(x y:Ac):Qe x y=some (decide (cmp2 x y<0)):=by
 have h:=Acp x y;unfold Qe;rw[jn_d]
 by_cases c:x.a0<y.a0
 .rw[if_pos c,decide_eq_true (h.2 (.inl c))]
 .rw[if_neg c]
  by_cases c2:x.a0=y.a0
  .rw[if_pos c2];congr 1;exact decide_eq_decide.2 (by rw[h];omega)
  .rw[if_neg c2,decide_eq_false (fun g=>by have:=h.1 g;omega)]
theorem Ahi(hl:l.length<=1000000)(hs:∀s∈l.map prL,Ss s):Dk l=some (Bi cmp2 (l.map prL)):=by
 obtain⟨t,ht,hR⟩:=Aw (B:=Hg l) (fun s=>l.length-s.2.toNat)
  (fun s=>∃k:Nat,s=((l.take k).map prL,(k:Int))/\k<=l.length)
  (fun t=>t=l.map prL) (by
   rintro s ⟨k,rfl,hk⟩;unfold Hg;dsimp only
   by_cases hlt:k<l.length
   .left;refine⟨((l.take (k+1)).map prL,((k+1:Nat):Int)),?_,⟨k+1,rfl,oo⟩,by simp;omega⟩;rw[if_pos oo,Am hlt,Ad,Ad,Ad,Ad,gd_t (by simp;omega),Au oo,Abg hlt,map_append];rfl
   .right;obtain rfl:k=l.length:=oo;exact⟨_,by rw[if_neg oo],s_⟩)
  ([],0) ⟨0,s_,oo⟩
 have hp:(l.map prL).length<=100000000:=by simp;omega
 have:=Anf (lt:=fun x y:Ac=>decide (cmp2 x y<0)) (B:=Gc) (B2:=Em (l.map prL)) (p:=l.map prL)
  (fun x y z h1 h2=>by
   simp only[decide_eq_false_iff_not,Acp] at *;omega)
  (fun x y h=>by
   simp only[decide_eq_false_iff_not,decide_eq_true_eq,Acp] at *;omega)
  (fun A y x R hA=>by
   obtain⟨i0,i1⟩:=All A y x R;have w1:w64 (((A.length+1:Nat):Int)-1)=(A.length:Int):=by rw[Aq oo oo];omega
   unfold Gc;dsimp only;rw[jn_d,if_pos oo,w1,i1,Ad,i0,Ad,Azk,Ad]
   by_cases c:decide (cmp2 x y<0)=true
   .have e1:(A++y::x::R).set (A.length+1) y=A++y::y::R:=by simp[set_append]
    have e2:(A++y::y::R).set A.length x=A++x::y::R:=by simp[set_append]
    have j0:∃z,idx (A++y::y::R) (A.length:Int)=some z:=⟨_,(All A y y R).1⟩;obtain⟨z,j0⟩:=j0;dsimp only;rw[if_pos c,if_pos c,Ad,Ad,Ad,Io,e1,j0,Ad,Io,e2]
   .dsimp only;rw[if_neg c,if_neg c])
  (fun x R=>by
   unfold Gc;dsimp only;rw[jn_d,if_neg oo];dsimp only;rw[if_neg s_])
  hp
  (fun l k hk=>by
   unfold Em;dsimp only;rw[if_pos oo,jn_d,show w64 ((k:Int)+1)=((k+1:Nat):Int) from by rw[Aq oo oo];omega])
  (fun l=>by
   unfold Em;dsimp only;rw[if_neg oo])
 obtain⟨r,h1,h2,h3⟩:=this;have e:r=Bi cmp2 (l.map prL):=Acd tot2 (fun x hx=>hs x (h2.mem_iff.1 hx)) (h3.imp fun h=>by simpa using h) (Nw tot2 hs) (h2.trans (Ej _ _).symm);unfold Dk;rw[jn_d,ht,Ad,hR];dsimp only;rw[jn_d,h1,Ad,e]
abbrev Q2:=List (Ac×Bool)×List Ac
def add2(q:Q2)(s:Ac):Q2:=if (mget q.1 s).getD false=true then q else (mput q.1 s true,q.2++[s])
structure Took(q:Q2)(P:Ac->Prop):Prop where
 ok:Cv q.1
 same:∀s,(mget q.1 s).getD false=true↔s∈q.2
 nd:q.2.Nodup
 mem:∀s,s∈q.2↔P s
 len:q.1.length<=q.2.length
theorem Took.nil:Took ([],[]) (fun _=>False):=⟨List.Pairwise.nil,fun s=>by simp[mget],nodup_nil,fun s=>s_,Nat.le_refl _⟩
theorem Took.add{q:Q2}{P:Ac->Prop}(h:Took q P)(s:Ac):Took (add2 q s) (fun x=>P x\/x=s)/\(add2 q s).2.length<=q.2.length+1:=by
 unfold add2
 by_cases c:(mget q.1 s).getD false=true
 .rw[if_pos c];have hs:=(h.mem s).1 ((h.same s).1 c);refine⟨⟨h.ok,h.same,h.nd,fun x=>(h.mem x).trans ⟨.inl,fun g=>g.elim id fun e=>by rw[e];exact hs⟩,h.len⟩,oo⟩
 .rw[if_neg c];have hn:s∉q.2:=fun g=>c ((h.same s).2 g)
  refine⟨⟨h.ok.put _ _,fun x=>?_,?_,fun x=>?_,?_⟩,s_⟩
  .dsimp only;rw[Lx h.ok]
   by_cases e:x=s
   .rw[if_pos e,e];simp
   .rw[if_neg e,h.same x];simp[e]
  .dsimp only;rw[Ao7];exact⟨h.nd,hn⟩
  .dsimp only;rw[mem_append,mem_singleton,h.mem x]
  .dsimp only;have:=Zp q.1 s;rw[length_append,length_singleton];have:=h.len;omega
def cn3(t:Ag)(k:Nat):Ac:=if k=0 then pr2 t.a0 t.a1 else if k=1 then pr2 t.a1 t.a2 else pr2 t.a2 t.a0
theorem Azl(t:Ag){k:Nat}(hk:k<3):∃x y,idx [t.a0,t.a1,t.a2] (k:Int)=some x/\idx [t.a0,t.a1,t.a2] (Int.tmod (w64 ((k:Int)+1)) 3)=some y/\pr2 x y=cn3 t k:=by
 have:k=0\/k=1\/k=2:=oo;rcases this with rfl|rfl|rfl
 .exact⟨t.a0,t.a1,rfl,by rw[Aq oo oo];rfl,rfl⟩
 .exact⟨t.a1,t.a2,rfl,by rw[Aq oo oo];rfl,rfl⟩
 .exact⟨t.a2,t.a0,rfl,by rw[Aq oo oo];rfl,rfl⟩
def mod3(t:Ag):Prop:=(0<=t.a0/\t.a0<=1000000)/\(0<=t.a1/\t.a1<=1000000)/\(0<=t.a2/\t.a2<=1000000)
theorem Ajs{t:Ag}(h:mod3 t)(k:Nat):(0<=(cn3 t k).a0/\(cn3 t k).a0<=1000000)/\0<=(cn3 t k).a1/\(cn3 t k).a1<=1000000:=by
 unfold mod3 at h;unfold cn3 pr2;split
 .dsimp only;omega
 .split
  .dsimp only;omega
  .dsimp only;omega
theorem Adc{n:Nat}{q0:List Ac×List (Ac×Bool)}{t:Ag}(hn:n<T.length)(e0:T[n]=t)(ht:mod3 t){q:Q2}(h1:q.1.length<=1000000000)(h2:q.2.length<=1000000000){k:Nat}(hk:k<3):Eb T (q0.1,q0.2,(n:Int)) (q.2,q.1,(k:Int))=some (.inl ((add2 q (cn3 t k)).2,(add2 q (cn3 t k)).1,((k+1:Nat):Int))):=by
 obtain⟨x,y,e1,e2,e3⟩:=Azl t hk;obtain⟨⟨b1,b2⟩,b3,b4⟩:=Ajs ht k;unfold Eb;dsimp only;have e4:(⟨min x y,max x y⟩:Ac)=cn3 t k:=e3;have e5:min x y=(cn3 t k).a0:=by rw[<-e3];rfl
 have e6:max x y=(cn3 t k).a1:=by rw[<-e3];rfl
 rw[if_pos oo,jn_d,Am hn,Ad,e0,e1,Ad,Ad,e2,Ad,gd_t ⟨⟨oo,oo⟩,oo,oo⟩,e4,Ad];unfold add2
 by_cases c:(mget q.1 (cn3 t k)).getD false=true
 .rw[if_pos c,if_pos c,Au oo]
 .rw[if_neg c,if_neg c,gd_t ⟨⟨oo,oo⟩,oo,oo⟩,gd_t oo,gd_t oo,Au oo]
def add3(q:Q2)(t:Ag):Q2:=add2 (add2 (add2 q (cn3 t 0)) (cn3 t 1)) (cn3 t 2)
theorem Took.addt{q:Q2}{P:Ac->Prop}(h:Took q P)(t:Ag):Took (add3 q t) (fun x=>P x\/∃k,k<3/\x=cn3 t k)/\(add3 q t).2.length<=q.2.length+3:=by
 obtain⟨h1,l1⟩:=h.add (cn3 t 0);obtain⟨h2,l2⟩:=h1.add (cn3 t 1);obtain⟨h3,l3⟩:=h2.add (cn3 t 2);refine⟨⟨h3.ok,h3.same,h3.nd,fun x=>(h3.mem x).trans ?_,h3.len⟩,by show (add2 (add2 (add2 q (cn3 t 0)) (cn3 t 1)) (cn3 t 2)).2.length<=_;omega⟩;constructor
 .rintro (((g|g)|g)|g)
  .exact .inl g
  .exact .inr ⟨0,oo,g⟩
  .exact .inr ⟨1,oo,g⟩
  .exact .inr ⟨2,oo,g⟩
 .rintro (g|⟨k,hk,g⟩)
  .exact .inl (.inl (.inl g))
  .have:k=0\/k=1\/k=2:=oo;rcases this with rfl|rfl|rfl
   .exact .inl (.inl (.inr g))
   .exact .inl (.inr g)
   .exact .inr g
theorem As9{n:Nat}{q0:List Ac×List (Ac×Bool)}{t:Ag}(hn:n<T.length)(e0:T[n]=t)(ht:mod3 t){q:Q2}{P:Ac->Prop}(h:Took q P)(h2:q.2.length<=100000000):lfix (Eb T (q0.1,q0.2,(n:Int))) (q.2,q.1,0)=some ((add3 q t).2,(add3 q t).1):=by
 obtain⟨g1,l1⟩:=h.add (cn3 t 0);obtain⟨g2,l2⟩:=g1.add (cn3 t 1);obtain⟨g3,l3⟩:=g2.add (cn3 t 2);have n0:=h.len;have n1:=g1.len;have n2:=g2.len;rw[Ay,show ((0:Int))=((0:Nat):Int) from rfl,Adc hn e0 ht oo oo oo];simp only[Nat.reduceAdd];rw[Ay,Adc hn e0 ht oo oo oo];simp only[Nat.reduceAdd];rw[Ay,Adc hn e0 ht oo oo oo];simp only[Nat.reduceAdd];rw[Ay];have:Eb T (q0.1,q0.2,(n:Int)) ((add2 (add2 (add2 q (cn3 t 0)) (cn3 t 1)) (cn3 t 2)).2,(add2 (add2 (add2 q (cn3 t 0)) (cn3 t 1)) (cn3 t 2)).1,((3:Nat):Int))=some (.inr ((add3 q t).2,(add3 q t).1)):=by
  unfold Eb;dsimp only;rw[if_neg oo];rfl
 rw[this]
def Afz(T:List Ag)(s:Ac):Prop:=∃t∈T,∃k,k<3/\s=cn3 t k
theorem Afz.snoc{t:Ag}{s:Ac}:Afz (T++[t]) s↔Afz T s\/∃k,k<3/\s=cn3 t k:=by
 unfold Afz;simp only[mem_append,mem_singleton,or_and_right,exists_or,exists_eq_left]
def addT(T:List Ag):Q2:=T.foldl add3 ([],[])
theorem Ajt(t:Ag):addT (T++[t])=add3 (addT T) t:=by unfold addT;rw[foldl_append];rfl
theorem Ao8:∀(n:Nat) (T:List Ag),T.length=n->Took (addT T) (Afz T)/\(addT T).2.length<=3*T.length
 |0,T,h=>by
  obtain rfl:=length_eq_zero_iff.1 h;refine⟨⟨Took.nil.ok,Took.nil.same,Took.nil.nd,fun s=>?_,Nat.le_refl _⟩,by simp[addT]⟩;simp[addT,Afz]
 |n+1,T,h=>by
  obtain⟨r,t,rfl⟩:∃r t,T=r++[t]:=by
   have hne:T≠[]:=fun e=>by rw[e] at h;simp at h
   exact⟨T.dropLast,T.getLast hne,(dropLast_concat_getLast hne).symm⟩
  obtain⟨h1,h2⟩:=Ao8 n r (by simpa using h);obtain⟨h3,h4⟩:=h1.addt t;rw[Ajt];refine⟨⟨h3.ok,h3.same,h3.nd,fun s=>(h3.mem s).trans Afz.snoc.symm,h3.len⟩,?_⟩;rw[length_append,length_singleton];omega
theorem Ahj(hT:T.length<=2000000)(hm:∀t∈T,mod3 t):lfix (Jl T) ([],[],0)=some (addT T).2:=by
 obtain⟨t,t1,t2⟩:=Aw (B:=Jl T) (fun s=>T.length-s.2.2.toNat)
  (fun s=>∃k:Nat,k<=T.length/\s=((addT (T.take k)).2,(addT (T.take k)).1,(k:Int))) (fun t=>t=(addT T).2) (by
   rintro s ⟨k,hk,rfl⟩;unfold Jl;dsimp only
   by_cases hlt:k<T.length
   .left;obtain⟨h1,h2⟩:=Ao8 _ (T.take k) rfl;have hl:(T.take k).length=k:=by rw[length_take];omega
    rw[if_pos oo,jn_d,As9 (q0:=((addT (T.take k)).2,(addT (T.take k)).1)) hlt rfl (hm _ (getElem_mem hlt)) h1 oo,Ad];dsimp only;rw[Au oo];exact⟨_,rfl,⟨k+1,oo,by rw[Abg hlt,Ajt]⟩,by dsimp only;omega⟩
   .right;obtain rfl:k=T.length:=oo;rw[if_neg oo];exact⟨_,rfl,by rw[take_length]⟩)
  ([],[],0) ⟨0,oo,rfl⟩
 rw[t1,t2]
theorem Ata(hT:T.length<=300000)(hm:∀t∈T,mod3 t):∃S,Oq T=some S/\S.Nodup/\(∀s,s∈S↔Afz T s)/\S.length<=3*T.length/\S.Pairwise (fun x y=>¬cmp2 y x<0):=by
 obtain⟨h1,h2⟩:=Ao8 _ T rfl;have sm:∀s∈(addT T).2,Ss s:=fun s hs=>by
  obtain⟨t,ht,k,_,rfl⟩:=(h1.mem s).1 hs;obtain⟨⟨b1,b2⟩,b3,b4⟩:=Ajs (hm t ht) k;exact⟨⟨oo,oo⟩,oo,oo⟩
 have pl:(addT T).2.map prL=(addT T).2:=Azj fun s hs=>by
  obtain⟨t,ht,k,_,rfl⟩:=(h1.mem s).1 hs;unfold cn3 pr2;split
  .dsimp only;omega
  .split
   .dsimp only;omega
   .dsimp only;omega
 refine⟨Bi cmp2 (addT T).2,?_,((Ej _ _).nodup_iff).2 h1.nd,fun s=>Ga.trans (h1.mem s),by rw[(Ej _ _).length_eq];exact h2,Nw tot2 sm⟩
 .unfold Oq;rw[jn_d,Ahj oo hm,Ad];dsimp only;rw[Ahi oo (by rw[pl];exact sm),pl,Ad]
end
end
def L16(m:Nat):LI:=nI (dig 65536 m)
def Z16(z:Int):Ai:=⟨decide (z<0),L16 z.natAbs⟩
theorem Azm{l:LM}{k:Nat}:(nI l).take k=nI (l.take k):=by simp[nI]
theorem Aju:∀(l:LM),nrm (l++[0])=nrm l
 |[]=>rfl
 |x::r=>by simp only[cons_append,nrm];rw[Aju r]
theorem Amp:∀(l:LM) {x:Nat},x≠0->nrm (l++[x])=l++[x]
 |[],x,h=>by simp[nrm,h]
 |y::r,x,h=>by
  simp only[cons_append,nrm];rw[Amp r h];cases r <;> rfl
theorem Ad9(l:LM)(h9:l.length<=1000000000):Bk (nI l)=some (nI (nrm l)):=by
 obtain⟨t,ht,k,rfl,hk,hn⟩:=Aw (B:=Pv (nI l)) (fun s=>s.toNat)
  (fun s=>∃k:Nat,s=(k:Int)/\k<=l.length/\nrm (l.take k)=nrm l)
  (fun t=>∃k:Nat,t=(k:Int)/\k<=l.length/\l.take k=nrm l) (by
   rintro s ⟨k,rfl,hk,hn⟩;unfold Pv;simp only[jn_d]
   by_cases h0:k=0
   .right;subst h0;refine⟨((0:Nat):Int),by rw[if_neg oo];rfl,0,rfl,oo,?_⟩;rw[<-hn];rfl
   ·have h1:k-1<l.length:=oo;rw[if_pos oo,show ((k:Int)-1)=((k-1:Nat):Int) from by omega,Re oo,Dg h1,Ad];have e:l.take k=l.take (k-1)++[l[k-1]]:=by
     obtain⟨q,rfl⟩:=Nat.exists_eq_succ_of_ne_zero h0;simp only[Nat.succ_eq_add_one,Nat.add_sub_cancel] at h1⊢;rw[take_add_one,List.getElem?_eq_getElem h1];rfl
    by_cases hz:l[k-1]=0
    .left;refine⟨((k-1:Nat):Int),by rw[if_pos (by simp[hz])],⟨k-1,rfl,oo,?_⟩,oo⟩;rw[<-hn,e,hz,Aju]
    .right;refine⟨(k:Int),by rw[if_neg (by simp;omega)],k,rfl,hk,?_⟩;rw[<-hn,e,Amp _ hz])
  (l.length:Int) ⟨l.length,rfl,oo,by rw[take_length]⟩
 unfold Bk;simp only[jn_d,Ca];rw[ht,Ad,gd_t oo,Bb2,Int.toNat_natCast,Azm,hn]
theorem Ao9(a:Nat):Int.tmod (a:Int) 65536=((a%65536:Nat):Int):=by rw[Int.tmod_eq_emod_of_nonneg oo];omega
theorem Apa(a:Nat):Int.tdiv (a:Int) 65536=((a/65536:Nat):Int):=by rw[Int.tdiv_eq_ediv_of_nonneg oo];omega
theorem Ec{m : Nat}: ∀ {k : Nat}, m<65536 ^ k -> (dig 65536 m).length <= k := by
  intro k
  induction k generalizing m with
  | zero => intro h;obtain rfl : m = 0 := by simpa using h
            simp[Rj]
  | succ k ih=>
    intro h
    by_cases h0:m=0
    · subst h0;simp[Rj]
    · rw[Sd oo h0, length_cons];have:=ih (m:=m/65536) (Nat.div_lt_of_lt_mul (by rw[Nat.pow_succ, Nat.mul_comm] at h;exact h));omega
theorem Zi{z:Int}(h1:-9223372036854775808<=z)(h2:z<=9223372036854775807):Bd z=some (Z16 z):=by
 have key:∀m:Nat,m<18446744073709551616->lfix Jm ((m:Int),([]:LI))=some (L16 m):=by
  intro m hm;have h4:(dig 65536 m).length<=4:=Ec oo;obtain⟨t,ht,hR⟩:=Aw (B:=Jm) (fun s=>s.1.toNat)
   (fun s=>∃(u:Nat) (o:LM),s=((u:Int),nI o)/\dig 65536 m=o++dig 65536 u/\u<18446744073709551616)
   (fun t=>t=L16 m) (by
    rintro s ⟨u,o,rfl,hd,hu⟩;unfold Jm
    by_cases h0:u=0
    .right;subst h0;exact⟨_,by simp only[];rw[if_neg oo],by rw[Rj,append_nil] at hd;unfold L16;rw[hd]⟩
    .left;have ho:o.length<=4:=by have:=congrArg List.length hd;rw[length_append] at this;omega
     refine⟨(((u/65536:Nat):Int),nI (o++[u%65536])),?_,⟨u/65536,_,rfl,?_,oo⟩,by simp;omega⟩
     .simp only[Ca];rw[if_pos oo,gd_t oo,Apa,Ao9,Re oo,Qk oo];simp[nI]
     .rw[hd,Sd oo h0,append_assoc];rfl)
   ((m:Int),nI []) ⟨m,[],rfl,rfl,hm⟩
  rw[<-hR];exact ht
 unfold Bd;simp only[jn_d]
 by_cases h:z<0
 .rw[if_pos h,show wu64 (-(wu64 z))=((z.natAbs:Nat):Int) from by rw[Vx,Vx];omega,key _ oo,Ad];rfl
 .rw[if_neg h,show wu64 z=((z.natAbs:Nat):Int) from by rw[Vx];omega,key _ oo,Ad];rfl
theorem Azn(l r:List Nat)(hl:∀ x∈l,x<65536)(hr:∀ x∈r,x<65536)(hb:l.length+r.length<=1000000):
  Ci (nI l) (nI r)=some (L16 (val 65536 l*val 65536 r)):=by
 have e:w64 ((((nI l).length:Nat):Int)+(((nI r).length:Nat):Int))=((l.length+r.length:Nat):Int):=by rw[Ca,Ca,Aq oo oo];omega
 obtain⟨t,ht,out,rfl,hd⟩:=Aw (B:=Gq (nI l) (nI r)) (fun s=>l.length-s.2.toNat)
  (fun s=>∃(out:LM) (i:Nat),s=(nI out,(i:Int))/\out.length=l.length+r.length/\i<=l.length/\(∀x∈out,x<65536)/\(∀(q:Nat) (h:q<out.length),i+r.length<=q->out[q]=0)/\val 65536 out=val 65536 (l.take i)*val 65536 r)
  (fun t=>∃out,t=nI out/\out.length<=1000000000/\nrm out=dig 65536 (val 65536 l*val 65536 r)) (by
   rintro s ⟨out0,i,rfl,hC1,hC2,hC3,hC4,hC5⟩
   by_cases hi:i<l.length
   ·left;obtain⟨t,ht,out,cy,rfl,hD1,hD2,hD4,hD5,hD6⟩:=Aw (B:=Gp (nI r) (nI l) (nI out0,(i:Int))) (fun s=>r.length-s.2.2.toNat)
     (fun s=>∃(out:LM) (cy j:Nat),s=(nI out,(cy:Int),(j:Int))/\out.length=l.length+r.length/\cy<65536/\j<=r.length/\(∀x∈out,x<65536)/\(∀(q:Nat) (h:q<out.length),i+r.length<=q->out[q]=0)/\val 65536 out+cy*65536^(i+j)=val 65536 out0+l[i]*val 65536 (r.take j)*65536^i)
     (fun t=>∃(out:LM) (cy:Nat),t=(nI out,(cy:Int))/\out.length=l.length+r.length/\cy<65536/\(∀x∈out,x<65536)/\(∀(q:Nat) (h:q<out.length),i+r.length<=q->out[q]=0)/\val 65536 out+cy*65536^(i+r.length)=val 65536 out0+l[i]*val 65536 (r.take r.length)*65536^i) (by
      rintro s ⟨out,cy,j,rfl,hD1,hD2,hD3,hD4,hD5,hD6⟩
      by_cases hj:j<r.length
      .left;have hk:i+j<out.length:=oo;have h1:=hl _ (getElem_mem hi);have h2:=hr _ (getElem_mem hj);have h3:=hD4 _ (getElem_mem hk);have hmm:=Am2 h1 h2;have e1:w64 ((i:Int)+(j:Int))=((i+j:Nat):Int):=by rw[Aq oo oo];omega
       have e2:w64 (w64 (w64 ((l[i]:Int)*(r[j]:Int))+(out[i+j]:Int))+(cy:Int))=((l[i]*r[j]+out[i+j]+cy:Nat):Int):=by
        have e3:w64 ((l[i]:Int)*(r[j]:Int))=((l[i]*r[j]:Nat):Int):=by rw[<-Int.natCast_mul];exact Re oo
        rw[e3,<-Int.natCast_add,Re oo,<-Int.natCast_add,Re oo]
       have e4:w64 (((l[i]*r[j]+out[i+j]+cy)/65536:Nat):Int)=(((l[i]*r[j]+out[i+j]+cy)/65536:Nat):Int):=Re oo;refine⟨(nI (out.set (i+j) ((l[i]*r[j]+out[i+j]+cy)%65536)),(((l[i]*r[j]+out[i+j]+cy)/65536:Nat):Int),((j+1:Nat):Int)),?_,⟨_,_,_,rfl,Am3 hi hj rfl rfl h1 h2 hD1 hD2 hD3 hD4 hD5 hD6 hk⟩,by simp;omega⟩;unfold Gp;simp only[e1];rw[if_pos (by rw[Ca];omega),Dg hi,Ad,Dg hj,Ad,Dg hk,Ad,Ad,e2,Ao9,Apa,e4,Xd,Au oo]
      .right;obtain rfl:j=r.length:=oo;refine⟨(nI out,(cy:Int)),?_,out,cy,rfl,hD1,hD2,hD4,hD5,hD6⟩;unfold Gp;simp only[];rw[if_neg (by rw[Ca];omega)])
     (nI out0,((0:Nat):Int),((0:Nat):Int)) ⟨out0,0,0,rfl,hC1,oo,oo,hC3,fun q hq hiq=>hC4 q hq oo,by simp[val]⟩
    have hk:i+r.length<out.length:=oo;refine⟨(nI (out.set (i+r.length) (cy%65536)),((i+1:Nat):Int)),?_,⟨_,_,rfl,Am4 hi rfl rfl hD1 hD2 hD4 hD5 hD6 hC5 rfl⟩,by simp;omega⟩;unfold Gq;simp only[jn_d];have ht':lfix (Gp (nI r) (nI l) (nI out0,(i:Int))) (nI out0,0,0)=some (nI out,(cy:Int)):=ht;rw[if_pos (by rw[Ca];omega),ht',Ad,Ca,show w64 ((i:Int)+(r.length:Int))=((i+r.length:Nat):Int) from by rw[Aq oo oo];omega,Dg hk,Ad];simp only[];rw[Xd,Au oo,Nat.mod_eq_of_lt hD2]
   .right;refine⟨nI out0,?_,out0,rfl,oo,Apf (i:=i) oo rfl hC1 hC3 hC5⟩;unfold Gq;simp only[];rw[if_neg (by rw[Ca];omega)])
  (nI (List.replicate (l.length+r.length) 0),((0:Nat):Int)) ⟨_,0,rfl,s_,oo,s_,s_,by simp[val,Zm]⟩
 unfold Ci;simp only[e,jn_d,Int.toNat_natCast,Zv];have ht':lfix (Gq (nI l) (nI r)) (nI (List.replicate (l.length+r.length) 0),0)=some (nI out):=ht;rw[gd_t ⟨oo,oo⟩,ht',Ad,Ad9 _ hd.1,Ad,hd.2];rfl
theorem Au8(a b:Nat)(ha:(dig 65536 a).length<=1000000):Fd (L16 a) (L16 b)=some (cmpN a b):=by
 unfold Fd L16;rw[Ca,Ca]
 by_cases hlen:(dig 65536 a).length=(dig 65536 b).length
 ·obtain⟨t,ht,hR⟩:=Aw (B:=Mh (nI (dig 65536 a)) (nI (dig 65536 b))) (fun s=>(s+1).toNat)
   (fun s=>∃k:Nat,s=(k:Int)-1/\k<=(dig 65536 a).length/\∀(j:Nat) (h:j<(dig 65536 a).length) (h':j<(dig 65536 b).length),k<=j->(dig 65536 a)[j]=(dig 65536 b)[j])
   (fun t=>(t=.inl ()/\cmpN a b=0)\/t=.inr (cmpN a b)) (by
    rintro s ⟨k,rfl,hk,heq⟩;unfold Mh
    by_cases h0:k=0
    .right;subst h0;refine⟨_,by rw[if_neg oo],.inl ⟨rfl,Av0 oo hlen (fun j h h'=>heq j h h' oo)⟩⟩
    .have h1:k-1<(dig 65536 a).length:=oo;have h2:k-1<(dig 65536 b).length:=oo;have hat:=Avz (b:=65536) oo hlen h1 h2 (fun j h h' hj=>heq j h h' oo);rw[if_pos oo,show ((k:Int)-1)=((k-1:Nat):Int) from by omega,Dg h1,Ad,Dg h2,Ad]
     by_cases he:(dig 65536 a)[k-1]=(dig 65536 b)[k-1]
     .left;refine⟨((k-1:Nat):Int)-1,by rw[if_pos (by rw[he]),Aq oo oo],⟨k-1,rfl,oo,fun j h h' hj=>?_⟩,oo⟩;rcases Nat.lt_or_ge (k-1) j with hq|hq
      .exact heq j h h' oo
      .obtain rfl:j=k-1:=oo;exact he
     .right;rw[if_neg oo,Ad,Ad]
      by_cases hlt:(dig 65536 a)[k-1]<(dig 65536 b)[k-1]
      .exact⟨_,by rw[if_pos oo],.inr (by rw[hat.1 hlt])⟩
      .exact⟨_,by rw[if_neg oo],.inr (by rw[hat.2 oo])⟩)
   (((dig 65536 a).length:Int)-1) ⟨_,rfl,Nat.le_refl _,fun j h h' hj=>oo⟩
  rw[if_pos oo,jn_d,Aq oo oo,ht,Ad];rcases hR with⟨rfl,h0⟩|rfl
  .simp only[h0]
  .rfl
 .rw[if_neg oo]
  by_cases hlt:(dig 65536 a).length<(dig 65536 b).length
  .rw[if_pos oo,(Ag4 (b:=65536) oo rfl rfl).1 hlt]
  .rw[if_neg oo,(Ag4 (b:=65536) oo rfl rfl).2 oo]
theorem Bbw:([1]:LI)=L16 1:=by unfold L16;rw[Ag3 oo];rfl
theorem Atb(l r o:List Nat)(cy i:Nat)(hl:∀ x∈l,x<65536)(hr:∀ x∈r,x<65536)(hcy:cy<=1)(hi:i<=1000001)(ho:o.length=i):
  Hn (nI r) (nI l) (nI o,(cy:Int),(i:Int))=if i<l.length\/i<r.length\/0<cy then some (.inl (nI (o++[(cy+l.getD i 0+r.getD i 0)%65536]),(((cy+l.getD i 0+r.getD i 0)/65536:Nat):Int),((i+1:Nat):Int))) else some (.inr (nI o)):=by
 have h1:=Acl hl i;have h2:=Acl hr i;have fin:∀s:Nat,s<=131071->(nI o++[Int.tmod (s:Int) 65536],w64 (Int.tdiv (s:Int) 65536),w64 ((i:Int)+1))=(nI (o++[s%65536]),((s/65536:Nat):Int),((i+1:Nat):Int)):=by
  intro s hs;rw[Ao9,Apa,Re oo,Au oo];simp[nI]
 unfold Hn;simp only[jn_d,Ca]
 by_cases hn:i<l.length
 .rw[if_pos (show (i:Int)<(l.length:Int) by omega),if_pos trivial,if_pos (show (i:Int)<(l.length:Int) by omega),Dg hn,Ad,if_pos (show i<l.length\/i<r.length\/0<cy from .inl hn)];rw[show w64 ((cy:Int)+(l[i]:Int))=((cy+l.getD i 0:Nat):Int) from by rw[Xe hn] at *;rw[Aq oo oo];omega]
  by_cases hm:i<r.length
  .rw[if_pos (show (i:Int)<(r.length:Int) by omega),Dg hm,Ad,gd_t oo];rw[show w64 (((cy+l.getD i 0:Nat):Int)+(r[i]:Int))=((cy+l.getD i 0+r.getD i 0:Nat):Int) from by rw[Xe hm] at *;rw[Aq oo oo];omega];rw[fin _ oo]
  .rw[if_neg (show ¬(i:Int)<(r.length:Int) by omega),gd_t oo,fin _ oo,Rs hm];rfl
 .rw[if_neg (show ¬(i:Int)<(l.length:Int) by omega)]
  by_cases hm:i<r.length
  .rw[if_pos (show (i:Int)<(r.length:Int) by omega),if_pos trivial,if_neg (show ¬(i:Int)<(l.length:Int) by omega),if_pos (show (i:Int)<(r.length:Int) by omega),Dg hm,Ad,gd_t oo,if_pos (show i<l.length\/i<r.length\/0<cy from .inr (.inl hm)),Rs hn,Nat.add_zero];rw[show w64 ((cy:Int)+(r[i]:Int))=((cy+r.getD i 0:Nat):Int) from by rw[Xe hm] at *;rw[Aq oo oo];omega];rw[fin _ oo]
  .rw[if_neg (show ¬(i:Int)<(r.length:Int) by omega)]
   by_cases hc:0<cy
   .rw[if_pos (by simpa using hc),if_neg (show ¬(i:Int)<(l.length:Int) by omega),if_neg (show ¬(i:Int)<(r.length:Int) by omega),gd_t oo,fin _ oo,if_pos (show i<l.length\/i<r.length\/0<cy from .inr (.inr hc)),Rs hn,Rs hm];rfl
   .rw[if_neg (by simpa using hc),if_neg oo]
theorem Bcn(l r:List Nat)(hl:∀ x∈l,x<65536)(hr:∀ x∈r,x<65536)(h1:l.length<=1000000)(h2:r.length<=1000000):
  Jh (nI l) (nI r)=some (L16 (val 65536 l+val 65536 r)):=by
 obtain⟨t,ht,out,rfl,hd⟩:=Aw (B:=Hn (nI r) (nI l)) (fun s=>2*(max l.length r.length-s.2.2.toNat)+s.2.1.toNat)
  (fun s=>∃(o:LM) (cy i:Nat),s=(nI o,(cy:Int),(i:Int))/\o.length=i/\cy<=1/\i<=max l.length r.length+1/\(i=max l.length r.length+1->cy=0)/\(∀x∈o,x<65536)/\val 65536 o+cy*65536^i=val 65536 (l.take i)+val 65536 (r.take i))
  (fun t=>∃out,t=nI out/\out.length<=1000000000/\nrm out=dig 65536 (val 65536 l+val 65536 r)) (by
   rintro s ⟨o,cy,i,rfl,hC1,hC2,hC3,hC0,hC4,hC5⟩;have g1:=Acl hl i;have g2:=Acl hr i;rw[Atb l r o cy i hl hr hC2 oo hC1]
   by_cases hc:i<l.length\/i<r.length\/0<cy
   .left;rw[if_pos hc];refine⟨_,rfl,⟨_,_,_,rfl,by simp[hC1],oo,oo,fun he=>?_,?_,?_⟩,?_⟩
    .rw[Rs (show ¬i<l.length by omega),Rs (show ¬i<r.length by omega)];omega
    .intro x hx;rcases mem_append.1 hx with hx|hx
     .exact hC4 x hx
     .simp at hx;omega
    .rw[Xs,hC1,Uk,Uk];have e:val 65536 [(cy+l.getD i 0+r.getD i 0)%65536]=(cy+l.getD i 0+r.getD i 0)%65536:=by simp[val]
     rw[e];have e2:=Nat.div_add_mod (cy+l.getD i 0+r.getD i 0) 65536;have e3:=congrArg (· * 65536^i) e2;simp only[Nat.add_mul] at e3;have e4:65536^(i+1)=65536*65536^i:=by rw[Nat.pow_succ,Nat.mul_comm]
     rw[e4];generalize 65536^i=P at *;generalize (cy+l.getD i 0+r.getD i 0)%65536=M at *;generalize (cy+l.getD i 0+r.getD i 0)/65536=D at *;generalize l.getD i 0=a at *;generalize r.getD i 0=b at *;have e5:D*(65536*P)=65536*D*P:=by grind
     have e6:P*M=M*P:=Nat.mul_comm _ _;have e7:P*a=a*P:=Nat.mul_comm _ _;have e8:P*b=b*P:=Nat.mul_comm _ _;omega
    .simp only[Int.toNat_natCast]
     by_cases hb:i<l.length\/i<r.length
     .omega
     .rw[Rs (show ¬i<l.length by omega),Rs (show ¬i<r.length by omega)];omega
   .right;rw[if_neg hc];refine⟨_,rfl,o,rfl,oo,?_⟩;have:cy=0:=oo;subst this;rw[Xr (b:=65536) oo o hC4];rw[take_of_length_le oo,take_of_length_le oo] at hC5;rw[show val 65536 o=val 65536 l+val 65536 r by omega])
  (nI [],((0:Nat):Int),((0:Nat):Int)) ⟨[],0,0,rfl,rfl,oo,oo,oo,s_,by simp[val]⟩
 unfold Jh;have ht':lfix (Hn (nI r) (nI l)) ([],0,0)=some (nI out):=ht;simp only[jn_d];rw[ht',Ad,Ad9 _ hd.1,Ad,hd.2];rfl
theorem Atc(l r o:List Nat)(bw i:Nat)(hi:i<l.length)(hl:∀ x∈l,x<65536)(hr:∀ x∈r,x<65536)(hb:bw<=1)(h9:l.length<=1000000)(ho:o.length=i):
  ∃d b':Nat,Fe (nI l) (nI r) (nI o,(bw:Int),(i:Int))=some (.inl (nI (o++[d]),(b':Int),((i+1:Nat):Int)))/\d<65536/\b'<=1/\d+bw+r.getD i 0=l.getD i 0+65536*b':=by
 have h1:=Acl hl i;have h2:=Acl hr i;unfold Fe;simp only[jn_d,Ca];rw[if_pos (show (i:Int)<(l.length:Int) by omega),Dg hi,Ad];rw[Xe hi] at *;have fin:∀t:Int,t=(l[i]:Int)-bw-(r.getD i 0:Int)->∃d b':Nat,(if t<0 then gd (((nI o).length+1)*8<=140737488355328) (some (Sum.inl (β:=LI) (nI o++[w64 (t+65536)],(1:Int),w64 ((i:Int)+1)))) else gd (((nI o).length+1)*8<=140737488355328) (some (.inl (nI o++[t],(0:Int),w64 ((i:Int)+1)))))=some (.inl (nI (o++[d]),(b':Int),((i+1:Nat):Int)))/\d<65536/\b'<=1/\d+bw+r.getD i 0=l[i]+65536*b':=by
  intro t ht;rw[gd_t (by rw[Ca];omega),gd_t (by rw[Ca];omega),Au oo]
  by_cases h0:t<0
  .refine⟨(t+65536).toNat,1,?_,oo,oo,oo⟩;rw[if_pos h0,Aq oo oo];simp[nI,Int.toNat_of_nonneg (show 0<=t+65536 by omega)]
  .refine⟨t.toNat,0,?_,oo,oo,oo⟩;rw[if_neg h0];simp[nI,Int.toNat_of_nonneg (show 0<=t by omega)]
 by_cases hm:i<r.length
 .rw[if_pos (show (i:Int)<(r.length:Int) by omega),Dg hm,Ad];have:=fin (w64 (w64 ((l[i]:Int)-(bw:Int))-(r[i]:Int))) (by rw[Xe hm] at *;rw[Aq (x:=(l[i]:Int)-(bw:Int)) oo oo,Aq oo oo]);simpa only[Ca] using this
 .rw[if_neg (show ¬(i:Int)<(r.length:Int) by omega)];have:=fin (w64 ((l[i]:Int)-(bw:Int))) (by rw[Rs hm,Aq oo oo];omega);simpa only[Ca] using this
theorem Bco(l r:List Nat)(hl:∀ x∈l,x<65536)(hr:∀ x∈r,x<65536)(h1:l.length<=1000000)(h2:r.length<=l.length)(hle:val 65536 r<=val 65536 l):
  Ez (nI l) (nI r)=some (L16 (val 65536 l-val 65536 r)):=by
 obtain⟨t,ht,out,rfl,hd⟩:=Aw (B:=Fe (nI l) (nI r)) (fun s=>l.length-s.2.2.toNat)
  (fun s=>∃(o:LM) (bw i:Nat),s=(nI o,(bw:Int),(i:Int))/\o.length=i/\bw<=1/\i<=l.length/\(∀x∈o,x<65536)/\val 65536 o+val 65536 (r.take i)=val 65536 (l.take i)+bw*65536^i)
  (fun t=>∃out,t=nI out/\out.length<=1000000000/\nrm out=dig 65536 (val 65536 l-val 65536 r)) (by
   rintro s ⟨o,bw,i,rfl,hC1,hC2,hC3,hC4,hC5⟩
   by_cases hi:i<l.length
   .left;obtain⟨d,b',hB,hd1,hb1,he⟩:=Atc l r o bw i hi hl hr hC2 h1 hC1;refine⟨_,hB,⟨_,_,_,rfl,by simp[hC1],hb1,oo,?_,?_⟩,by simp;omega⟩
    .intro x hx;rcases mem_append.1 hx with hx|hx
     .exact hC4 x hx
     .simp at hx;omega
    .rw[Xs,hC1,Uk,Uk];have e:val 65536 [d]=d:=by simp[val]
     rw[e];have e3:=congrArg (· * 65536^i) he;simp only[Nat.add_mul] at e3;have e4:65536^(i+1)=65536*65536^i:=by rw[Nat.pow_succ,Nat.mul_comm]
     rw[e4];generalize 65536^i=P at *;generalize l.getD i 0=a at *;generalize r.getD i 0=b at *;have e5:b'*(65536*P)=65536*b'*P:=by grind
     have e6:P*d=d*P:=Nat.mul_comm _ _;have e7:P*a=a*P:=Nat.mul_comm _ _;have e8:P*b=b*P:=Nat.mul_comm _ _;omega
   .right;have hil:i=l.length:=oo;refine⟨nI o,?_,o,rfl,oo,?_⟩
    .unfold Fe;simp only[Ca];rw[if_neg oo]
    .rw[take_of_length_le oo,take_of_length_le oo] at hC5;rw[Xr (b:=65536) oo o hC4];have hlt:=Afd o hC4;rw[hC1] at hlt;have:bw=0\/bw=1:=oo;rcases this with rfl|rfl
     .rw[show val 65536 o=val 65536 l-val 65536 r by omega]
     .omega)
  (nI [],((0:Nat):Int),((0:Nat):Int)) ⟨[],0,0,rfl,rfl,oo,oo,s_,by simp[val]⟩
 unfold Ez;have ht':lfix (Fe (nI l) (nI r)) ([],0,0)=some (nI out):=ht;simp only[jn_d];rw[ht',Ad,Ad9 _ hd.1,Ad,hd.2];rfl
theorem Ag1{a:Nat}:(L16 a).length=0↔a=0:=by
 unfold L16;rw[Ca,length_eq_zero_iff,Xa oo]
theorem Ae8{a:Nat}:∀x∈dig 65536 a,x<65536:=Oy oo a
theorem Au9{a b:Nat}(ha:(dig 65536 a).length<=1000000)(hb:(dig 65536 b).length<=1000000):Jh (L16 a) (L16 b)=some (L16 (a+b)):=by
 have:=Bcn _ _ (Ae8 (a:=a)) (Ae8 (a:=b)) ha hb
 rwa [Cq oo,Cq oo] at this
theorem St{a b:Nat}(h:a<=b):(dig 65536 a).length<=(dig 65536 b).length:=by
 rcases Nat.lt_or_ge (dig 65536 b).length (dig 65536 a).length with h1|h1
 .have:=Aan (b:=65536) oo h1;omega
 .exact h1
theorem Akz{a b:Nat}(ha:(dig 65536 a).length<=1000000)(h:b<=a):Ez (L16 a) (L16 b)=some (L16 (a-b)):=by
 have:=Bco _ _ (Ae8 (a:=a)) (Ae8 (a:=b)) ha (St h) (by rw[Cq oo,Cq oo];exact h)
 rwa [Cq oo,Cq oo] at this
theorem Acc{a b:Nat}(h:(dig 65536 a).length+(dig 65536 b).length<=1000000):Ci (L16 a) (L16 b)=some (L16 (a*b)):=by
 have:=Azn _ _ (Ae8 (a:=a)) (Ae8 (a:=b)) h
 rwa [Cq oo,Cq oo] at this
theorem Acy{z:Int}:(Z16 z).L=L16 z.natAbs:=rfl
theorem Oh{z:Int}:(Z16 z).Neg=decide (z<0):=rfl
theorem Ahk{b:Bool}{l:LI}{z:Int}(h1:b=decide (z<0))(h2:l=L16 z.natAbs):(some ⟨b,l⟩:Option Ai)=some (Z16 z):=by subst h1;subst h2;rfl
theorem Bbx{x y:Int}(hx:(dig 65536 x.natAbs).length<=1000000)(hy:(dig 65536 y.natAbs).length<=1000000):Hx (Z16 x) (Z16 y)=some (Z16 (x+y)):=by
 unfold Hx;simp only[Acy]
 by_cases hs':x<0↔y<0
 .rw[if_pos (by rw[Oh,Oh];by_cases h:x<0 <;> simp[h] <;> omega),Au9 hx hy,Ad];refine Ahk ?_ ?_
  .rw[Oh];by_cases h:x<0 <;> simp[h] <;> omega
  .congr 1;omega
 .rw[if_neg (by rw[Oh,Oh];by_cases h:x<0 <;> simp[h] <;> omega),Au8 _ _ hx,Ad]
  by_cases h1:x.natAbs<y.natAbs
  .rw[show cmpN x.natAbs y.natAbs = -1 from if_pos h1,if_neg dD,if_neg dD,Akz hy oo,Ad];refine Ahk ?_ ?_
   .rw[Oh];by_cases h:y<0 <;> simp[h] <;> omega
   .congr 1;omega
  .by_cases h2:x.natAbs=y.natAbs
   .rw[show cmpN x.natAbs y.natAbs=0 from (if_neg h1).trans (if_pos h2),if_pos rfl];have:x+y=0:=oo;rw[this];rfl
   .rw[show cmpN x.natAbs y.natAbs=1 from (if_neg h1).trans (if_neg h2),if_neg dD,if_pos dD,Akz hx oo,Ad];refine Ahk ?_ ?_
    .rw[Oh];by_cases h:x<0 <;> simp[h] <;> omega
    .congr 1;omega
theorem Ava{z y:Int}:(!(decide (z<0)==decide (y<0)) && !decide (z.natAbs*y.natAbs=0))=decide (z*y<0):=by
 by_cases hz0:z=0
 .subst hz0;simp
 by_cases hy0:y=0
 .subst hy0;simp
 have h1:z.natAbs*y.natAbs≠0:=Nat.mul_ne_zero oo oo;rw[decide_eq_false h1];rcases Int.lt_or_le z 0 with hz|hz
 .rcases Int.lt_or_le y 0 with hy|hy
  .have:=Int.mul_pos_of_neg_of_neg hz hy;rw[decide_eq_true hz,decide_eq_true hy,decide_eq_false (show ¬z*y<0 by omega)];rfl
  .have:=Int.mul_neg_of_neg_of_pos hz (show 0<y by omega);rw[decide_eq_true hz,decide_eq_false (show ¬y<0 by omega),decide_eq_true this];rfl
 .rcases Int.lt_or_le y 0 with hy|hy
  .have:=Int.mul_neg_of_pos_of_neg (show 0<z by omega) hy;rw[decide_eq_true hy,decide_eq_false (show ¬z<0 by omega),decide_eq_true this];rfl
  .have:=Int.mul_pos (show 0<z by omega) (show 0<y by omega);rw[decide_eq_false (show ¬z<0 by omega),decide_eq_false (show ¬y<0 by omega),decide_eq_false (show ¬z*y<0 by omega)];rfl
theorem Ajv{x y:Int}(h:(dig 65536 x.natAbs).length+(dig 65536 y.natAbs).length<=1000000):Bc (Z16 x) (Z16 y)=some (Z16 (x*y)):=by
 unfold Bc;simp only[Acy,jn_d];rw[Acc h,Ad];have hsg:=Ava (z:=x) (y:=y);have e2:=Ag1 (a:=x.natAbs*y.natAbs)
 by_cases hs':x<0↔y<0
 .rw[if_pos (by rw[Oh,Oh];by_cases h:x<0 <;> simp[h] <;> omega)];refine Ahk ?_ (by rw[Int.natAbs_mul]);rw[<-hsg];have e:(decide (x<0)==decide (y<0))=true:=by by_cases h:x<0 <;> simp[h] <;> omega
  rw[e];rfl
 .rw[if_neg (by rw[Oh,Oh];by_cases h:x<0 <;> simp[h] <;> omega)];refine Ahk ?_ (by rw[Int.natAbs_mul]);rw[<-hsg];have e:(decide (x<0)==decide (y<0))=false:=by by_cases h:x<0 <;> simp[h] <;> omega
  rw[e]
  by_cases h0:x.natAbs*y.natAbs=0
  .have:=e2.2 h0;rw[decide_eq_true h0,decide_eq_false oo];rfl
  .have:(L16 (x.natAbs*y.natAbs)).length≠0:=fun e=>h0 (e2.1 e)
   rw[decide_eq_false h0,decide_eq_true oo];rfl
end
end Go.Proofs.YthlkpgdfifnagaaGreat
