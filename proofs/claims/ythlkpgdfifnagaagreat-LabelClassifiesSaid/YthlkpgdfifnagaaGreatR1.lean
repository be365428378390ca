import Derived.Test.YthlkpgdfifnagaaGreatIw
set_option maxRecDepth 100000
set_option maxHeartbeats 1000000
namespace Go.Proofs.YthlkpgdfifnagaaGreat
open Go Go.RowKit Tryz
noncomputable section
section
instance:Iy prog 28 [] [iq 0,iq 0]:=⟨fun w=>kr⟩
def Vi(p0:Ak)(p1:Aa):Option (Av×Bool):=
 bnd (Bt p1) fun r4=>
 bnd (Pj p0 r4) fun r7=>
 if r7<0 then (some ((⟨0,0⟩:Av),false))
 else (bnd (Bt p1) fun r0=>
 bnd (Pk p0 r7 r0) fun r1=>
 some ((⟨w64 (p1.Z.Lo-r1.Hi),w64 (p1.Z.Hi-r1.Lo)⟩:Av),true))
instance:SrtI prog 60 154 Ah 9 (fun l=>(ptIn l)) So (fun x=>.agg #[iq x.Id,iq x.X,iq x.Y,iq x.Z.Lo,iq x.Z.Hi,iq x.Wide,iq x.Num,iq x.Of,iq x.Class]):=⟨⟨_,func60,rfl,rfl⟩,fun l hb hp A m c t w hok hcm=>Aid l hb hp w hok hcm ⟨_,func154,rfl,rfl⟩,fun _ W x y px py=>⟨[.agg #[iq x.Id,iq x.X,iq x.Y,iq x.Z.Lo,iq x.Z.Hi,iq x.Wide,iq x.Num,iq x.Of,iq x.Class],.agg #[iq y.Id,iq y.X,iq y.Y,iq y.Z.Lo,iq y.Z.Hi,iq y.Wide,iq y.Num,iq y.Of,iq y.Class]],rfl,Agu x y (Aw0 px py) W⟩⟩
def Sv(r3:List Aa×List Aa)(p1:Ak)(p3:Af)(p2:LI):(List Aa×Int)->Option (Sum (List Aa×Int) (List Aa)):=fun s0=>
 if s0.2<(r3.1.length:Int) then (jn (fun (s1:List Aa)=>
 some (.inl (s1,w64 (s0.2+1))))
 (fun j0=>bnd (idx r3.1 s0.2) fun x0=>
 jn (fun (s2:Bool)=>
 if s2=true then (j0 s0.1)
 else (bnd (Vi p1 x0) fun r0=>
 jn (fun (s3:Bool)=>
 if s3=true then (gd ((s0.1.length+1)*72<=140737488355328)<|
 j0 (s0.1++[x0]))
 else (j0 s0.1))
 (fun j1=>if r0.2=true then (bnd (Bx p3.Tall r0.1.Lo p3.High) fun r1=>
 j1 r1)
 else (j1 false))))
 (fun j2=>if x0.Of=1 then (bnd (Ck p2 x0.Id) fun r2=>
 j2 r2)
 else (j2 true))))
 else (some (.inr s0.1))
def Xp(p0:List Aa)(p1:Ak)(p2:LI)(p3:Af):Option (List Aa):=
 bnd (Qc p0 p3) fun r3=>
 jn (fun (s4:List Aa)=>
 bnd (Sx Bt s4) fun r0=>
 gd (r0.length<=1000000000/\(∀x∈r0,(ptIn r0) x))<|
 some (Bi So r0))
 (fun j4=>bnd (lfix (Sv r3 p1 p3 p2) (([]:List Aa),0)) fun t0=>
 j4 t0)
def Nx(p0:LI):Int->Option (Sum Int Int):=fun s0=>
 bnd (idx p0 s0) fun x0=>
 if x0=s0 then (some (.inr s0))
 else (bnd (idx p0 s0) fun x1=>
 some (.inl x1))
def Pu(p0:LI)(p1:Int):Option Int :=
 jn (fun (s2:Int)=>
 some s2)
 (fun j2=>bnd (lfix (Nx p0) p1) fun t0=>
 j2 t0)
def Gx(p0:List Aa):(LI×Int)->Option (Sum (LI×Int) LI):=fun s0=>
 if s0.2<((((List.replicate (Int.toNat (p0.length:Int)) (0:Int)).length:Nat):Int)) then (bnd (idx s0.1 s0.2) fun x0=>
 some (.inl (setI s0.1 s0.2 s0.2,w64 (s0.2+1))))
 else (some (.inr s0.1))
def Fi(x0:Ag)(p0:List Aa)(p1:Af):(LI×Int)->Option (Sum (LI×Int) LI):=fun s0=>
 if s0.2<3 then (jn (fun (s1:LI)=>
 some (.inl (s1,w64 (s0.2+1))))
 (fun j0=>bnd (idx [x0.a0,x0.a1,x0.a2] s0.2) fun x1=>
 bnd (idx [x0.a0,x0.a1,x0.a2] (Int.tmod (w64 (s0.2+1)) 3)) fun x2=>
 jn (fun (s2:Bool)=>
 if s2=true then (j0 s0.1)
 else (bnd (Pu s0.1 x1) fun r0=>
 bnd (Pu s0.1 x2) fun r1=>
 bnd (idx s0.1 (max r0 r1)) fun x3=>
 j0 (setI s0.1 (max r0 r1) (min r0 r1))))
 (fun j1=>bnd (idx p0 x1) fun x4=>
 bnd (idx p0 x2) fun x5=>
 bnd (Vv x4 x5 p1.Link) fun r2=>
 if r2=true then (bnd (idx p0 x1) fun x6=>
 bnd (idx p0 x2) fun x7=>
 bnd (Vp x6.Z x7.Z) fun r3=>
 j1 (decide (p1.Flat<r3)))
 else (j1 true))))
 else (some (.inr s0.1))
def Fj(r0:Ak×Int)(p0:List Aa)(p1:Af):(LI×Int)->Option (Sum (LI×Int) LI):=fun s0=>
 if s0.2<(r0.1.T.length:Int) then (jn (fun (s1:LI)=>
 some (.inl (s1,w64 (s0.2+1))))
 (fun j0=>bnd (idx r0.1.T s0.2) fun x0=>
 bnd (lfix (Fi x0 p0 p1) (s0.1,0)) fun t0=>
 j0 t0))
 else (some (.inr s0.1))
def Fk(s0:LI):(LI×Int)->Option (Sum (LI×Int) LI):=fun s1=>
 if s1.2<(s0.length:Int) then (bnd (Pu s1.1 s1.2) fun r0=>
 bnd (idx s1.1 s1.2) fun x0=>
 some (.inl (setI s1.1 s1.2 r0,w64 (s1.2+1))))
 else (some (.inr s1.1))
def If(p0:List Aa)(p1:Af):Option LI:=
 gd ((0:Int)<=(p0.length:Int)/\8*Int.toNat (p0.length:Int)<=140737488355328)<|
 jn (fun (s3:LI)=>
 bnd (Nh p0) fun r0=>
 if r0.2=0 then (jn (fun (s0:LI)=>
 jn (fun (s1:LI)=>
 some s1)
 (fun j0=>bnd (lfix (Fk s0) (s0,0)) fun t0=>
 j0 t0))
 (fun j1=>bnd (lfix (Fj r0 p0 p1) (s3,0)) fun t1=>
 j1 t1))
 else (some s3))
 (fun j3=>bnd (lfix (Gx p0) (List.replicate (Int.toNat (p0.length:Int)) (0:Int),0)) fun t2=>
 j3 t2)
def Dj(r0:LI):(LI×Int)->Option (Sum (LI×Int) LI):=fun s0=>
 if s0.2<(r0.length:Int) then (bnd (idx r0 s0.2) fun x0=>
 bnd (idx s0.1 x0) fun x1=>
 bnd (idx s0.1 x0) fun x2=>
 some (.inl (setI s0.1 x0 (w64 (x1+1)),w64 (s0.2+1))))
 else (some (.inr s0.1))
def Gy(r3:List Aa)(r0:LI)(s5:LI)(p3:Af):(List Aa×Int)->Option (Sum (List Aa×Int) (List Aa)):=fun s0=>
 if s0.2<(r3.length:Int) then (jn (fun (s1:List Aa)=>
 some (.inl (s1,w64 (s0.2+1))))
 (fun j0=>bnd (idx r3 s0.2) fun x0=>
 bnd (idx r0 s0.2) fun x1=>
 bnd (idx s5 x1) fun x2=>
 if p3.Few<=x2 then (gd ((s0.1.length+1)*72<=140737488355328)<|
 j0 (s0.1++[x0]))
 else (j0 s0.1)))
 else (some (.inr s0.1))
def Nc(p0:List Aa)(p1:Ak)(p2:LI)(p3:Af):Option LI:=
 bnd (Xp p0 p1 p2 p3) fun r3=>
 bnd (If r3 p3) fun r0=>
 gd ((0:Int)<=(r3.length:Int)/\8*Int.toNat (r3.length:Int)<=140737488355328)<|
 jn (fun (s5:LI)=>
 jn (fun (s0:List Aa)=>
 bnd (Xi s0) fun r1=>
 some r1)
 (fun j0=>bnd (lfix (Gy r3 r0 s5 p3) (([]:List Aa),0)) fun t0=>
 j0 t0))
 (fun j5=>bnd (lfix (Dj r0) (List.replicate (Int.toNat (r3.length:Int)) (0:Int),0)) fun t1=>
 j5 t1)
def Wz(p0:LI):((List (Int×Bool))×Int)->Option (Sum ((List (Int×Bool))×Int) (List (Int×Bool))):=fun s0=>
 if s0.2<(p0.length:Int) then (bnd (idx p0 s0.2) fun x0=>
 gd ((-9223372036854775808<=x0/\x0<=9223372036854775807))<|
 gd (s0.1.length<9223372036854775807)<|
 some (.inl (mput s0.1 x0 true,w64 (s0.2+1))))
 else (some (.inr s0.1))
def Ue(p0:LI):Option (List (Int×Bool)):=
 jn (fun (s3:List (Int×Bool))=>
 some s3)
 (fun j3=>bnd (lfix (Wz p0) (([]:List (Int×Bool)),0)) fun t0=>
 j3 t0)
instance(p0:Ak)(p1:Aa):Con (Vi p0 p1) prog 39 (fun K vs=>∃U0 E0 U1 E1 U2 E2,vs=[.agg #[.slice U0 p0.V.length E0,.slice U1 p0.T.length E1,.slice U2 p0.Lines.length E2],.agg #[iq p1.Id,iq p1.X,iq p1.Y,iq p1.Z.Lo,iq p1.Z.Hi,iq p1.Wide,iq p1.Num,iq p1.Of,iq p1.Class]]/\Has K U0 p0.V.length E0 4 Al p0.V/\Has K U1 p0.T.length E1 3 Az p0.T/\Has K U2 p0.Lines.length E2 2 Ar p0.Lines/\True) (fun _ r=>fun v Ln=>v=.tuple #[.agg #[iq r.1.Lo,iq r.1.Hi],.bool r.2]/\Ln=[]/\True):=⟨by
 rintro K _ r ⟨U0,E0,U1,E1,U2,E2,rfl,ha0,ha1,ha2,-⟩ hx w hK;replace ha0:=ha0.lo hK;replace ha1:=ha1.lo hK;replace ha2:=ha2.lo hK;unfold Vi at hx;have:=dl 1 [1,1,2,2,2] [0,1,2,3,4];have:=dl 4 [1,0,1,2,2,4,3] [0,1,2,3,4,5,6] [5];refine CtS ntmps39 results39 ?_;exact au⟩
instance(p0:List Aa)(p1:Ak)(p2:LI)(p3:Af):Con (Xp p0 p1 p2 p3) prog 104 (fun K vs=>∃U0 E0 U1 E1 U2 E2 U3 E3 U4 E4,vs=[.slice U0 p0.length E0,.agg #[.slice U1 p1.V.length E1,.slice U2 p1.T.length E2,.slice U3 p1.Lines.length E3],.slice U4 p2.length E4,.agg #[iq p3.Cell,iq p3.Reach,iq p3.Slope,iq p3.Link,iq p3.Flat,iq p3.Tall,iq p3.High,iq p3.Low,iq p3.Brush,iq p3.Few]]/\Has K U0 p0.length E0 9 Ah p0/\Has K U1 p1.V.length E1 4 Al p1.V/\Has K U2 p1.T.length E2 3 Az p1.T/\Has K U3 p1.Lines.length E3 2 Ar p1.Lines/\Has K U4 p2.length E4 1 Aj p2/\True) (fun _ r=>fun v Ln=>∃A0 c0,v=.slice A0 r.length c0/\Ln=[.r A0 r.length c0 30 9 (r.flatMap Ah)]/\True):=⟨by
 rintro K _ r ⟨U0,E0,U1,E1,U2,E2,U3,E3,U4,E4,rfl,ha0,ha1,ha2,ha3,ha4,-⟩ hx w hK;replace ha0:=ha0.lo hK;replace ha1:=ha1.lo hK;replace ha2:=ha2.lo hK;replace ha3:=ha3.lo hK;replace ha4:=ha4.lo hK;unfold Xp at hx;refine CtS ntmps104 results104 ?_;refine pq ?_;intros;rename_i hx
 refine pA ?_;intros;rename_i hx
 apply Jr (γ:=OA×Nat) hx [] (fun s4 y4 f=>(11,.slice y4.1 s4.length y4.2)::f) [999] (fun s4 y4 l=>.r y4.1 s4.length y4.2 30 9 (s4.flatMap Ah)::l);exact kk
 .exact aI
 .refine pI ?_;intros;rename_i hx
  refine Bb 30 9 ?_;apply Lr (γ:=OA×Nat) hx [2,5,7,23,24] (fun s0 y0 f=>(11,.slice y0.1 s0.1.length y0.2)::(25,iq s0.2)::f) [1,3,4,999] (fun s0 y0 l=>.r y0.1 s0.1.length y0.2 30 9 (s0.1.flatMap Ah)::l) (_,_);exact kk;exact sk;intro s0 y0 x0 hx _;unfold Sv at hx;refine pq ?_;intros;rename_i hx
  refine Cq1 (s:=26) hx rfl ?_ ?_
  .refine pI ?_;intros;rename_i hx
   apply Jr (γ:=OA×Nat) hx [2,5,7,23,24,25] (fun s1 y1 f=>(11,.slice y1.1 s1.length y1.2)::f) [1,2,3,999] (fun s1 y1 l=>.r y1.1 s1.length y1.2 30 9 (s1.flatMap Ah)::l);exact kk
   .exact aI
   .refine pI ?_;intros;rename_i hx
    refine pA ?_;intros;rename_i hx
    apply Jr (γ:=Unit) hx [2,5,7,11,13,23,24,25] (fun s2 y2 f=>(37,.bool s2)::f) [0,1,2,3,4,999] (fun s2 y2 l=>l);exact kk
    .exact aI
    .exact aI
  .exact aI⟩
instance(p0:LI)(p1:Int):Con (Pu p0 p1) prog 156 (fun K vs=>∃U0 E0,vs=[.slice U0 p0.length E0,iq p1]/\Has K U0 p0.length E0 1 Aj p0/\True) (fun _ r=>fun v Ln=>v=iq r/\Ln=[]/\True):=⟨by
 rintro K _ r ⟨U0,E0,rfl,ha0,-⟩ hx w hK;replace ha0:=ha0.lo hK;unfold Pu at hx;refine CtS ntmps156 results156 ?_;refine pq ?_;intros;rename_i hx
 refine pA ?_;intros;rename_i hx
 apply Jr (γ:=Unit) hx [] (fun s2 y2 f=>(1,iq s2)::f) [999] (fun s2 y2 l=>l);exact kk
 .exact aI
 .refine pI ?_;intros;rename_i hx
  apply Lr (γ:=Unit) hx [0] (fun s0 y0 f=>(1,iq s0)::f) [999] (fun s0 y0 l=>l) ();exact kk;exact sk;intro s0 y0 x0 hx _;unfold Nx at hx;exact au⟩
instance(p0:List Aa)(p1:Af):Con (If p0 p1) prog 105 (fun K vs=>∃U0 E0,vs=[.slice U0 p0.length E0,.agg #[iq p1.Cell,iq p1.Reach,iq p1.Slope,iq p1.Link,iq p1.Flat,iq p1.Tall,iq p1.High,iq p1.Low,iq p1.Brush,iq p1.Few]]/\Has K U0 p0.length E0 9 Ah p0/\True) (fun _ r=>fun v Ln=>∃A0 c0,v=.slice A0 r.length c0/\Ln=[.r A0 r.length c0 3 1 (r.flatMap Aj)]/\True):=⟨by
 rintro K _ r ⟨U0,E0,rfl,ha0,-⟩ hx w hK;replace ha0:=ha0.lo hK;unfold If at hx;have:=dl 16 [0,0,1,0,0,0,0,1,2,2] [0,1,2,3,4,5,6,7,8,9];have:=dl 17 [0,0,0,1,0,0,0,1,0,1,2,0,0,0,0,0,0,1,0,0,0,0,1,2,0,1,0,0] [0,1,2,3,4,5,6,7,8,9,10,11,12,13,14,15,16,17,18,19,20,21,22,24,25,23,26,27];refine CtS ntmps105 results105 ?_;refine pq ?_;intros;rename_i hx
 apply Jr (γ:=OA×Nat) hx [0,3] (fun s3 y3 f=>(5,.slice y3.1 s3.length y3.2)::f) [1,999] (fun s3 y3 l=>.r y3.1 s3.length y3.2 3 1 (s3.flatMap Aj)::l);exact kk
 .intro s3 y3 hx;refine pq ?_;intros;rename_i hx
  refine Cq2 (s:=36) hx rfl ?_ ?_
  .exact aI
  .refine pI ?_;intros;rename_i hx
   apply Jr (γ:=OA×Nat) hx [] (fun s0 y0 f=>(5,.slice y0.1 s0.length y0.2)::f) [999] (fun s0 y0 l=>.r y0.1 s0.length y0.2 3 1 (s0.flatMap Aj)::l);exact kk
   .intro s0 y0 hx;apply Jr (γ:=OA×Nat) hx [] (fun s1 y1 f=>(5,.slice y1.1 s1.length y1.2)::f) [999] (fun s1 y1 l=>.r y1.1 s1.length y1.2 3 1 (s1.flatMap Aj)::l);exact kk
    .exact aI
    .refine pI ?_;intros;rename_i hx
     apply Lr (γ:=OA×Nat) hx [101] (fun s2 y2 f=>(5,.slice y2.1 s2.1.length y2.2)::(102,iq s2.2)::f) [999] (fun s2 y2 l=>.r y2.1 s2.1.length y2.2 3 1 (s2.1.flatMap Aj)::l) (_,_);exact kk;exact sk;intro s2 y2 x0 hx _;unfold Fk at hx;exact au
   .refine pI ?_;intros;rename_i hx
    apply Lr (γ:=OA×Nat) hx [0,3,39,40] (fun s4 y4 f=>(5,.slice y4.1 s4.1.length y4.2)::(41,iq s4.2)::f) [2,5,999] (fun s4 y4 l=>.r y4.1 s4.1.length y4.2 3 1 (s4.1.flatMap Aj)::l) (_,_);exact kk;exact sk;intro s4 y4 x1 hx _;unfold Fj at hx;refine pq ?_;intros;rename_i hx
    refine Cq1 (s:=42) hx rfl ?_ ?_
    .refine pI ?_;intros;rename_i hx
     apply Jr (γ:=OA×Nat) hx [0,3,39,40,41] (fun s5 y5 f=>(5,.slice y5.1 s5.length y5.2)::f) [1,2,999] (fun s5 y5 l=>.r y5.1 s5.length y5.2 3 1 (s5.flatMap Aj)::l);exact kk
     .exact aI
     .refine pI ?_;intros;rename_i hx
      apply Lr (γ:=OA×Nat) hx [0,3,10,39,40,41] (fun s6 y6 f=>(5,.slice y6.1 s6.1.length y6.2)::(45,iq s6.2)::f) [0,2,3,999] (fun s6 y6 l=>.r y6.1 s6.1.length y6.2 3 1 (s6.1.flatMap Aj)::l) (_,_);exact kk;exact sk;intro s6 y6 x2 hx _;unfold Fi at hx;refine pq ?_;intros;rename_i hx
      refine Cq1 (s:=46) hx rfl ?_ ?_
      .refine pI ?_;intros;rename_i hx
       apply Jr (γ:=OA×Nat) hx [0,3,10,39,40,41,45] (fun s7 y7 f=>(5,.slice y7.1 s7.length y7.2)::f) [1,2,3,999] (fun s7 y7 l=>.r y7.1 s7.length y7.2 3 1 (s7.flatMap Aj)::l);exact kk
       .exact aI
       .refine pI ?_;intros;rename_i hx
        refine pA ?_;intros;rename_i hx
        apply Jr (γ:=Unit) hx [0,3,5,10,12,13,39,40,41,45] (fun s8 y8 f=>(83,.bool s8)::f) [1,2,0,3,999] (fun s8 y8 l=>l);exact kk
        .exact aI
        .exact aI
      .exact aI
    .exact aI
 .refine pI ?_;intros;rename_i hx
  apply Lr (γ:=OA×Nat) hx [0,3,21] (fun s9 y9 f=>(5,.slice y9.1 s9.1.length y9.2)::(22,iq s9.2)::f) [1,999] (fun s9 y9 l=>.r y9.1 s9.1.length y9.2 3 1 (s9.1.flatMap Aj)::l) (_,_);exact kk;exact sk;intro s9 y9 x3 hx _;unfold Gx at hx;exact au⟩
instance(p0:List Aa)(p1:Ak)(p2:LI)(p3:Af):Con (Nc p0 p1 p2 p3) prog 52 (fun K vs=>∃U0 E0 U1 E1 U2 E2 U3 E3 U4 E4,vs=[.slice U0 p0.length E0,.agg #[.slice U1 p1.V.length E1,.slice U2 p1.T.length E2,.slice U3 p1.Lines.length E3],.slice U4 p2.length E4,.agg #[iq p3.Cell,iq p3.Reach,iq p3.Slope,iq p3.Link,iq p3.Flat,iq p3.Tall,iq p3.High,iq p3.Low,iq p3.Brush,iq p3.Few]]/\Has K U0 p0.length E0 9 Ah p0/\Has K U1 p1.V.length E1 4 Al p1.V/\Has K U2 p1.T.length E2 3 Az p1.T/\Has K U3 p1.Lines.length E3 2 Ar p1.Lines/\Has K U4 p2.length E4 1 Aj p2/\True) (fun _ r=>fun v Ln=>∃A0 c0,v=.slice A0 r.length c0/\Ln=[.r A0 r.length c0 3 1 (r.flatMap Aj)]/\True):=⟨by
 rintro K _ r ⟨U0,E0,U1,E1,U2,E2,U3,E3,U4,E4,rfl,ha0,ha1,ha2,ha3,ha4,-⟩ hx w hK;replace ha0:=ha0.lo hK;replace ha1:=ha1.lo hK;replace ha2:=ha2.lo hK;replace ha3:=ha3.lo hK;replace ha4:=ha4.lo hK;unfold Nc at hx;have:=dl 13 [0,0,0,0,1,0,1,0,1,0] [0,1,2,3,4,5,6,7,8,9];refine CtS ntmps52 results52 ?_;refine pq ?_;intros;rename_i hx
 apply Jr (γ:=OA×Nat) hx [7,9,10] (fun s5 y5 f=>(11,.slice y5.1 s5.length y5.2)::f) [1,2,3,999] (fun s5 y5 l=>.r y5.1 s5.length y5.2 3 1 (s5.flatMap Aj)::l);exact kk
 .intro s5 y5 hx;refine pq ?_;intros;rename_i hx
  refine pA ?_;intros;rename_i hx
  apply Jr (γ:=OA×Nat) hx [] (fun s0 y0 f=>(14,.slice y0.1 s0.length y0.2)::f) [999] (fun s0 y0 l=>.r y0.1 s0.length y0.2 30 9 (s0.flatMap Ah)::l);exact kk
  .exact aI
  .refine pI ?_;intros;rename_i hx
   refine Bb 30 9 ?_;apply Lr (γ:=OA×Nat) hx [7,10,11,41,42] (fun s1 y1 f=>(14,.slice y1.1 s1.1.length y1.2)::(43,iq s1.2)::f) [1,2,3,4,999] (fun s1 y1 l=>.r y1.1 s1.1.length y1.2 30 9 (s1.1.flatMap Ah)::l) (_,_);exact kk;exact sk;intro s1 y1 x0 hx _;unfold Gy at hx;exact au
 .refine pI ?_;intros;rename_i hx
  apply Lr (γ:=OA×Nat) hx [7,9,10,28,29] (fun s2 y2 f=>(11,.slice y2.1 s2.1.length y2.2)::(30,iq s2.2)::f) [1,2,3,999] (fun s2 y2 l=>.r y2.1 s2.1.length y2.2 3 1 (s2.1.flatMap Aj)::l) (_,_);exact kk;exact sk;intro s2 y2 x1 hx _;unfold Dj at hx;exact au⟩
theorem Ak3(p0:LI){K:LE}{U0:OA}{E0:Nat}(ha0:Has K U0 p0.length E0 1 Aj p0){r:List (Int×Bool)}(hx:Ue p0=some r)(w:World)(hK:∀e∈K,Ent.ok w e):CtL prog 109 [.slice U0 p0.length E0] w fun v Ln=>∃(g0_:Nat),v=.map (some g0_)/\Ln=[Be prog 3 Cw By g0_ r]/\True:=by
 have ha0':=Has.up0 ha0;refine CtL.mk 19 func109 rfl ntmps109 kr rfl ?_;show T 19 _ [(0,.slice U0 p0.length E0)] _;unfold Ue at hx;refine Y8 ?_;refine Df (Zg rfl 3 underlying42) rfl ?_;refine T_x (Aey prog 3 Cw By underlying136 rfl rfl (fun g1=>?_));refine Y3 ?_;refine Tj (γ:=Unit) hx (fun s3 y3=>[(3,.map (some g1))]) (fun s3 y3=>[Be prog 3 Cw By g1 s3]++[.old w]) (fun s3 y3=>True) (fun s3 y3 hx0 hG0=>?_) (fun j3 hx=>?_)
 .refine Y7 ?_;obtain rfl:=Option.some.inj hx0;exact Oz (rs:=[.tmp 2]) results109 (.tmp rfl (.nil)) (Ln:=[Be prog 3 Cw By g1 s3]) ⟨g1,rfl,rfl,trivial⟩ (Bn rfl Fw) (by exact .pick 0 rfl (.refl))
 .refine Y3 ?_;refine Df (Zg rfl 3 underlying42) rfl ?_;refine Y4 ?_;obtain⟨t0,hl0,ho0⟩:=Bh hx;refine Lp (σ:=(List (Int×Bool))×Int) (γ:=Unit) hl0 (fun s0 y0=>[(3,.map (some g1)),(9,.slice U0 p0.length E0),(10,iq (p0.length:Int)),(11,iq s0.2)]) (fun s0 y0=>[Be prog 3 Cw By g1 s0.1]++[.old w]) (fun s0 y0=>True) () trivial (by exact .pick 0 rfl (.refl)) ?_;intro s0 y0 hG1 x0 hx1 ht0;unfold Wz at hx1;refine Y6 ?_;refine Ti hx1 (s:=12) rfl (fun h0 hx2=>?_) (fun h0 hx3=>?_)
  .refine Y7 ?_;obtain⟨x1,h1,hx4⟩:=Bh hx2;have hw0:=Has.low (E:=[]) ha0' hK;obtain⟨b0,o0,j0,hA0,hj0,hl1,hp0⟩:=Has.at_idx hw0 h1;refine Df (Tm rfl rfl hA0 (j:=j0) hj0 hl1 Aiv) rfl ?_;refine Df (Qv rfl hp0 (sb 1) rfl one3) rfl ?_;refine Y6 ?_;obtain⟨h2,hx5⟩:=Ek hx4;obtain⟨h3,hx6⟩:=Ek hx5;refine T_h (Ad2 (x:=x1) (y:=true) key3 Uo underlying136 rfl rfl rfl rfl rfl (.here) (isk3 x1 h2) h3 ?_);refine Y7 ?_;exact Rp (mput s0.1 x1 true,w64 (s0.2+1)) () hx6 trivial (by exact .pick 0 rfl (.refl))
  .refine Y3 ?_;obtain rfl:=Yo ht0 hx3;refine Y2 ?_;exact Mt s0.1 () ho0 trivial (by exact .pick 0 rfl (.refl))
instance(p0:LI):Con (Ue p0) prog 109 (fun K vs=>∃U0 E0,vs=[.slice U0 p0.length E0]/\Has K U0 p0.length E0 1 Aj p0/\True) (fun _ r=>fun v Ln=>∃g0_,v=.map (some g0_)/\Ln=[Be prog 3 Cw By g0_ r]/\True):=⟨by
 rintro K _ r ⟨U0,E0,rfl,ha0,-⟩ hx w hK;exact Ak3 p0 ha0 hx w hK⟩
open Go.Maps (Keyed)
end
instance:Br prog 139 2 13:=⟨.mk underlying139 rfl rfl (show prog.info? 136=some t136 from by kernel_rfl) (show t136.size=1 from by kernel_rfl) rfl⟩
instance:OneI prog 136:=⟨.mk underlying136 rfl (show prog.info? 136=some t136 from by kernel_rfl) kr⟩
instance:Br prog 139 3 14:=⟨.mk underlying139 rfl rfl (show prog.info? 136=some t136 from by kernel_rfl) (show t136.size=1 from by kernel_rfl) rfl⟩
instance:Br prog 139 1 10:=⟨.mk underlying139 rfl rfl (show prog.info? 26=some t26 from by kernel_rfl) (show t26.size=3 from by kernel_rfl) rfl⟩
instance:Br prog 139 0 0:=⟨.mk underlying139 rfl rfl (show prog.info? 32=some t32 from by kernel_rfl) (show t32.size=10 from by kernel_rfl) rfl⟩
instance:Br prog 139 4 15:=⟨.mk underlying139 rfl rfl (show prog.info? 136=some t136 from by kernel_rfl) (show t136.size=1 from by kernel_rfl) rfl⟩
instance(x0:Int)(x1:Int)(x2:Int)(x3:Int)(x4:Int)(x5:Int)(x6:Int)(x7:Int)(x8:Int)(x9:Int)(x10:OA)(x11:Nat)(x12:Nat)(x13:OA)(x14:Nat)(x15:Nat)(x16:OA)(x17:Nat)(x18:Nat)(x19:Nat)(x20:Nat)(x21:Nat):Iy prog 139 [(0,.agg #[iq x0,iq x1,iq x2,iq x3,iq x4,iq x5,iq x6,iq x7,iq x8,iq x9]),(1,.agg #[.slice x10 x11 x12,.slice x13 x14 x15,.slice x16 x17 x18]),(2,.map (some x19)),(3,.map (some x20)),(4,.map (some x21))] [iq x0,iq x1,iq x2,iq x3,iq x4,iq x5,iq x6,iq x7,iq x8,iq x9,.slice x10 x11 x12,.slice x13 x14 x15,.slice x16 x17 x18,.map (some x19),.map (some x20),.map (some x21)]:=⟨fun w=>kr⟩
structure Ts where
 r:Af
 m:Ak
 sunk:List (Int×Bool)
 ground:List (Int×Bool)
 roof:List (Int×Bool)
def Gb(p0:Ts)(p1:Aa):Option Int :=
 gd ((-9223372036854775808<=p1.Id/\p1.Id<=9223372036854775807))<|
 bnd (some ((mget p0.sunk p1.Id).getD false)) fun x4=>
 if x4=true then (some 7)
 else (gd ((-9223372036854775808<=p1.Id/\p1.Id<=9223372036854775807))<|
 bnd (some ((mget p0.ground p1.Id).getD false)) fun x0=>
 if x0=true then (some 2)
 else (jn (fun (s8:Int×Int×Bool)=>
 if s8.2.2=true then (jn (fun (s0:Bool)=>
 if s0=true then (some 7)
 else (gd ((-9223372036854775808<=p1.Id/\p1.Id<=9223372036854775807))<|
 bnd (some ((mget p0.roof p1.Id).getD false)) fun x1=>
 if x1=true then (some 6)
 else (if p0.r.Brush<=s8.1 then (some 5)
 else (some 1))))
 (fun j0=>if p0.r.High<s8.1 then (j0 true)
 else (j0 (decide (s8.2.1<(w64 (-p0.r.Low)))))))
 else (some 1))
 (fun j8=>bnd (Vi p0.m p1) fun r0=>
 j8 (r0.1.Lo,r0.1.Hi,r0.2))))
def Qy(p0:List Aa)(p1:Af)(s5:List Ae×List Ag×List Ac)(r0:List (Int×Bool))(r1:List (Int×Bool))(r2:List (Int×Bool)):(LI×Int)->Option (Sum (LI×Int) LI):=fun s0=>
 if s0.2<(p0.length:Int) then (bnd (idx p0 s0.2) fun x0=>
 bnd (Gb (⟨p1,(⟨s5.1,s5.2.1,s5.2.2⟩:Ak),r0,r1,r2⟩:Ts) x0) fun r3=>
 gd ((s0.1.length+1)*8<=140737488355328)<|
 some (.inl (s0.1++[r3],w64 (s0.2+1))))
 else (some (.inr s0.1))
def Lc(p0:List Aa)(p1:Af):Option LI:=
 bnd (Qc p0 p1) fun r2=>
 bnd (Iv p0 p1) fun r9=>
 bnd (Bv p0 r9) fun r0=>
 jn (fun (s5:List Ae×List Ag×List Ac)=>
 bnd (Xi r2.2) fun r1=>
 bnd (Ue r1) fun r3=>
 bnd (Ue r9) fun r4=>
 bnd (Nc p0 (⟨s5.1,s5.2.1,s5.2.2⟩:Ak) r9 p1) fun r5=>
 bnd (Ue r5) fun r6=>
 gd ((0:Int)<=(p0.length:Int)/\8*Int.toNat (p0.length:Int)<=140737488355328)<|
 jn (fun (s9:LI)=>
 some s9)
 (fun j9=>bnd (lfix (Qy p0 p1 s5 r3 r4 r6) (([]:LI),0)) fun t0=>
 j9 t0))
 (fun j5=>if r0.2=0 then (j5 (r0.1.V,r0.1.T,r0.1.Lines))
 else (j5 (([]:List Ae),([]:List Ag),([]:List Ac))))
def Im(p0:List Aa)(p1:Af):Option (LI×Int):=
 bnd (Qw p0 p1) fun r2=>
 if r2=0 then (bnd (Lc p0 p1) fun r8=>
 some (r8,0))
 else (some (([]:LI),r2))
instance(p0:Ts)(p1:Aa):Con (Gb p0 p1) prog 110 (fun K vs=>∃g0_0 gm0_0 gm0_1 gm0_2 U0 E0 U1 E1 U2 E2,vs=[.pointer (some ⟨g0_0,0,none⟩),.agg #[iq p1.Id,iq p1.X,iq p1.Y,iq p1.Z.Lo,iq p1.Z.Hi,iq p1.Wide,iq p1.Num,iq p1.Of,iq p1.Class]]/\Pt K g0_0 0 [iq p0.r.Cell,iq p0.r.Reach,iq p0.r.Slope,iq p0.r.Link,iq p0.r.Flat,iq p0.r.Tall,iq p0.r.High,iq p0.r.Low,iq p0.r.Brush,iq p0.r.Few,.slice U0 p0.m.V.length E0,.slice U1 p0.m.T.length E1,.slice U2 p0.m.Lines.length E2,.map (some gm0_0),.map (some gm0_1),.map (some gm0_2)]/\Has K U0 p0.m.V.length E0 4 Al p0.m.V/\Has K U1 p0.m.T.length E1 3 Az p0.m.T/\Has K U2 p0.m.Lines.length E2 2 Ar p0.m.Lines/\MapK K prog 3 Cw By gm0_0 p0.sunk/\MapK K prog 3 Cw By gm0_1 p0.ground/\MapK K prog 3 Cw By gm0_2 p0.roof/\True) (fun _ r=>fun v Ln=>v=iq r/\Ln=[]/\True):=⟨by
 rintro K _ r ⟨g0_0,gm0_0,gm0_1,gm0_2,U0,E0,U1,E1,U2,E2,rfl,hp0,ha0,ha1,ha2,hm0_0,hm0_1,hm0_2,-⟩ hx w hK;replace hp0:=Pt.lo hp0 hK;replace ha0:=ha0.lo hK;replace ha1:=ha1.lo hK;replace ha2:=ha2.lo hK;replace hm0_0:=MapK.lo hm0_0 hK;replace hm0_1:=MapK.lo hm0_1 hK;replace hm0_2:=MapK.lo hm0_2 hK;unfold Gb at hx;have:=dl 1 [0,0,0,1,0,1,1] [0,1,2,3,4,5,6];have:=dl 3 [0,0,0,1,0,1,1] [0,1,2,3,4,5,6];have:=dp 5 [0,0,0,1,1,2,0,0,0,2,3,2] (.q 0 (.q 1 (.q 2 (.q 3 (.q 4 (.e 5 (.q 6 (.q 7 (.q 8 (.e 9 (.e 10 (.e 11 (.done) (.stop)) (.stop)) (.stop))))) (.e 9 (.e 5 (.q 6 (.q 7 (.q 8 (.e 10 (.e 11 (.done) (.stop)) (.stop))))) (.stop)) (.stop))))))));have:=dl 8 [0,1,0,0,0,0,1,0,0,0,1,0,0,0,0,1,0,0,0,2] [0,1,2,3,4,5,6,7,8,9,10,11,12,13,14,15,16,17,18,19];have:=dl 10 [0,0,0,1,0,1,1,2] [0,1,2,3,4,5,6,7];have:=dl 12 [0,1,0,0,0,0,1,0,2] [0,1,2,3,4,5,6,7,8];refine CtS ntmps110 results110 ?_;refine pq ?_;intros;rename_i hx
 refine Cq3 (s:=13) hx rfl ?_ ?_
 .exact aI
 .refine pI ?_;intros;rename_i hx
  refine Cq3 (s:=20) hx rfl ?_ ?_
  .exact aI
  .refine pI ?_;intros;rename_i hx
   apply Jr (γ:=Nat) hx [0,3] (fun s8 y8 f=>(5,.pointer (some ⟨y8,0,none⟩))::(6,.bool s8.2.2)::f) [0,999] (fun s8 y8 l=>.m y8 28 [iq s8.1,iq s8.2.1]::l);exact kk
   .intro s8 y8 hx;refine pq ?_;intros;rename_i hx
    refine Cq4 (s:=30) hx rfl ?_ ?_
    .exact aI
    .refine pI ?_;intros;rename_i hx
     apply Jr (γ:=Unit) hx [0,3,5] (fun s12 y12 f=>(33,.bool s12)::f) [0,1,999] (fun s12 y12 l=>l);exact kk
     .exact aI
     .exact aI
   .exact aI⟩
instance(p0:List Aa)(p1:Af):Con (Lc p0 p1) prog 55 (fun K vs=>∃U0 E0,vs=[.slice U0 p0.length E0,.agg #[iq p1.Cell,iq p1.Reach,iq p1.Slope,iq p1.Link,iq p1.Flat,iq p1.Tall,iq p1.High,iq p1.Low,iq p1.Brush,iq p1.Few]]/\Has K U0 p0.length E0 9 Ah p0/\True) (fun _ r=>fun v Ln=>∃A0 c0,v=.slice A0 r.length c0/\Ln=[.r A0 r.length c0 3 1 (r.flatMap Aj)]/\True):=⟨by
 rintro K _ r ⟨U0,E0,rfl,ha0,-⟩ hx w hK;replace ha0:=ha0.lo hK;unfold Lc at hx;have:=dl 6 [1,1,0,2,2,0,2,0,1,0,1,2,2,0,2,2] [0,1,2,5,7,8,9,10,3,4,6,11,12,13,14,15];refine CtS ntmps55 results55 ?_;refine pq ?_;intros;rename_i hx
 apply Jr (γ:=OA×Nat×OA×Nat×OA×Nat×Nat) hx [0,3,6,7] (fun s5 y5 f=>(8,.pointer (some ⟨y5.2.2.2.2.2.2,0,none⟩))::f) [4,6,7,999] (fun s5 y5 l=>.r y5.1 s5.1.length y5.2.1 108 4 (s5.1.flatMap Al) :: .r y5.2.2.1 s5.2.1.length y5.2.2.2.1 101 3 (s5.2.1.flatMap Az) :: .r y5.2.2.2.2.1 s5.2.2.length y5.2.2.2.2.2.1 103 2 (s5.2.2.flatMap Ar) :: .m y5.2.2.2.2.2.2 26 [.slice y5.1 s5.1.length y5.2.1,.slice y5.2.2.1 s5.2.1.length y5.2.2.2.1,.slice y5.2.2.2.2.1 s5.2.2.length y5.2.2.2.2.2.1]::l);exact kk
 .intro s5 y5 hx;refine pq ?_;intros;rename_i hx
  apply Jr (γ:=OA×Nat) hx [] (fun s9 y9 f=>(11,.slice y9.1 s9.length y9.2)::f) [999] (fun s9 y9 l=>.r y9.1 s9.length y9.2 3 1 (s9.flatMap Aj)::l);exact kk
  .exact aI
  .refine pI ?_;intros;rename_i hx
   apply Lr (γ:=OA×Nat) hx [10,50,51] (fun s106 y106 f=>(11,.slice y106.1 s106.1.length y106.2)::(52,iq s106.2)::f) [1,2,4,5,7,8,9,999] (fun s106 y106 l=>.r y106.1 s106.1.length y106.2 3 1 (s106.1.flatMap Aj)::l) (_,_);exact kk;exact sk;intro s106 y106 x106 hx _;unfold Qy at hx;exact au
 .exact aI⟩
instance(p0:List Aa)(p1:Af):Con (Im p0 p1) prog 23 (fun K vs=>∃U0 E0,vs=[.slice U0 p0.length E0,.agg #[iq p1.Cell,iq p1.Reach,iq p1.Slope,iq p1.Link,iq p1.Flat,iq p1.Tall,iq p1.High,iq p1.Low,iq p1.Brush,iq p1.Few]]/\Has K U0 p0.length E0 9 Ah p0/\True) (fun _ r=>fun v Ln=>∃A0 c0,v=.tuple #[.slice A0 r.1.length c0,iq r.2]/\Ln=[.r A0 r.1.length c0 3 1 (r.1.flatMap Aj)]/\True):=⟨by
 rintro K _ r ⟨U0,E0,rfl,ha0,-⟩ hx w hK;replace ha0:=ha0.lo hK;unfold Im at hx;refine CtS ntmps23 results23 ?_;exact au⟩
theorem Amy  : Nu prog 41 0 [] 30 []:=fun w=>kr
instance:Ns prog 41 0 [] 30 []:=⟨Amy⟩
def Aa8(p0:List Aa):Option (List Aa):=gd (p0.length*72<=140737488355328) <| some p0
theorem Adg(p0:List Aa){K:List Ent}{U0:Option Addr}{E0:Nat}(ha0:Has K U0 p0.length E0 9 Ah p0){r:List Aa}(hx:Aa8 p0=some r)(w:World)(hK:∀ e∈K,Ent.ok w e):
  CtL prog 59 [.slice U0 p0.length E0] w (fun v Ln=>∃(A0:OA) (c0:Nat),v=.slice A0 r.length c0/\Ln=[.r A0 r.length c0 30 9 (r.flatMap Ah)]/\True):=by
 obtain⟨hb,hx⟩:=Ek hx;obtain rfl:=Option.some.inj hx;have ha:Has [.old w] U0 p0.length E0 9 Ah p0:=Has.low (E:=[]) (by rw[List.append_nil];exact ha0) hK;refine CtL.mk 8 func59 rfl ntmps59 kr rfl ?_;show T 8 _ [(0,.slice U0 p0.length E0)] _;refine Y9 ?_;refine Df (Afu underlying41 rfl rfl) rfl ?_;refine Y2 ?_;cases hA:U0 with
 |none=>
  subst hA;have h0:p0=[]:=by
   cases p0 with
   |nil=>rfl
   |cons x r=>obtain⟨b,o,h,_⟩:=ha.at_ s_;cases h
  subst h0;refine Y8 ?_;refine Bb 30 9 ?_;exact Oz (rs:=[.tmp 2]) results59 (.tmp rfl .nil) (Ln:=[.r none 0 0 30 9 []]) ⟨none,0,rfl,rfl,trivial⟩ (Bn rfl Fw) (.pick 0 rfl (.pick 0 rfl .refl))
 |some a=>
  subst hA;refine Y5 ?_;refine T_x (Ih rfl Amy rfl (fun g5=>?_));refine Y ?_;refine T_mr (enc:=Ah) (sz:=9) (([]:List Aa)) (.here) rfl rfl (fun _=>rfl) dD ?_;refine T_h (Xu Ah ([]:List Aa) p0 rfl rfl Azi (fun _=>rfl) ha (sb 1) (fun _=>rfl) (by rw[List.length_nil,Nat.zero_add];exact hb) rfl (fun _ _=>.here) dD (fun A1 c1=>?_));refine Y4 ?_;exact Oz (rs:=[.tmp 2]) results59 (.tmp rfl .nil) (Ln:=[.r A1 p0.length c1 30 9 (p0.flatMap Ah)]) ⟨A1,c1,rfl,rfl,trivial⟩ (Bn rfl Fw) (.pick 0 rfl (.pick 0 rfl .refl))
instance(p0:List Aa):Con (Aa8 p0) prog 59 (fun K vs=>∃U0 E0,vs=[.slice U0 p0.length E0]/\Has K U0 p0.length E0 9 Ah p0/\True) (fun _ r=>fun v Ln=>∃A0 c0,v=.slice A0 r.length c0/\Ln=[.r A0 r.length c0 30 9 (r.flatMap Ah)]/\True):=⟨by rintro K _ r ⟨A,c,rfl,ha,-⟩ hx w hK;exact Adg p0 ha hx w hK⟩
instance:Um prog 117 [.bool false,.slice none 0 0]:=⟨⟨_,zeroValue117,rfl⟩⟩
instance(x0:Bool)(x1:OA)(x2:Nat)(x3:Nat):Iy prog 117 [(0,.bool x0),(1,.slice x1 x2 x3)] [.bool x0,.slice x1 x2 x3]:=⟨fun w=>kr⟩
instance:AggI prog 117 2:=⟨.mk underlying117 rfl (show prog.info? 117=some t117 from by kernel_rfl) kr⟩
instance(x0:Bool)(x1:OA)(x2:Nat)(x3:Nat):Al9 prog 117 [.bool x0,.slice x1 x2 x3] 1 (.slice x1 x2 x3):=⟨fun w=>kr⟩
def Km(p0:Av):Option Bool :=
 jn (fun (s2:Bool)=>
 some s2)
 (fun j2=>if (-1152921504606846976)<=p0.Lo then (if p0.Lo<=p0.Hi then (j2 (decide (p0.Hi<=1152921504606846976)))
 else (j2 false))
 else (j2 false))
def Us(p0:Av)(p1:Av):Option (Int×Int):=
 jn (fun (s3:Bool)=>
 if s3=true then (some (0,2))
 else (some (max 0 (w64 ((max p0.Lo p1.Lo)-(min p0.Hi p1.Hi))),0)))
 (fun j3=>bnd (Km p0) fun r3=>
 if r3=true then (bnd (Km p1) fun r9=>
 j3 (!(r9)))
 else (j3 true))
def Jm  : (Int×LI)->Option (Sum (Int×LI) LI):=fun s0=>
 if 0<s0.1 then (gd ((s0.2.length+1)*8<=140737488355328)<|
 some (.inl (wu64 (Int.tdiv s0.1 65536),s0.2++[w64 (Int.tmod s0.1 65536)])))
 else (some (.inr s0.2))
def Bd(p0:Int):Option Ai :=
 jn (fun (s3:Int)=>
 jn (fun (s6:LI)=>
 some (⟨decide (p0<0),s6⟩:Ai))
 (fun j6=>bnd (lfix Jm (s3,([]:LI))) fun t0=>
 j6 t0))
 (fun j3=>if p0<0 then (j3 (wu64 (-(wu64 p0))))
 else (j3 (wu64 p0)))
def Pv(p0:LI):Int->Option (Sum Int Int):=fun s0=>
 jn (fun (s7:Bool)=>
 if s7=true then (some (.inl (w64 (s0-1))))
 else (some (.inr s0)))
 (fun j7=>if 0<s0 then (bnd (idx p0 (w64 (s0-1))) fun x0=>
 j7 (decide (x0=0)))
 else (j7 false))
def Bk(p0:LI):Option LI:=
 jn (fun (s3:Int)=>
 gd (0<=s3/\s3<=(p0.length:Int))<|
 some (subl p0 0 s3))
 (fun j3=>bnd (lfix (Pv p0) (p0.length:Int)) fun t0=>
 j3 t0)
theorem Apd{l r:LI}(h:Bk l=some r):∃k,r=l.take k:=by
 unfold Bk at h;simp only[jn] at h;obtain⟨n,_,h⟩:=Bh h;obtain⟨_,h⟩:=Ek h;obtain rfl:=Option.some.inj h;exact⟨_,Bb2 _ _⟩
def Mh(p0:LI)(p1:LI):Int->Option (Sum Int (Sum Unit Int)):=fun s0=>
 if 0<=s0 then (bnd (idx p0 s0) fun x0=>
 bnd (idx p1 s0) fun x1=>
 if x0=x1 then (some (.inl (w64 (s0-1))))
 else (bnd (idx p0 s0) fun x2=>
 bnd (idx p1 s0) fun x3=>
 if x2<x3 then (some (.inr (.inr (-1))))
 else (some (.inr (.inr 1)))))
 else (some (.inr (.inl ())))
def Fd(p0:LI)(p1:LI):Option Int :=
 if (p0.length:Int)=(p1.length:Int) then (jn (fun (s8:Unit)=>
 some 0)
 (fun j8=>bnd (lfix (Mh p0 p1) (w64 ((p0.length:Int)-1))) fun t0=>
 (match t0 with
 |(.inl z0)=>j8 z0
 |(.inr z0)=>some z0
 )))
 else (if (p0.length:Int)<(p1.length:Int) then (some (-1))
 else (some 1))
def Hn(p1:LI)(p0:LI):(LI×Int×Int)->Option (Sum (LI×Int×Int) LI):=fun s0=>
 jn (fun (s1:Bool)=>
 if s1=true then (jn (fun (s2:Int)=>
 jn (fun (s3:Int)=>
 gd ((s0.1.length+1)*8<=140737488355328)<|
 some (.inl (s0.1++[Int.tmod s3 65536],w64 (Int.tdiv s3 65536),w64 (s0.2.2+1))))
 (fun j0=>if s0.2.2<(p1.length:Int) then (bnd (idx p1 s0.2.2) fun x0=>
 j0 (w64 (s2+x0)))
 else (j0 s2)))
 (fun j1=>if s0.2.2<(p0.length:Int) then (bnd (idx p0 s0.2.2) fun x1=>
 j1 (w64 (s0.2.1+x1)))
 else (j1 s0.2.1)))
 else (some (.inr s0.1)))
 (fun j2=>if s0.2.2<(p0.length:Int) then (j2 true)
 else (if s0.2.2<(p1.length:Int) then (j2 true)
 else (j2 (decide (0<s0.2.1)))))
def Jh(p0:LI)(p1:LI):Option LI:=
 jn (fun (s4:LI)=>
 bnd (Bk s4) fun r0=>
 some r0)
 (fun j4=>bnd (lfix (Hn p1 p0) (([]:LI),0,0)) fun t0=>
 j4 t0)
def Fe(p0:LI)(p1:LI):(LI×Int×Int)->Option (Sum (LI×Int×Int) LI):=fun s0=>
 if s0.2.2<(p0.length:Int) then (bnd (idx p0 s0.2.2) fun x0=>
 jn (fun (s1:Int)=>
 jn (fun (s2:Int×Int)=>
 gd ((s0.1.length+1)*8<=140737488355328)<|
 some (.inl (s0.1++[s2.2],s2.1,w64 (s0.2.2+1))))
 (fun j0=>if s1<0 then (j0 (1,w64 (s1+65536)))
 else (j0 (0,s1))))
 (fun j1=>if s0.2.2<(p1.length:Int) then (bnd (idx p1 s0.2.2) fun x1=>
 j1 (w64 ((w64 (x0-s0.2.1))-x1)))
 else (j1 (w64 (x0-s0.2.1)))))
 else (some (.inr s0.1))
def Ez(p0:LI)(p1:LI):Option LI:=
 jn (fun (s4:LI)=>
 bnd (Bk s4) fun r0=>
 some r0)
 (fun j4=>bnd (lfix (Fe p0 p1) (([]:LI),0,0)) fun t0=>
 j4 t0)
def Gp(p1:LI)(p0:LI)(s0:LI×Int):(LI×Int×Int)->Option (Sum (LI×Int×Int) (LI×Int)):=fun s1=>
 if s1.2.2<(p1.length:Int) then (bnd (idx p0 s0.2) fun x0=>
 bnd (idx p1 s1.2.2) fun x1=>
 bnd (idx s1.1 (w64 (s0.2+s1.2.2))) fun x2=>
 bnd (idx s1.1 (w64 (s0.2+s1.2.2))) fun x3=>
 some (.inl (setI s1.1 (w64 (s0.2+s1.2.2)) (Int.tmod (w64 ((w64 ((w64 (x0*x1))+x2))+s1.2.1)) 65536),w64 (Int.tdiv (w64 ((w64 ((w64 (x0*x1))+x2))+s1.2.1)) 65536),w64 (s1.2.2+1))))
 else (some (.inr (s1.1,s1.2.1)))
def Gq(p0:LI)(p1:LI):(LI×Int)->Option (Sum (LI×Int) LI):=fun s0=>
 if s0.2<(p0.length:Int) then (jn (fun (s1:LI×Int)=>
 bnd (idx s1.1 (w64 (s0.2+(p1.length:Int)))) fun x0=>
 some (.inl (setI s1.1 (w64 (s0.2+(p1.length:Int))) s1.2,w64 (s0.2+1))))
 (fun j0=>bnd (lfix (Gp p1 p0 s0) (s0.1,0,0)) fun t0=>
 j0 t0))
 else (some (.inr s0.1))
def Ci(p0:LI)(p1:LI):Option LI:=
 gd ((0:Int)<=(w64 ((p0.length:Int)+(p1.length:Int)))/\8*Int.toNat (w64 ((p0.length:Int)+(p1.length:Int)))<=140737488355328)<|
 jn (fun (s3:LI)=>
 bnd (Bk s3) fun r0=>
 some r0)
 (fun j3=>bnd (lfix (Gq p0 p1) (List.replicate (Int.toNat (w64 ((p0.length:Int)+(p1.length:Int)))) (0:Int),0)) fun t0=>
 j3 t0)
def Oi(p0:LI)(p1:Int):(LI×Int×Int)->Option (Sum (LI×Int×Int) (LI×Int)):=fun s0=>
 if 0<=s0.2.2 then (bnd (idx p0 s0.2.2) fun x0=>
 gd (p1≠0)<|
 bnd (idx s0.1 s0.2.2) fun x1=>
 gd (p1≠0)<|
 some (.inl (setI s0.1 s0.2.2 (w64 (Int.tdiv (w64 ((w64 (s0.2.1*65536))+x0)) p1)),Int.tmod (w64 ((w64 (s0.2.1*65536))+x0)) p1,w64 (s0.2.2-1))))
 else (some (.inr (s0.1,s0.2.1)))
def Fm(p0:LI)(p1:Int):Option (LI×Int):=
 gd ((0:Int)<=(p0.length:Int)/\8*Int.toNat (p0.length:Int)<=140737488355328)<|
 jn (fun (s4:LI×Int)=>
 bnd (Bk s4.1) fun r0=>
 some (r0,s4.2))
 (fun j4=>bnd (lfix (Oi p0 p1) (List.replicate (Int.toNat (p0.length:Int)) (0:Int),0,w64 ((p0.length:Int)-1))) fun t0=>
 j4 t0)
def Hf(r0:LI)(r1:LI):(Int×LI)->Option (Sum (Int×LI) (Int×LI)):=fun s0=>
 bnd (Fd s0.2 r0) fun r2=>
 if 0<r2 then (bnd (Ez s0.2 r1) fun r3=>
 some (.inl (w64 (s0.1-1),r3)))
 else (some (.inr (s0.1,s0.2)))
def Db(r0:LI)(r1:LI):(LI×LI×Int)->Option (Sum (LI×LI×Int) (LI×LI)):=fun s0=>
 if 0<=s0.2.2 then (bnd (idx r0 s0.2.2) fun x0=>
 gd ((([x0]).length+s0.2.1.length)*8<=140737488355328)<|
 bnd (Bk (([x0])++s0.2.1)) fun r2=>
 jn (fun (s1:Int)=>
 bnd (Bk ([s1])) fun r3=>
 bnd (Ci r1 r3) fun r4=>
 jn (fun (s2:Int×LI)=>
 bnd (Ez r2 s2.2) fun r5=>
 bnd (idx s0.1 s0.2.2) fun x1=>
 some (.inl (setI s0.1 s0.2.2 s2.1,r5,w64 (s0.2.2-1))))
 (fun j0=>bnd (lfix (Hf r2 r1) (s1,r4)) fun t0=>
 j0 t0))
 (fun j1=>if (r1.length:Int)<=(r2.length:Int) then (bnd (idx r2 (w64 ((r2.length:Int)-1))) fun x2=>
 jn (fun (s3:Int)=>
 bnd (idx r1 (w64 ((r1.length:Int)-1))) fun x3=>
 gd (x3≠0)<|
 if 65536<=(w64 (Int.tdiv s3 x3)) then (j1 65535)
 else (j1 (w64 (Int.tdiv s3 x3))))
 (fun j2=>if (r1.length:Int)<(r2.length:Int) then (bnd (idx r2 (w64 ((r2.length:Int)-2))) fun x4=>
 j2 (w64 ((w64 (x2*65536))+x4)))
 else (j2 x2)))
 else (j1 0)))
 else (some (.inr (s0.1,s0.2.1)))
def Dd(p0:LI)(p1:LI):Option (LI×LI):=
 bnd (Fd p0 p1) fun r1=>
 if r1<0 then (some (([]:LI),p0))
 else (if (p1.length:Int)=1 then (bnd (idx p1 0) fun x9=>
 bnd (Fm p0 x9) fun r0=>
 bnd (Bd r0.2) fun r2=>
 some (r0.1,r2.L))
 else (bnd (idx p1 (w64 ((p1.length:Int)-1))) fun x0=>
 gd ((w64 (x0+1))≠0)<|
 bnd (Ci p0 ([w64 (Int.tdiv 65536 (w64 (x0+1)))])) fun r3=>
 bnd (Ci p1 ([w64 (Int.tdiv 65536 (w64 (x0+1)))])) fun r4=>
 gd ((0:Int)<=(w64 ((w64 ((r3.length:Int)-(r4.length:Int)))+1))/\8*Int.toNat (w64 ((w64 ((r3.length:Int)-(r4.length:Int)))+1))<=140737488355328)<|
 gd (0<=(w64 ((w64 ((r3.length:Int)-(r4.length:Int)))+1))/\(w64 ((w64 ((r3.length:Int)-(r4.length:Int)))+1))<=(r3.length:Int))<|
 gd (((([]:LI)).length+(subl r3 (w64 ((w64 ((r3.length:Int)-(r4.length:Int)))+1)) (r3.length:Int)).length)*8<=140737488355328)<|
 bnd (Bk ((([]:LI))++(subl r3 (w64 ((w64 ((r3.length:Int)-(r4.length:Int)))+1)) (r3.length:Int)))) fun r5=>
 jn (fun (s0:LI×LI)=>
 bnd (idx ([w64 (Int.tdiv 65536 (w64 (x0+1)))]) 0) fun x1=>
 bnd (Fm s0.2 x1) fun r6=>
 bnd (Bk s0.1) fun r7=>
 some (r7,r6.1))
 (fun j0=>bnd (lfix (Db r3 r4) (List.replicate (Int.toNat (w64 ((w64 ((r3.length:Int)-(r4.length:Int)))+1))) (0:Int),r5,w64 ((r3.length:Int)-(r4.length:Int)))) fun t0=>
 j0 t0)))
def Qz  : (LI×LI)->Option (Sum (LI×LI) LI):=fun s0=>
 if 0<(s0.2.length:Int) then (bnd (Dd s0.1 s0.2) fun r0=>
 some (.inl (s0.2,r0.2)))
 else (some (.inr s0.1))
def Ox(p0:LI)(p1:LI):Option LI:=
 jn (fun (s2:LI)=>
 some s2)
 (fun j2=>bnd (lfix Qz (p0,p1)) fun t0=>
 j2 t0)
instance(p0:Av):Con (Km p0) prog 210 (fun _ vs=>vs=[.agg #[iq p0.Lo,iq p0.Hi]]) (fun _ r=>fun v Ln=>v=.bool r/\Ln=[]/\True):=⟨by
 rintro _ _ r rfl hx w hK;unfold Km at hx;refine CtS ntmps210 results210 ?_;exact au⟩
instance(p0:Av)(p1:Av):Con (Us p0 p1) prog 143 (fun _ vs=>vs=[.agg #[iq p0.Lo,iq p0.Hi],.agg #[iq p1.Lo,iq p1.Hi]]) (fun _ r=>fun v Ln=>v=.tuple #[iq r.1,iq r.2]/\Ln=[]/\True):=⟨by
 rintro _ _ r rfl hx w hK;unfold Us at hx;refine CtS ntmps143 results143 ?_;exact au⟩
instance(p0:Int):Con (Bd p0) prog 88 (fun _ vs=>vs=[iq p0]) (fun _ r=>fun v Ln=>∃A0 c0,v=.agg #[.bool r.Neg,.slice A0 r.L.length c0]/\Ln=[.r A0 r.L.length c0 3 1 (r.L.flatMap Aj)]/\True):=⟨by
 rintro _ _ r rfl hx w hK;unfold Bd at hx;refine CtS ntmps88 results88 ?_;refine pq ?_;intros;rename_i hx
 refine pA ?_;intros;rename_i hx
 refine pA ?_;intros;rename_i hx
 apply Jr (γ:=Unit) hx [0,2] (fun s3 y3 f=>(3,.int .u64 s3)::f) [0,999] (fun s3 y3 l=>l);exact kk
 .intro s3 y3 hx;refine pq ?_;intros;rename_i hx
  refine pA ?_;intros;rename_i hx
  apply Jr (γ:=OA×Nat) hx [0,2] (fun s6 y6 f=>(4,.slice y6.1 s6.length y6.2)::f) [0,999] (fun s6 y6 l=>.r y6.1 s6.length y6.2 3 1 (s6.flatMap Aj)::l);exact kk
  .exact aI
  .refine pI ?_;intros;rename_i hx
   refine Bb 3 1 ?_;apply Lr (γ:=OA×Nat) hx [0,2] (fun s0 y0 f=>(3,.int .u64 s0.1)::(4,.slice y0.1 s0.2.length y0.2)::f) [1,999] (fun s0 y0 l=>.r y0.1 s0.2.length y0.2 3 1 (s0.2.flatMap Aj)::l) (_,_);exact kk;exact sk;intro s0 y0 x0 hx _;unfold Jm at hx;exact au
 .exact aI⟩
theorem Xq(p0:LI){K:LE}{U0:OA}{E0:Nat}(ha0:Has K U0 p0.length E0 1 Aj p0){r:LI}(hx:Bk p0=some r)(w:World)(hK:∀e∈K,Ent.ok w e):CtL prog 211 [.slice U0 p0.length E0] w fun v Ln=>v=.slice U0 r.length E0/\Ln=[]/\Has K U0 r.length E0 1 Aj r/\True:=by
 have ha0':=Has.up0 ha0;refine CtL.mk 21 func211 rfl ntmps211 kr rfl ?_;show T 21 _ [(0,.slice U0 p0.length E0)] _;unfold Bk at hx;refine Y8 ?_;refine Df (Zg rfl 3 underlying42) rfl ?_;refine Y3 ?_;refine Tj (γ:=Unit) hx (fun s3 y3=>[(0,.slice U0 p0.length E0),(3,iq s3)]) (fun s3 y3=>[]++[.old w]) (fun s3 y3=>True) (fun s3 y3 hx0 hG0=>?_) (fun j3 hx=>?_)
 .refine Y4 ?_;obtain⟨h0,hx1⟩:=Ek hx0;have hs0:=Has.subH ha0' h0.1 h0.2;refine Df (Ak9 rfl rfl Aiv h0.1 (by have:=Has.nc ha0';omega)) rfl ?_;refine Y4 ?_;refine Ape (s:=2) (v':=.slice U0 ((subl p0 0 s3).length) E0) rfl (by have hn0:(Int.toNat s3)=(subl p0 0 s3).length:=(Has.len hs0).symm;first|(rw[<-hn0];done)|rfl) ?_;obtain rfl:=Option.some.inj hx1;exact Oz (rs:=[.tmp 2]) results211 (.tmp rfl (.nil)) (Ln:=[]) ⟨rfl,rfl,Has.len' (Has.dn0 hs0),trivial⟩ Fw (by exact .refl)
 .refine Y ?_;obtain⟨t0,hl0,ho0⟩:=Bh hx;refine Lp (σ:=Int) (γ:=Unit) hl0 (fun s0 y0=>[(0,.slice U0 p0.length E0),(3,iq s0)]) (fun s0 y0=>[]++[.old w]) (fun s0 y0=>True) () trivial (by exact .refl) ?_;intro s0 y0 hG1 x0 hx2 ht0;unfold Pv at hx2;refine Y ?_;refine Tj (γ:=Unit) hx2 (fun s7 y7=>[(0,.slice U0 p0.length E0),(3,iq s0),(15,.bool s7)]) (fun s7 y7=>[]++[.old w]) (fun s7 y7=>True) (fun s7 y7 hx3 hG2=>?_) (fun j7 hx2=>?_)
  .refine Yl (s:=15) rfl (fun h1=>?_) (fun h1=>?_)
   .have hx4:=Xt h1 hx3;refine Y10 ?_;exact Rp (w64 (s0-1)) () hx4 trivial (by exact .refl)
   .have hx5:=Adh h1 hx3;refine Y3 ?_;obtain rfl:=Yo ht0 hx5;refine Y2 ?_;exact Mt s0 () ho0 trivial (by exact .refl)
  .refine Y4 ?_;refine Ti hx2 (s:=8) rfl (fun h2 hx6=>?_) (fun h2 hx7=>?_)
   .refine Y3 ?_;obtain⟨x1,h3,hx8⟩:=Bh hx6;have hw0:=Has.low (E:=[]) ha0' hK;obtain⟨b0,o0,j0,hA0,hj0,hl1,hp0⟩:=Has.at_idx hw0 h3;refine Ad6 rfl rfl rfl (Tm rfl rfl hA0 (j:=j0) hj0 hl1 Aiv) rfl ?_;refine Ad6 rfl rfl rfl (Qv rfl hp0 (sb 0) rfl one3) rfl ?_;refine Y3 ?_;exact Mt (decide (x1=0)) () hx8 trivial (by exact .refl)
   .refine Y8 ?_;exact Mt false () hx7 trivial (by exact .refl)
instance(p0:LI):ConB (Bk p0) prog 211 (fun K vs=>∃U0 E0,vs=[.slice U0 p0.length E0]/\Has K U0 p0.length E0 1 Aj p0/\True) (fun K r=>fun v Ln=>∃A0 c0 e,v=.slice A0 r.length c0/\Ln=[e]/\Has (K++[e]) A0 r.length c0 1 Aj r/\True):=⟨by
 rintro K _ r ⟨U0,E0,rfl,ha0,-⟩ hx w hK;exact CtL.bunB (Xq p0 ha0 hx w hK) (by
  rintro _ _ w1 hw ⟨rfl,rfl,_,-⟩;exact⟨_,_,_,rfl,rfl,hZ hw,trivial⟩)⟩
instance(p0:LI):TrI (Bk p0) prog 211 Aj 1 p0:=⟨fun _ h=>⟨Apd h,fun _ _ _ hs w hK=>Xq p0 hs h w hK⟩⟩
instance(p0:LI)(p1:LI):Con (Fd p0 p1) prog 213 (fun K vs=>∃U0 E0 U1 E1,vs=[.slice U0 p0.length E0,.slice U1 p1.length E1]/\Has K U0 p0.length E0 1 Aj p0/\Has K U1 p1.length E1 1 Aj p1/\True) (fun _ r=>fun v Ln=>v=iq r/\Ln=[]/\True):=⟨by
 rintro K _ r ⟨U0,E0,U1,E1,rfl,ha0,ha1,-⟩ hx w hK;replace ha0:=ha0.lo hK;replace ha1:=ha1.lo hK;unfold Fd at hx;have:=dl 8 [0,0,0,1,0,0,0,1,0] [0,1,2,3,4,5,6,7,8];have:=dl 9 [0,0,0,1,0,0,0,1,0] [0,1,2,3,4,5,6,7,8];refine CtS ntmps213 results213 ?_;refine pq ?_;intros;rename_i hx
 refine Cq2 (s:=10) hx rfl ?_ ?_
 .exact aI
 .refine pI ?_;intros;rename_i hx
  apply Jr (γ:=Unit) hx [] (fun s8 y8 f=>f) [999] (fun s8 y8 l=>l);exact kk
  .exact aI
  .refine pI ?_;intros;rename_i hx
   apply Lr (γ:=Unit) hx [0,1] (fun s61 y61 f=>(5,iq s61)::f) [999] (fun s61 y61 l=>l) ();exact kk;exact sk;intro s61 y61 x61 hx _;unfold Mh at hx;exact au⟩
instance(p0:LI)(p1:LI):Con (Jh p0 p1) prog 212 (fun K vs=>∃U0 E0 U1 E1,vs=[.slice U0 p0.length E0,.slice U1 p1.length E1]/\Has K U0 p0.length E0 1 Aj p0/\Has K U1 p1.length E1 1 Aj p1/\True) (fun _ r=>fun v Ln=>∃A0 c0,v=.slice A0 r.length c0/\Ln=[.r A0 r.length c0 3 1 (r.flatMap Aj)]/\True):=⟨by
 rintro K _ r ⟨U0,E0,U1,E1,rfl,ha0,ha1,-⟩ hx w hK;replace ha0:=ha0.lo hK;replace ha1:=ha1.lo hK;unfold Jh at hx;refine CtS ntmps212 results212 ?_;refine pq ?_;intros;rename_i hx
 refine pA ?_;intros;rename_i hx
 refine pA ?_;intros;rename_i hx
 refine pA ?_;intros;rename_i hx
 apply Jr (γ:=OA×Nat) hx [] (fun s4 y4 f=>(5,.slice y4.1 s4.length y4.2)::f) [999] (fun s4 y4 l=>.r y4.1 s4.length y4.2 3 1 (s4.flatMap Aj)::l);exact kk
 .exact aI
 .refine pI ?_;intros;rename_i hx
  refine Bb 3 1 ?_;apply Lr (γ:=OA×Nat) hx [0,1] (fun s0 y0 f=>(5,.slice y0.1 s0.1.length y0.2)::(6,iq s0.2.1)::(7,iq s0.2.2)::f) [999] (fun s0 y0 l=>.r y0.1 s0.1.length y0.2 3 1 (s0.1.flatMap Aj)::l) (_,_);exact kk;exact sk;intro s0 y0 x0 hx _;unfold Hn at hx;refine pq ?_;intros;rename_i hx
  refine pA ?_;intros;rename_i hx
  apply Jr (γ:=Unit) hx [0,1,5,6,7] (fun s1 y1 f=>(22,.bool s1)::f) [0,999] (fun s1 y1 l=>l);exact kk
  .intro s1 y1 hx;refine Cq3 (s:=22) hx rfl ?_ ?_
   .refine pI ?_;intros;rename_i hx
    refine pA ?_;intros;rename_i hx
    refine pA ?_;intros;rename_i hx
    apply Jr (γ:=Unit) hx [0,1,5,7] (fun s2 y2 f=>(8,iq s2)::f) [0,999] (fun s2 y2 l=>l);exact kk
    .exact aI
    .exact aI
   .exact aI
  .exact aI⟩
instance(p0:LI)(p1:LI):Con (Ez p0 p1) prog 214 (fun K vs=>∃U0 E0 U1 E1,vs=[.slice U0 p0.length E0,.slice U1 p1.length E1]/\Has K U0 p0.length E0 1 Aj p0/\Has K U1 p1.length E1 1 Aj p1/\True) (fun _ r=>fun v Ln=>∃A0 c0,v=.slice A0 r.length c0/\Ln=[.r A0 r.length c0 3 1 (r.flatMap Aj)]/\True):=⟨by
 rintro K _ r ⟨U0,E0,U1,E1,rfl,ha0,ha1,-⟩ hx w hK;replace ha0:=ha0.lo hK;replace ha1:=ha1.lo hK;unfold Ez at hx;refine CtS ntmps214 results214 ?_;refine pq ?_;intros;rename_i hx
 refine pA ?_;intros;rename_i hx
 refine pA ?_;intros;rename_i hx
 refine pA ?_;intros;rename_i hx
 apply Jr (γ:=OA×Nat) hx [] (fun s4 y4 f=>(5,.slice y4.1 s4.length y4.2)::f) [999] (fun s4 y4 l=>.r y4.1 s4.length y4.2 3 1 (s4.flatMap Aj)::l);exact kk
 .exact aI
 .refine pI ?_;intros;rename_i hx
  refine Bb 3 1 ?_;apply Lr (γ:=OA×Nat) hx [0,1] (fun s0 y0 f=>(5,.slice y0.1 s0.1.length y0.2)::(6,iq s0.2.1)::(7,iq s0.2.2)::f) [999] (fun s0 y0 l=>.r y0.1 s0.1.length y0.2 3 1 (s0.1.flatMap Aj)::l) (_,_);exact kk;exact sk;intro s0 y0 x0 hx _;unfold Fe at hx;refine pq ?_;intros;rename_i hx
  refine Cq1 (s:=12) hx rfl ?_ ?_
  .refine pI ?_;intros;rename_i hx
   apply Jr (γ:=Unit) hx [0,1,5,7] (fun s1 y1 f=>(8,iq s1)::f) [0,999] (fun s1 y1 l=>l);exact kk
   .exact aI
   .exact aI
  .exact aI⟩
instance(p0:LI)(p1:LI):Con (Ci p0 p1) prog 144 (fun K vs=>∃U0 E0 U1 E1,vs=[.slice U0 p0.length E0,.slice U1 p1.length E1]/\Has K U0 p0.length E0 1 Aj p0/\Has K U1 p1.length E1 1 Aj p1/\True) (fun _ r=>fun v Ln=>∃A0 c0,v=.slice A0 r.length c0/\Ln=[.r A0 r.length c0 3 1 (r.flatMap Aj)]/\True):=⟨by
 rintro K _ r ⟨U0,E0,U1,E1,rfl,ha0,ha1,-⟩ hx w hK;replace ha0:=ha0.lo hK;replace ha1:=ha1.lo hK;unfold Ci at hx;have:=dl 9 [0,0,0,1,0,0,0,1,0,0,0,0,0,0,1,0,0,0,2] [0,1,2,3,4,5,6,7,8,9,10,11,12,13,14,15,16,17,18];refine CtS ntmps144 results144 ?_;refine pq ?_;intros;rename_i hx
 apply Jr (γ:=OA×Nat) hx [] (fun s3 y3 f=>(5,.slice y3.1 s3.length y3.2)::f) [999] (fun s3 y3 l=>.r y3.1 s3.length y3.2 3 1 (s3.flatMap Aj)::l);exact kk
 .exact aI
 .refine pI ?_;intros;rename_i hx
  apply Lr (γ:=OA×Nat) hx [0,1] (fun s0 y0 f=>(5,.slice y0.1 s0.1.length y0.2)::(6,iq s0.2)::f) [999] (fun s0 y0 l=>.r y0.1 s0.1.length y0.2 3 1 (s0.1.flatMap Aj)::l) (_,_);exact kk;exact sk;intro s0 y0 x0 hx _;unfold Gq at hx;refine pq ?_;intros;rename_i hx
  refine Cq1 (s:=19) hx rfl ?_ ?_
  .refine pI ?_;intros;rename_i hx
   refine pA ?_;intros;rename_i hx
   refine pA ?_;intros;rename_i hx
   apply Jr (γ:=OA×Nat) hx [0,1,6] (fun s1 y1 f=>(5,.slice y1.1 s1.1.length y1.2)::(7,iq s1.2)::f) [999] (fun s1 y1 l=>.r y1.1 s1.1.length y1.2 3 1 (s1.1.flatMap Aj)::l);exact kk
   .exact aI
   .refine pI ?_;intros;rename_i hx
    apply Lr (γ:=OA×Nat) hx [0,1,6] (fun s2 y2 f=>(5,.slice y2.1 s2.1.length y2.2)::(7,iq s2.2.1)::(8,iq s2.2.2)::f) [999] (fun s2 y2 l=>.r y2.1 s2.1.length y2.2 3 1 (s2.1.flatMap Aj)::l) (_,_);exact kk;exact sk;intro s2 y2 x1 hx _;unfold Gp at hx;exact au
  .exact aI⟩
instance(p0:LI)(p1:Int):Con (Fm p0 p1) prog 320 (fun K vs=>∃U0 E0,vs=[.slice U0 p0.length E0,iq p1]/\Has K U0 p0.length E0 1 Aj p0/\True) (fun _ r=>fun v Ln=>∃A0 c0,v=.tuple #[.slice A0 r.1.length c0,iq r.2]/\Ln=[.r A0 r.1.length c0 3 1 (r.1.flatMap Aj)]/\True):=⟨by
 rintro K _ r ⟨U0,E0,rfl,ha0,-⟩ hx w hK;replace ha0:=ha0.lo hK;unfold Fm at hx;refine CtS ntmps320 results320 ?_;refine pq ?_;intros;rename_i hx
 refine pA ?_;intros;rename_i hx
 apply Jr (γ:=OA×Nat) hx [] (fun s4 y4 f=>(6,.slice y4.1 s4.1.length y4.2)::(7,iq s4.2)::f) [999] (fun s4 y4 l=>.r y4.1 s4.1.length y4.2 3 1 (s4.1.flatMap Aj)::l);exact kk
 .exact aI
 .refine pI ?_;intros;rename_i hx
  apply Lr (γ:=OA×Nat) hx [0,1] (fun s0 y0 f=>(6,.slice y0.1 s0.1.length y0.2)::(7,iq s0.2.1)::(8,iq s0.2.2)::f) [999] (fun s0 y0 l=>.r y0.1 s0.1.length y0.2 3 1 (s0.1.flatMap Aj)::l) (_,_);exact kk;exact sk;intro s0 y0 x0 hx _;unfold Oi at hx;exact au⟩
instance Acw(p0:LI)(p1:LI):ConB (Dd p0 p1) prog 303 (fun K vs=>∃U0 E0 U1 E1,vs=[.slice U0 p0.length E0,.slice U1 p1.length E1]/\Has K U0 p0.length E0 1 Aj p0/\Has K U1 p1.length E1 1 Aj p1/\True) (fun K r=>fun v Ln=>∃A0 c0 A2 c2 e,v=.tuple #[.slice A0 r.1.length c0,.slice A2 r.2.length c2]/\Ln=[.r A0 r.1.length c0 3 1 (r.1.flatMap Aj),e]/\Has (K++[e]) A2 r.2.length c2 1 Aj r.2/\True):=⟨by
 rintro K _ r ⟨U0,E0,U1,E1,rfl,ha0,ha1,-⟩ hx w hK;unfold Dd at hx;refine CtS ntmps303 results303 ?_;refine pq ?_;intros;rename_i hx
 refine Cq1e (s:=22) hx rfl cQ ?_ ?_
 .exact aI
 .refine pI ?_;intros;rename_i hx
  refine Cq1e (s:=26) hx rfl cQ ?_ ?_
  .exact aI
  .refine pI ?_;intros;rename_i hx
   (with_reducible apply Ae2 61 (sz:=1));exact rfl;exact aT;exact inferInstance;exact dL;exact (fun _=>rfl);exact rfl;exact rfl;exact sA
   refine pq ?_;intros;rename_i hx
   rename Int=>x0
   apply Jr (γ:=OA×Nat×OA×Nat×Nat) hx [] (fun s0 y0 f=>(8,.slice (some ⟨y0.2.2.2.2,0,none⟩) 1 1)::(11,.slice y0.1 s0.1.length y0.2.1)::(12,.slice y0.2.2.1 s0.2.length y0.2.2.2.1)::f) [999] (fun s0 y0 l=>.r y0.2.2.1 s0.2.length y0.2.2.2.1 3 1 (s0.2.flatMap Aj) :: .r y0.1 s0.1.length y0.2.1 3 1 (s0.1.flatMap Aj) :: .r (some ⟨y0.2.2.2.2,0,none⟩) 1 1 3 1 (([w64 (Int.tdiv 65536 (w64 (x0+1)))]).flatMap Aj)::l);exact kk
   .exact aI
   .refine pI ?_;intros;rename_i hx
    (with_reducible apply Ae2 47 (sz:=1));exact rfl;exact aT;exact inferInstance;exact dL;exact (fun _=>rfl);exact rfl;exact rfl;exact sA
    apply Lr (γ:=OA×Nat×OA×Nat) hx [8,9,10] (fun s1 y1 f=>(11,.slice y1.1 s1.1.length y1.2.1)::(12,.slice y1.2.2.1 s1.2.1.length y1.2.2.2)::(13,iq s1.2.2)::f) [2,3,4,999] (fun s1 y1 l=>.r y1.2.2.1 s1.2.1.length y1.2.2.2 3 1 (s1.2.1.flatMap Aj) :: .r y1.1 s1.1.length y1.2.1 3 1 (s1.1.flatMap Aj)::l) (_,_,_,_);exact kk;exact sk;intro s1 y1 x1 hx _;unfold Db at hx;refine pq ?_;intros;rename_i hx
    refine Cq1e (s:=78) hx rfl cQ ?_ ?_
    .refine pI ?_;intros;rename_i hx
     (with_reducible apply Ae2 85 (sz:=1));exact rfl;exact aT;exact inferInstance;exact dL;exact (fun _=>rfl);exact rfl;exact rfl;exact sA
     refine pq ?_;intros;rename_i hx
     refine pA ?_;intros;rename_i hx
     apply Jr (γ:=Unit) hx [8,9,10,11,12,13] (fun s2 y2 f=>(14,iq s2)::f) [0,2,3,4,5,999] (fun s2 y2 l=>l);exact kk
     .intro s2 y2 hx;refine pq ?_;intros;rename_i hx
      apply Jr (γ:=OA×Nat) hx [8,9,10,11,12,13] (fun s3 y3 f=>(14,iq s3.1)::(16,.slice y3.1 s3.2.length y3.2)::f) [3,4,5,6,7,999] (fun s3 y3 l=>.r y3.1 s3.2.length y3.2 3 1 (s3.2.flatMap Aj)::l);exact kk
      .exact aI
      .refine pI ?_;intros;rename_i hx
       apply Lr (γ:=OA×Nat) hx [8,9,10,11,12,13] (fun s4 y4 f=>(14,iq s4.1)::(16,.slice y4.1 s4.2.length y4.2)::f) [3,4,5,6,7,999] (fun s4 y4 l=>.r y4.1 s4.2.length y4.2 3 1 (s4.2.flatMap Aj)::l) (_,_);exact kk;exact sk;intro s4 y4 x2 hx _;unfold Hf at hx;exact au
     .exact aI
    .exact aI⟩
theorem Abj(p0:LI)(p1:LI){K:LE}{U0:OA}{E0:Nat}{U1:OA}{E1:Nat}(ha0:Has K U0 p0.length E0 1 Aj p0)(ha1:Has K U1 p1.length E1 1 Aj p1){r:LI×LI}(hx:Dd p0 p1=some r)(w:World)(hK:∀e∈K,Ent.ok w e):CtL prog 303 [.slice U0 p0.length E0,.slice U1 p1.length E1] w fun v Ln=>∃(A0:OA) (c0:Nat) (A2:OA) (c2:Nat) (e0:Ent),v=.tuple #[.slice A0 r.1.length c0,.slice A2 r.2.length c2]/\Ln=[.r A0 r.1.length c0 3 1 (r.1.flatMap Aj),e0]/\Has (K++[e0]) A2 r.2.length c2 1 Aj r.2/\True:=(Acw p0 p1).h K _ _ ⟨_,_,_,_,rfl,ha0,ha1,trivial⟩ hx w hK
theorem Aed(p0:LI)(p1:LI){K:LE}{U0:OA}{E0:Nat}{U1:OA}{E1:Nat}(ha0:Has K U0 p0.length E0 1 Aj p0)(ha1:Has K U1 p1.length E1 1 Aj p1){r:LI}(hx:Ox p0 p1=some r)(w:World)(hK:∀e∈K,Ent.ok w e):CtL prog 319 [.slice U0 p0.length E0,.slice U1 p1.length E1] w fun v Ln=>∃(A0:OA) (c0:Nat) (e0:Ent),v=.slice A0 r.length c0/\Ln=[e0]/\Has (K++[e0]) A0 r.length c0 1 Aj r/\True:=by
 have ha0':=Has.up0 ha0;have ha1':=Has.up0 ha1;refine CtL.mk 19 func319 rfl ntmps319 kr rfl ?_;show T 19 _ [(0,.slice U0 p0.length E0),(1,.slice U1 p1.length E1)] _;unfold Ox at hx;refine Y5 ?_;obtain⟨j2,hj2,hx⟩:=Az5 hx;refine Ak5 (τ:=LI) (γ:=OA×Nat×Ent) (J:=j2) (out:=r) (fun s2 y2=>[(0,.slice y2.1 s2.length y2.2.1)]) (fun s2 y2=>[y2.2.2]++[.old w]) (fun s2 y2=>y2.2.2.low=0/\Has (K++[y2.2.2]) y2.1 s2.length y2.2.1 1 Aj s2/\True) ?_ ?_
 .intro s2 y2 hx0 hG0;obtain⟨lo57,hs0,-⟩:=hG0;subst hj2;refine Y7 ?_;obtain rfl:=Option.some.inj hx0;exact Oz (rs:=[.tmp 4]) results319 (.tmp rfl (.nil)) (Ln:=[y2.2.2]) ⟨y2.1,y2.2.1,y2.2.2,rfl,rfl,Has.len' hs0,trivial⟩ (Bn lo57 Fw) (by exact .pick 0 rfl (.refl))
 .skip;refine Y ?_;obtain⟨t0,hl0,ho0⟩:=Bh hx;refine Bb 0 1 ?_;refine Lp (σ:=LI×LI) (γ:=OA×Nat×Ent×OA×Nat) hl0 (fun s0 y0=>[(0,.slice y0.1 s0.1.length y0.2.1),(1,.slice y0.2.2.2.1 s0.2.length y0.2.2.2.2)]) (fun s0 y0=>[y0.2.2.1]++[.old w]) (fun s0 y0=>y0.2.2.1.low=0/\Has (K++[y0.2.2.1]) y0.1 s0.1.length y0.2.1 1 Aj s0.1/\Has (K++[y0.2.2.1]) y0.2.2.2.1 s0.2.length y0.2.2.2.2 1 Aj s0.2/\True) (U0,E0,.r none 0 0 0 1 [],U1,E1) ((by exact⟨rfl,Has.len' ((Has.up (L:=(K++[.r none 0 0 0 1 []])) ha0' (SubE.app2 SubE.nil))),Has.len' ((Has.up (L:=(K++[.r none 0 0 0 1 []])) ha1' (SubE.app2 SubE.nil))),trivial⟩)) (by exact .pick 0 rfl (.refl)) ?_;intro s0 y0 hG1 x0 hx1 ht0;unfold Qz at hx1;obtain⟨lo38,hs1,hs2,-⟩:=hG1;refine Y4 ?_;refine Df (Zg rfl 3 underlying42) rfl ?_;refine Y3 ?_;refine Ti hx1 (s:=9) rfl (fun h0 hx2=>?_) (fun h0 hx3=>?_)
  .refine Y8 ?_;obtain⟨r0,h1,hx4⟩:=Bh hx2;refine T_x (Tp rfl (fun w1 hw1=>Abj s0.1 s0.2 (Has.len' hs1) (Has.len' hs2) h1 w1 (Bb1 (K:=K) (K2:=[y0.2.2.1]) hK (by exact (sb 1)) (by exact (sb 0)) hw1)) rfl ?_);rintro _ _ hlo ⟨A1,c1,A2,c2,e1,rfl,rfl,hs3,-⟩;have lo53:=hlo e1 s_;refine Yy ?_;have hs4:Has (K++[y0.2.2.1,e1]) _ _ _ _ _ _:=Has.assoc hs3;(iterate 14 refine Y ?_);refine Av8 (es:=[y0.2.2.1,e1]) (by exact .pick 2 rfl (.pick 1 rfl (.refl))) (Bn lo38 (Bn lo53 Fw)) ?_;exact Rp (s0.2,r0.2) (y0.2.2.2.1,y0.2.2.2.2,bun [y0.2.2.1,e1],A2,c2) hx4 ((by exact⟨rfl,Has.len' ((Has.up (L:=(K++[(bun [y0.2.2.1,e1])])) hs2 (SubE.app2 (SubE.consB (i:=0) (j:=0) rfl rfl SubE.nil)))),Has.len' ((Has.up (L:=(K++[(bun [y0.2.2.1,e1])])) hs4 (SubE.app2 (SubE.consB (i:=0) (j:=0) rfl rfl (SubE.consB (i:=0) (j:=1) rfl rfl SubE.nil))))),trivial⟩)) (by exact .pick 0 rfl (.drop 0 rfl (.refl)))
  .refine Y3 ?_;obtain rfl:=Yo ht0 hx3;refine Y2 ?_;exact Mt s0.1 (y0.1,y0.2.1,y0.2.2.1) ho0 ((by exact⟨lo38,Has.len' hs1,trivial⟩)) (by exact .pick 0 rfl (.refl))
instance(p0:LI)(p1:LI):ConB (Ox p0 p1) prog 319 (fun K vs=>∃U0 E0 U1 E1,vs=[.slice U0 p0.length E0,.slice U1 p1.length E1]/\Has K U0 p0.length E0 1 Aj p0/\Has K U1 p1.length E1 1 Aj p1/\True) (fun K r=>fun v Ln=>∃A0 c0 e,v=.slice A0 r.length c0/\Ln=[e]/\Has (K++[e]) A0 r.length c0 1 Aj r/\True):=⟨by
 rintro K _ r ⟨U0,E0,U1,E1,rfl,ha0,ha1,-⟩ hx w hK;exact CtL.bunB (Aed p0 p1 ha0 ha1 hx w hK) (by
  rintro _ _ w1 hw ⟨_,_,_,rfl,rfl,_,-⟩;exact⟨_,_,_,rfl,rfl,hZ hw,trivial⟩)⟩
end
end Go.Proofs.YthlkpgdfifnagaaGreat
